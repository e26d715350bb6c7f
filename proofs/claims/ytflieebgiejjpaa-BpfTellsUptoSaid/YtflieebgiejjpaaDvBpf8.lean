import Derived.Test.YtflieebgiejjpaaAmZ2
import Derived.Test.YtflieebgiejjpaaDvBpf7
import Derived.Test.YtflieebgiejjpaaAmY
set_option linter.unusedVariables false
set_option linter.unusedSimpArgs false
namespace Go.Proofs.Ytflieebgiejjpaa
open Go.AM Go.ChangeShapes Go.WideShapes Go.ChangeAt Go.RowKit
/-! Bytes of programs, and programs of bytes. -/
theorem insE_in {i : Ins} {a s : Int} (h : insE i a s = 0) (ha : 0 ≤ a) (hs : s ≤ 400) : ∃ o x y k : Nat, i = ⟨o, x, y, k⟩ ∧ o < 256 ∧ x < 256 ∧ y < 256 ∧ k < 2147483648 := by
  obtain ⟨o, jt, jf, k⟩ := i
  have done : 0 ≤ o → o < 256 → 0 ≤ jt → jt < 256 → 0 ≤ jf → jf < 256 → 0 ≤ k → k < 2147483648 → ∃ o' x y k' : Nat, (⟨o, jt, jf, k⟩ : Ins) = ⟨o', x, y, k'⟩ ∧ o' < 256 ∧ x < 256 ∧ y < 256 ∧ k' < 2147483648 := by
    intro a1 a2 a3 a4 a5 a6 a7 a8
    refine ⟨o.toNat, jt.toNat, jf.toNat, k.toNat, ?_, by omega, by omega, by omega, by omega⟩
    rw [Int.toNat_of_nonneg a1, Int.toNat_of_nonneg a3, Int.toNat_of_nonneg a5, Int.toNat_of_nonneg a7]
  rcases insE_op h with ho | ho | ho | ho | ho | ho <;> simp only at ho <;> subst ho
  · rw [insE_1] at h
    split at h
    · simp at h
    · split at h
      · simp at h
      · exact done (by omega) (by omega) (by omega) (by omega) (by omega) (by omega) (by omega) (by omega)
  · rw [insE_j _ _ _ _ _ _ (by omega)] at h
    split at h
    · simp at h
    · exact done (by omega) (by omega) (by omega) (by omega) (by omega) (by omega) (by omega) (by omega)
  · rw [insE_j _ _ _ _ _ _ (by omega)] at h
    split at h
    · simp at h
    · exact done (by omega) (by omega) (by omega) (by omega) (by omega) (by omega) (by omega) (by omega)
  · rw [insE_j _ _ _ _ _ _ (by omega)] at h
    split at h
    · simp at h
    · exact done (by omega) (by omega) (by omega) (by omega) (by omega) (by omega) (by omega) (by omega)
  · rw [insE_5 _ _ _ _ _ ha] at h
    split at h
    · simp at h
    · split at h
      · simp at h
      · exact done (by omega) (by omega) (by omega) (by omega) (by omega) (by omega) (by omega) (by omega)
  · rw [insE_6] at h
    split at h
    · simp at h
    · split at h
      · simp at h
      · exact done (by omega) (by omega) (by omega) (by omega) (by omega) (by omega) (by omega) (by omega)
theorem fdivN (k n : Nat) : (k : Int).fdiv (2 ^ n) = ((k / 2 ^ n : Nat) : Int) := by
  have h : ((2 : Int) ^ n) = ((2 ^ n : Nat) : Int) := by simp
  rw [h, Int.fdiv_eq_ediv_of_nonneg _ (Int.natCast_nonneg _)]
  exact (Int.natCast_ediv _ _).symm
theorem insB_nat {o x y k : Nat} (h1 : o < 256) (h2 : x < 256) (h3 : y < 256) : insB ⟨o, x, y, k⟩ = [(o : Int), (x : Int), (y : Int), ((k % 256 : Nat) : Int), ((k / 256 % 256 : Nat) : Int), ((k / 65536 % 256 : Nat) : Int), ((k / 16777216 % 256 : Nat) : Int)] := by
  simp only [insB, shr]
  rw [fdivN, fdivN, fdivN, u8_wrap, u8_wrap, u8_wrap, u8_wrap, u8_wrap, u8_wrap, u8_wrap, Nat.mod_eq_of_lt h1, Nat.mod_eq_of_lt h2, Nat.mod_eq_of_lt h3]
theorem bytesOf_getD : ∀ (p : List Ins) (k : Nat) (i : Ins), p[k]? = some i → ∀ j, j < 7 → (bytesOf p).getD (7 * k + j) 0 = (insB i).getD j 0
  | [], k, i, h, _, _ => by simp at h
  | x :: r, 0, i, h, j, hj => by
    simp at h
    subst h
    simp only [bytesOf, List.getD, Nat.mul_zero, Nat.zero_add]
    rw [List.getElem?_append_left (by simp [insB]; omega)]
  | x :: r, k + 1, i, h, j, hj => by
    have ih := bytesOf_getD r k i (by simpa using h) j hj
    simp only [bytesOf, List.getD] at ih ⊢
    rw [List.getElem?_append_right (by simp [insB]; omega)]
    rw [show 7 * (k + 1) + j - (insB x).length = 7 * k + j by simp [insB]; omega]
    exact ih
theorem insAt_bytes {p : List Ins} {n : Nat} {o x y k : Nat} (hi : p[n]? = some ⟨o, x, y, k⟩) (h1 : o < 256) (h2 : x < 256) (h3 : y < 256) (h4 : k < 2147483648) : insAt (bytesOf p) n = ⟨o, x, y, k⟩ := by
  have g := bytesOf_getD p n _ hi
  rw [insB_nat h1 h2 h3] at g
  have w : ∀ m : Nat, m < 256 → IntKind.i64.wrap (m : Int) = m := fun m h => wrapN (by omega)
  simp only [insAt]
  rw [g 0 (by omega), g 1 (by omega), g 2 (by omega), g 3 (by omega), g 4 (by omega), g 5 (by omega), g 6 (by omega)]
  simp only [List.getD, List.getElem?_cons_zero, List.getElem?_cons_succ, Option.getD_some]
  rw [w o h1, w x h2, w y h3, w _ (Nat.mod_lt _ (by omega)), w _ (Nat.mod_lt _ (by omega)), w _ (Nat.mod_lt _ (by omega)), w _ (Nat.mod_lt _ (by omega))]
  rw [four (Nat.mod_lt _ (by omega)) (Nat.mod_lt _ (by omega)) (Nat.mod_lt _ (by omega)) (Nat.mod_lt _ (by omega))]
  rw [show k % 256 + k / 256 % 256 * 256 + k / 65536 % 256 * 65536 + k / 16777216 % 256 * 16777216 = k by omega]
theorem progOf_len (b : List Int) (n : Nat) : (progOf b n).length = n := by simp [progOf]
theorem progOf_get {b : List Int} {n k : Nat} (h : k < n) : (progOf b n)[k]? = some (insAt b k) := by
  simp [progOf, h]
theorem progOf_bytes {p : List Ins} (h : (checkS p).1 = 0) : progOf (bytesOf p) p.length = p := by
  obtain ⟨_, h2, h3, _⟩ := check_all h
  apply List.ext_getElem?
  intro k
  rcases Nat.lt_or_ge k p.length with hk | hk
  · rw [progOf_get hk]
    have hi := List.getElem?_eq_getElem hk
    obtain ⟨o, x, y, n, e, a1, a2, a3, a4⟩ := insE_in (h3 k _ hi) (by omega) (by omega)
    rw [hi, e]
    rw [e] at hi
    rw [insAt_bytes hi a1 a2 a3 a4]
  · rw [List.getElem?_eq_none (by rw [progOf_len]; exact hk), List.getElem?_eq_none hk]
theorem bytes_parse {p : List Ins} (h : (checkS p).1 = 0) : parseS (bytesOf p) = (p, (0, 0)) := by
  obtain ⟨h1, h2, _⟩ := check_all h
  have hl := bytesOf_len p
  rw [parseS, if_neg (by omega), show (bytesOf p).length / 7 = p.length by omega, progOf_bytes h, if_pos h]
/-- bytes as they are -/
def hv (b : List Int) (j : Nat) : Nat := (b.getD j 0).toNat
def BY (b : List Int) : Prop := ∀ x, x ∈ b → 0 ≤ x ∧ x ≤ 255
theorem hv_eq {b : List Int} (hb : BY b) (j : Nat) : b.getD j 0 = (hv b j : Int) ∧ hv b j < 256 := by
  have : 0 ≤ b.getD j 0 ∧ b.getD j 0 ≤ 255 := by
    simp only [List.getD]
    cases h : b[j]? with
    | none => simp
    | some x => exact hb x (List.mem_of_getElem? h)
  simp only [hv]
  omega
theorem insAt_hv {b : List Int} (hb : BY b) (k : Nat) : insAt b k = ⟨hv b (7 * k), hv b (7 * k + 1), hv b (7 * k + 2), ((hv b (7 * k + 3) + hv b (7 * k + 4) * 256 + hv b (7 * k + 5) * 65536 + hv b (7 * k + 6) * 16777216 : Nat) : Int)⟩ := by
  have w : ∀ j, IntKind.i64.wrap (b.getD j 0) = hv b j := fun j => by
    rw [(hv_eq hb j).1]; exact wrapN (by have := (hv_eq hb j).2; omega)
  simp only [insAt, w]
  rw [four (hv_eq hb _).2 (hv_eq hb _).2 (hv_eq hb _).2 (hv_eq hb _).2]
  rfl
theorem insB_insAt {b : List Int} (hb : BY b) (k : Nat) : insB (insAt b k) = [b.getD (7 * k) 0, b.getD (7 * k + 1) 0, b.getD (7 * k + 2) 0, b.getD (7 * k + 3) 0, b.getD (7 * k + 4) 0, b.getD (7 * k + 5) 0, b.getD (7 * k + 6) 0] := by
  rw [insAt_hv hb, insB_nat (hv_eq hb _).2 (hv_eq hb _).2 (hv_eq hb _).2]
  have h3 := (hv_eq hb (7 * k + 3)).2
  have h4 := (hv_eq hb (7 * k + 4)).2
  have h5 := (hv_eq hb (7 * k + 5)).2
  have h6 := (hv_eq hb (7 * k + 6)).2
  rw [(hv_eq hb (7 * k)).1, (hv_eq hb (7 * k + 1)).1, (hv_eq hb (7 * k + 2)).1, (hv_eq hb (7 * k + 3)).1, (hv_eq hb (7 * k + 4)).1, (hv_eq hb (7 * k + 5)).1, (hv_eq hb (7 * k + 6)).1]
  generalize hv b (7 * k + 3) = x at *
  generalize hv b (7 * k + 4) = y at *
  generalize hv b (7 * k + 5) = z at *
  generalize hv b (7 * k + 6) = u at *
  rw [show (x + y * 256 + z * 65536 + u * 16777216) % 256 = x by omega, show (x + y * 256 + z * 65536 + u * 16777216) / 256 % 256 = y by omega,
    show (x + y * 256 + z * 65536 + u * 16777216) / 65536 % 256 = z by omega, show (x + y * 256 + z * 65536 + u * 16777216) / 16777216 % 256 = u by omega]
theorem take1 {b : List Int} {n : Nat} (h : n < b.length) : b.take (n + 1) = b.take n ++ [b.getD n 0] := by
  rw [List.take_add_one, List.getD, List.getElem?_eq_getElem h]
  rfl
theorem take7 {b : List Int} {n : Nat} (h : 7 * n + 7 ≤ b.length) : b.take (7 * (n + 1)) = b.take (7 * n) ++ [b.getD (7 * n) 0, b.getD (7 * n + 1) 0, b.getD (7 * n + 2) 0, b.getD (7 * n + 3) 0, b.getD (7 * n + 4) 0, b.getD (7 * n + 5) 0, b.getD (7 * n + 6) 0] := by
  rw [show 7 * (n + 1) = 7 * n + 6 + 1 by omega, take1 (by omega), take1 (by omega), take1 (by omega), take1 (by omega), take1 (by omega), take1 (by omega), take1 (by omega)]
  simp only [List.append_assoc, List.cons_append, List.nil_append]
theorem bytesOf_progOf {b : List Int} (hb : BY b) : ∀ n, 7 * n ≤ b.length → bytesOf (progOf b n) = b.take (7 * n)
  | 0, _ => by simp [progOf, bytesOf]
  | n + 1, h => by
    rw [progOf_succ, bytesOf_append, bytesOf_progOf hb n (by omega), take7 (by omega), bytesOf, insB_insAt hb, bytesOf, List.append_nil]
theorem parse_bytes {b : List Int} (hb : BY b) (h : (parseS b).2.1 = 0) : bytesS (parseS b).1 = (b, (0, 0)) ∧ (parseS b).2 = (0, 0) := by
  unfold parseS at h ⊢
  split at h
  · simp at h
  · rename_i hc
    rw [if_neg hc]
    split at h
    · rename_i h0
      rw [if_pos h0]
      refine ⟨?_, rfl⟩
      show bytesS (progOf b (b.length / 7)) = _
      rw [bytesS, if_pos h0, bytesOf_progOf hb _ (by omega), List.take_of_length_le (by omega)]
    · rename_i h0
      exact absurd h h0
end Go.Proofs.Ytflieebgiejjpaa
