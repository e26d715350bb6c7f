import Derived.Test.YtflieebgiejjpaaAmZ2
import Derived.Test.YtflieebgiejjpaaDvBpf6
import Derived.Test.YtflieebgiejjpaaAmY
set_option linter.unusedVariables false
set_option linter.unusedSimpArgs false
namespace Go.Proofs.Ytflieebgiejjpaa
open Go.AM Go.ChangeShapes Go.WideShapes Go.ChangeAt Go.RowKit
/-! A program with a skip over others ahead of it. -/
theorem insE_move {i : Ins} {a s a' s' : Int} (h : insE i a s = 0) (ha : 0 ≤ a) (ha' : 0 ≤ a') (hs : s - a ≤ s' - a') : insE i a' s' = 0 := by
  obtain ⟨o, jt, jf, k⟩ := i
  rcases insE_op h with ho | ho | ho | ho | ho | ho <;> simp only at ho <;> subst ho
  · rw [insE_1] at h ⊢; exact h
  · rw [insE_j _ _ _ _ _ _ (by omega)] at h ⊢
    split at h
    · simp at h
    · rw [if_neg (by omega)]
  · rw [insE_j _ _ _ _ _ _ (by omega)] at h ⊢
    split at h
    · simp at h
    · rw [if_neg (by omega)]
  · rw [insE_j _ _ _ _ _ _ (by omega)] at h ⊢
    split at h
    · simp at h
    · rw [if_neg (by omega)]
  · rw [insE_5 _ _ _ _ _ ha] at h
    rw [insE_5 _ _ _ _ _ ha']
    split at h
    · simp at h
    · rw [if_neg (by omega)]; exact h
  · rw [insE_6] at h ⊢; exact h
theorem check_of {p : List Ins} (h1 : 1 ≤ p.length) (h2 : p.length ≤ 400) (h3 : ∀ (j : Nat) i, p[j]? = some i → insE i (j : Int) p.length = 0) {i : Ins} (h4 : p[p.length - 1]? = some i) (h5 : i.op = 6) : checkS p = (0, 0) := by
  have hall := chkS_ok p.length p 0 fun j i hi => by simpa using h3 j i hi
  rw [checkS, if_neg (by omega), hall, if_neg (by simp), h4]
  simp only
  rw [if_pos h5]
theorem check_zero {p : List Ins} (h : (checkS p).1 = 0) : checkS p = (0, 0) := by
  obtain ⟨h1, h2, h3, i, h4, h5⟩ := check_all h
  exact check_of h1 h2 h3 h4 h5
def ahead (o p : List Ins) : List Ins := ⟨5, 0, 0, o.length⟩ :: (o ++ p)
theorem check_ahead {o p : List Ins} (ho : (checkS o).1 = 0) (hp : (checkS p).1 = 0) (h1 : o.length ≤ 150) (h2 : p.length ≤ 150) : checkS (ahead o p) = (0, 0) := by
  obtain ⟨o1, o2, o3, _⟩ := check_all ho
  obtain ⟨p1, p2, p3, i, p4, p5⟩ := check_all hp
  have hl : (ahead o p).length = 1 + o.length + p.length := by simp [ahead]; omega
  refine check_of (i := i) (by omega) (by omega) (fun j x hx => ?_) ?_ p5
  · rw [hl]
    cases j with
    | zero =>
      simp [ahead] at hx
      subst hx
      rw [insE_5 _ _ _ _ _ (by omega), if_neg (by omega)]
      simp
    | succ j =>
      simp only [ahead, List.getElem?_cons_succ] at hx
      rcases Nat.lt_or_ge j o.length with hj | hj
      · rw [List.getElem?_append_left hj] at hx
        exact insE_move (o3 j x hx) (by omega) (by omega) (by omega)
      · rw [List.getElem?_append_right hj] at hx
        exact insE_move (p3 _ x hx) (by omega) (by omega) (by omega)
  · rw [hl, show 1 + o.length + p.length - 1 = (o.length + (p.length - 1)) + 1 by omega]
    simp only [ahead, List.getElem?_cons_succ]
    rw [List.getElem?_append_right (by omega), show o.length + (p.length - 1) - o.length = p.length - 1 by omega, p4]
theorem runW_out {p : List Ins} {r : Rec} {a : Nat} {acc : Int} (h : p.length ≤ a) : runW p r a acc = (0, 0) := by
  rw [runW, dif_neg (by omega)]
theorem run_append (q p : List Ins) (r : Rec) : ∀ (n a : Nat) (acc : Int), p.length - a = n → runW (q ++ p) r (q.length + a) acc = runW p r a acc := by
  intro n
  induction n using Nat.strongRecOn with
  | _ n ih =>
    intro a acc hn
    rcases Nat.lt_or_ge a p.length with hlt | hge
    · have hi := List.getElem?_eq_getElem hlt
      generalize p[a] = i at hi
      have hi2 : (q ++ p)[q.length + a]? = some i := by
        rw [List.getElem?_append_right (by omega), Nat.add_sub_cancel_left, hi]
      by_cases ho : i.op = 6
      · rw [runW_back hi ho, runW_back hi2 ho]
      · have hp := nxt_pos i acc r
        rw [runW_go hi ho (d := (nxt i acc r).1) (acc2 := (nxt i acc r).2) rfl, runW_go hi2 ho (d := (nxt i acc r).1) (acc2 := (nxt i acc r).2) rfl]
        rw [show q.length + a + (nxt i acc r).1 = q.length + (a + (nxt i acc r).1) by omega]
        rw [ih (p.length - (a + (nxt i acc r).1)) (by omega) (a + (nxt i acc r).1) _ rfl]
    · rw [runW_out hge, runW_out (by simp; omega)]
theorem runS_ahead {o p : List Ins} (r : Rec) (ho : (checkS o).1 = 0) (hp : (checkS p).1 = 0) (h1 : o.length ≤ 150) (h2 : p.length ≤ 150) : runS (ahead o p) r = ((runS p r).1, (runS p r).2 + 1) := by
  rw [runS, check_ahead ho hp h1 h2, if_pos rfl, runS, if_pos hp]
  have e : ahead o p = (⟨5, 0, 0, o.length⟩ :: o) ++ p := rfl
  have hr := run_append (⟨5, 0, 0, o.length⟩ :: o) p r _ 0 0 rfl
  rw [runW_go (i := ⟨5, 0, 0, o.length⟩) (d := 1 + o.length) (acc2 := 0) (by rfl) (by simp) (by simp [nxt])]
  rw [e]
  rw [show (0 + (1 + o.length)) = (Ins.mk 5 0 0 o.length :: o).length + 0 by simp; omega, hr]
/-! Bytes of numbers. -/
theorem orV_nat {a b : Nat} (ha : a < 2 ^ 62) (hb : b < 2 ^ 62) : orV (a : Int) (b : Int) = ((a ||| b : Nat) : Int) := by
  have hab : a ||| b < 2 ^ 62 := Nat.or_lt_two_pow ha hb
  have e : (BitVec.ofInt 64 (a : Int) ||| BitVec.ofInt 64 (b : Int)).toNat = a ||| b := by
    rw [BitVec.toNat_or, BitVec.ofInt_natCast, BitVec.ofInt_natCast, BitVec.toNat_ofNat, BitVec.toNat_ofNat, Nat.mod_eq_of_lt (by omega), Nat.mod_eq_of_lt (by omega)]
  rw [orV, e]
  exact wrapN (by omega)
theorem shl_nat {a n : Nat} (h : a * 2 ^ n < 2 ^ 62) : shl (a : Int) n = ((a * 2 ^ n : Nat) : Int) := by
  rw [shl]
  have : (a : Int) * 2 ^ n = ((a * 2 ^ n : Nat) : Int) := by simp
  rw [this]
  exact wrapN (by omega)
theorem or_add {a b n : Nat} (h : a < 2 ^ n) : a ||| (b * 2 ^ n) = a + b * 2 ^ n := by
  have := Nat.shiftLeft_add_eq_or_of_lt h b
  rw [Nat.shiftLeft_eq] at this
  rw [Nat.or_comm, ← this, Nat.add_comm]
theorem four {x y z w : Nat} (hx : x < 256) (hy : y < 256) (hz : z < 256) (hw : w < 256) : orV (orV (orV (x : Int) (shl (y : Int) 8)) (shl (z : Int) 16)) (shl (w : Int) 24) = ((x + y * 256 + z * 65536 + w * 16777216 : Nat) : Int) := by
  rw [shl_nat (by omega), shl_nat (by omega), shl_nat (by omega)]
  rw [orV_nat (by omega) (by omega), or_add (by omega)]
  rw [orV_nat (by omega) (by omega), or_add (by omega)]
  rw [orV_nat (by omega) (by omega), or_add (by omega)]
theorem u8_wrap (n : Nat) : IntKind.u8.wrap (n : Int) = ((n % 256 : Nat) : Int) := by
  have : IntKind.u8.wrap (n : Int) = (n : Int) % 256 := by simp [IntKind.wrap, IntKind.signed, IntKind.bits]
  rw [this]; omega
end Go.Proofs.Ytflieebgiejjpaa
