import Derived.Test.YtoohefnephhmbaaDoorAmZ2
import Derived.Test.YtoohefnephhmbaaDoorDvPDpl
import Derived.Test.YtoohefnephhmbaaDoorAmY
set_option linter.unusedVariables false
set_option linter.unusedSimpArgs false
namespace Go.Proofs.YtoohefnephhmbaaDoor
open Go.AM Go.ChangeShapes Go.WideShapes Go.ChangeAt Go.RowKit
def c4 : LF := ⟨62, [.tmp 2], (.seq (.reg [
    ⟨(some 2), .mov (.c (.rv (.one (.dat (.val (.bool false)))))), none⟩]) (.seq (.seq (.reg [
    ⟨(some 9), .call (.c (.rv (.one (.fn 18 [])))) [], none⟩,
    ⟨(some 10), .un .not (.t 9), none⟩]) (.cond (.t 10) (.seq (.reg [
    ⟨(some 2), .mov (.c (.rv (.one (.dat (.val (.bool false)))))), none⟩]) .ret) .skip)) (.seq (.reg [
    ⟨(some 12), .mov (.t 0), none⟩,
    ⟨(some 13), .call (.c (.rv (.one (.fn 9 [])))) [(.t 12)], none⟩,
    ⟨(some 11), .mov (.t 13), none⟩,
    ⟨(some 14), .ext (.t 11) 0, none⟩,
    ⟨(some 15), .ext (.t 11) 1, none⟩,
    ⟨(some 16), .ext (.t 11) 2, none⟩,
    ⟨(some 3), .mov (.t 14), none⟩,
    ⟨(some 4), .mov (.t 15), none⟩,
    ⟨(some 5), .mov (.t 16), none⟩]) (.seq (.seq (.reg [
    ⟨(some 17), .mov (.t 5), none⟩,
    ⟨(some 18), .bin .neq (.t 17) (.c (.rv (.one (.dat (.val (.int .i64 (0))))))), none⟩]) (.cond (.t 18) (.seq (.reg [
    ⟨(some 19), .mov (.t 3), none⟩,
    ⟨(some 20), .len 1 (.t 19), none⟩,
    ⟨(some 21), .bin .eql (.t 20) (.c (.rv (.one (.dat (.val (.int .i64 (0))))))), none⟩,
    ⟨(some 22), .mov (.t 21), none⟩,
    ⟨(some 23), .mov (.t 4), (some (22, true))⟩,
    ⟨(some 24), .un .not (.t 23), (some (22, true))⟩,
    ⟨(some 25), .pick (.t 22) (.t 24) (.c (.rv (.one (.dat (.val (.bool false)))))), none⟩,
    ⟨(some 2), .mov (.t 25), none⟩]) .ret) .skip)) (.seq (.reg [
    ⟨(some 26), .mov (.t 3), none⟩,
    ⟨(some 27), .mov (.t 4), none⟩,
    ⟨(some 28), .call (.c (.rv (.one (.fn 14 [])))) [(.t 26), (.t 27)], none⟩,
    ⟨(some 6), .mov (.t 28), none⟩]) (.seq (.reg [
    ⟨(some 30), .mov (.t 6), none⟩,
    ⟨(some 31), .call (.c (.rv (.one (.fn 9 [])))) [(.t 30)], none⟩,
    ⟨(some 29), .mov (.t 31), none⟩,
    ⟨(some 32), .ext (.t 29) 0, none⟩,
    ⟨(some 33), .ext (.t 29) 1, none⟩,
    ⟨(some 34), .ext (.t 29) 2, none⟩,
    ⟨(some 7), .mov (.t 32), none⟩,
    ⟨(some 8), .mov (.t 33), none⟩,
    ⟨(some 5), .mov (.t 34), none⟩]) (.seq (.reg [
    ⟨(some 35), .mov (.t 5), none⟩,
    ⟨(some 36), .bin .eql (.t 35) (.c (.rv (.one (.dat (.val (.int .i64 (0))))))), none⟩,
    ⟨(some 37), .mov (.t 36), none⟩,
    ⟨(some 38), .mov (.t 8), (some (37, true))⟩,
    ⟨(some 39), .mov (.t 4), (some (37, true))⟩,
    ⟨(some 40), .beq false (.t 38) (.t 39), (some (37, true))⟩,
    ⟨(some 41), .pick (.t 37) (.t 40) (.c (.rv (.one (.dat (.val (.bool false)))))), none⟩,
    ⟨(some 42), .mov (.t 41), none⟩,
    ⟨(some 43), .mov (.t 3), (some (42, true))⟩,
    ⟨(some 44), .mov (.t 7), (some (42, true))⟩,
    ⟨(some 45), .call (.c (.rv (.one (.fn 11 [])))) [(.t 43), (.t 44)], (some (42, true))⟩,
    ⟨(some 46), .pick (.t 42) (.t 45) (.c (.rv (.one (.dat (.val (.bool false)))))), none⟩,
    ⟨(some 47), .mov (.t 46), none⟩,
    ⟨(some 48), .mov (.t 7), (some (47, true))⟩,
    ⟨(some 49), .mov (.t 8), (some (47, true))⟩,
    ⟨(some 50), .call (.c (.rv (.one (.fn 14 [])))) [(.t 48), (.t 49)], (some (47, true))⟩,
    ⟨(some 51), .mov (.t 6), (some (47, true))⟩,
    ⟨(some 52), .bin .eql (.t 50) (.t 51), (some (47, true))⟩,
    ⟨(some 53), .pick (.t 47) (.t 52) (.c (.rv (.one (.dat (.val (.bool false)))))), none⟩,
    ⟨(some 54), .mov (.t 53), none⟩,
    ⟨(some 55), .mov (.t 6), (some (54, true))⟩,
    ⟨(some 56), .len 0 (.t 55), (some (54, true))⟩,
    ⟨(some 57), .mov (.t 0), (some (54, true))⟩,
    ⟨(some 58), .len 0 (.t 57), (some (54, true))⟩,
    ⟨(some 59), .minmax true [(.t 58), (.c (.rv (.one (.dat (.val (.int .i64 (1)))))))], (some (54, true))⟩,
    ⟨(some 60), .bin .leq (.t 56) (.t 59), (some (54, true))⟩,
    ⟨(some 61), .pick (.t 54) (.t 60) (.c (.rv (.one (.dat (.val (.bool false)))))), none⟩,
    ⟨(some 2), .mov (.t 61), none⟩]) .ret)))))))⟩
/-! parted, and joined -/
theorem cutL_none' {c : UInt8} : ∀ {x : Txt}, c ∉ x → cutL c x = [x]
  | [], _ => rfl
  | y :: r, h => by
    have h1 : y ≠ c := fun e => h (by simp [e])
    have h2 : c ∉ r := fun e => h (by simp [e])
    simp only [cutL, cutL_none' h2]
    simp [h1]
theorem cutL_app {c : UInt8} : ∀ {x : Txt} (y : Txt), c ∉ x → cutL c (x ++ c :: y) = x :: cutL c y
  | [], y, _ => by simp [cutL]
  | z :: r, y, h => by
    have h1 : z ≠ c := fun e => h (by simp [e])
    have h2 : c ∉ r := fun e => h (by simp [e])
    simp only [List.cons_append, cutL, cutL_app y h2]
    simp [h1]
theorem cut_tail {c : UInt8} : ∀ {r : List Txt} {x : Txt}, c ∉ x → (∀ w, w ∈ r → c ∉ w) → cutL c (x ++ Lib.joinTail [c] r) = x :: r
  | [], x, hx, _ => by
    have : Lib.joinTail [c] [] = [] := rfl
    rw [this, List.append_nil]
    exact cutL_none' hx
  | w :: r, x, hx, h => by
    have : Lib.joinTail [c] (w :: r) = c :: (w ++ Lib.joinTail [c] r) := by simp [Lib.joinTail]
    rw [this, cutL_app _ hx, cut_tail (h w (by simp)) fun v hv => h v (by simp [hv])]
theorem cut_join {c : UInt8} {l : List Txt} (hl : l ≠ []) (h : ∀ w, w ∈ l → c ∉ w) : cutL c (joinT [c] l) = l := by
  cases l with
  | nil => exact absurd rfl hl
  | cons x r =>
    rw [joinT_cons]
    exact cut_tail (h x (by simp)) fun v hv => h v (by simp [hv])
theorem cutL_lens (c : UInt8) : ∀ t : Txt, Lib.lens (cutL c t) + (cutL c t).length = t.length + 1
  | [] => by simp [cutL, Lib.lens]
  | x :: r => by
    have ih := cutL_lens c r
    simp only [cutL]
    split
    · simp only [Lib.lens, List.map_cons, List.sum_cons, List.length_cons, List.length_nil] at ih ⊢
      omega
    · cases h : cutL c r with
      | nil => exact absurd h (cutL_ne c r)
      | cons p ps =>
        rw [h] at ih
        simp only [Lib.lens, List.map_cons, List.sum_cons, List.length_cons] at ih ⊢
        omega
theorem lens_cons (x : Txt) (r : List Txt) : Lib.lens (x :: r) = x.length + Lib.lens r := by simp [Lib.lens]
theorem lens_filter (p : Txt → Bool) : ∀ l : List Txt, Lib.lens (l.filter p) + (l.filter p).length ≤ Lib.lens l + l.length
  | [] => by simp
  | x :: r => by
    have ih := lens_filter p r
    rw [List.filter_cons]
    split
    · simp only [lens_cons, List.length_cons]; omega
    · simp only [lens_cons, List.length_cons]; omega
theorem joinT_len {l : List Txt} (hl : l ≠ []) : (joinT [47] l).length + 1 = Lib.lens l + l.length := by
  cases l with
  | nil => exact absurd rfl hl
  | cons x r =>
    rw [joinT_cons, List.length_append, Lib.joinTail_length, lens_cons]
    simp only [List.length_cons, List.length_nil]
    omega
theorem nameOk_sl {w : Txt} (h : nameOk w = true) : 47 ∉ w := by
  intro hm
  obtain ⟨k, hk, he⟩ := List.mem_iff_getElem.1 hm
  have := nameOk_bad hk (by rw [he]; decide)
  rw [this] at h
  cases h
/-- what is kept -/
theorem part_good {t w : Txt} (hg : (cutL 47 t).all goodT = true) (hw : w ∈ partsS t) : w ≠ [] ∧ w ≠ [46] ∧ 47 ∉ w ∧ goodT w = true := by
  obtain ⟨h1, h2⟩ := List.mem_filter.1 hw
  have h3 := List.all_eq_true.1 hg w h1
  have h4 : w ≠ [] ∧ w ≠ [46] := by simpa [keepT] using h2
  refine ⟨h4.1, h4.2, ?_, h3⟩
  have h5 : w = [46, 46] ∨ nameOk w = true := by simpa [goodT, h4.1, h4.2] using h3
  rcases h5 with rfl | h5
  · decide
  · exact nameOk_sl h5
theorem path_len {t : Txt} (h0 : t ≠ []) : (pathS (partsS t) (decide (t[0]? = some 47))).length ≤ max t.length 1 := by
  have hl := cutL_lens 47 t
  obtain ⟨c, r, rfl⟩ : ∃ c r, t = c :: r := by
    cases t with
    | nil => exact absurd rfl h0
    | cons c r => exact ⟨c, r, rfl⟩
  have hf := lens_filter keepT (cutL 47 (c :: r))
  by_cases hc : c = 47
  · subst hc
    have hd : decide ((47 :: r)[0]? = some (47 : UInt8)) = true := by simp
    have hcut : cutL 47 (47 :: r) = [] :: cutL 47 r := by simp [cutL]
    have hp : partsS (47 :: r) = (cutL 47 r).filter keepT := by rw [partsS, hcut]; rfl
    have hf2 := lens_filter keepT (cutL 47 r)
    have hl2 := cutL_lens 47 r
    rw [hd, hp, pathS, if_pos rfl]
    by_cases he : (cutL 47 r).filter keepT = []
    · rw [he, joinT_nil]
      simp only [List.length_cons, List.length_nil]
      omega
    · have := joinT_len he
      simp only [List.length_cons]
      omega
  · have hd : decide ((c :: r)[0]? = some (47 : UInt8)) = false := by simp [hc]
    rw [hd, pathS, if_neg (by simp)]
    split
    · simp
    · rename_i hj
      have he : partsS (c :: r) ≠ [] := fun e => hj (by rw [e]; rfl)
      have := joinT_len he
      have h2 : Lib.lens (partsS (c :: r)) + (partsS (c :: r)).length ≤ Lib.lens (cutL 47 (c :: r)) + (cutL 47 (c :: r)).length := hf
      simp only [List.length_cons] at hl ⊢
      omega
theorem turns {t : Txt} (h0 : t ≠ []) (h1 : t.length ≤ 60) (hg : (cutL 47 t).all goodT = true) :
    splitS (pathS (partsS t) (decide (t[0]? = some 47))) = (partsS t, decide (t[0]? = some 47), 0) := by
  have hpl := path_len h0
  have hgood : ∀ w, w ∈ partsS t → w ≠ [] ∧ w ≠ [46] ∧ 47 ∉ w ∧ goodT w = true := fun w hw => part_good hg hw
  generalize partsS t = l at hpl hgood
  generalize decide (t[0]? = some 47) = root at hpl
  have hall : l.all goodT = true := List.all_eq_true.2 fun w hw => (hgood w hw).2.2.2
  have hfil : l.filter keepT = l := List.filter_eq_self.2 fun w hw => by have := hgood w hw; simp [keepT, this.1, this.2.1]
  by_cases hl : l = []
  · subst hl
    cases root <;> decide
  · have hcj := cut_join hl fun w hw => (hgood w hw).2.2.1
    have hne : joinT [47] l ≠ [] := by
      intro e
      rw [e] at hcj
      have : l = [[]] := hcj.symm
      exact (hgood [] (by rw [this]; simp)).1 rfl
    cases root with
    | true =>
      have hp : pathS l true = 47 :: joinT [47] l := by rw [pathS, if_pos rfl]
      rw [hp] at hpl ⊢
      have hcut : cutL 47 (47 :: joinT [47] l) = [] :: l := by simp [cutL, hcj]
      rw [splitS, if_neg (by simp), if_neg (by simp only [List.length_cons] at hpl ⊢; omega), partsS, hcut]
      have : ([] :: l).all goodT = true := by simp only [List.all_cons, hall]; decide
      rw [this, if_pos rfl]
      have : ([] :: l).filter keepT = l := by rw [List.filter_cons]; simp [keepT]; simpa [keepT] using hfil
      rw [this]
      rfl
    | false =>
      have hp : pathS l false = joinT [47] l := by rw [pathS, if_neg (by simp), if_neg hne]
      rw [hp] at hpl ⊢
      rw [splitS, if_neg hne, if_neg (by omega), partsS, hcj, hall, if_pos rfl, hfil]
      have : decide ((joinT [47] l)[0]? = some 47) = false := by
        cases l with
        | nil => exact absurd rfl hl
        | cons x r =>
          have hx := hgood x (by simp)
          rw [joinT_cons]
          cases x with
          | nil => exact absurd rfl hx.1
          | cons a b =>
            have : a ≠ 47 := fun e => hx.2.2.1 (by simp [e])
            simp [this]
      rw [this]
theorem split_cases (t : Txt) : (∃ e : Int, splitS t = ([], false, e) ∧ (e = 2 ∨ e = 4 ∨ e = 7)) ∨ (t ≠ [] ∧ t.length ≤ 60 ∧ (cutL 47 t).all goodT = true ∧ splitS t = (partsS t, decide (t[0]? = some 47), 0)) := by
  unfold splitS
  split
  · exact .inl ⟨2, rfl, .inl rfl⟩
  · split
    · exact .inl ⟨4, rfl, .inr (.inl rfl)⟩
    · split
      · rename_i h1 h2 h3
        exact .inr ⟨h1, by omega, h3, rfl⟩
      · exact .inl ⟨7, rfl, .inr (.inr rfl)⟩
theorem l4 : lowF Tryd.prog Tryd.f4 = some c4 := by kernel_rfl
set_option maxRecDepth 100000 in
set_option maxHeartbeats 8000000 in
theorem pturns_body (t : Txt) : body Tryd.prog c4 [vT t] [] (fun r m => r = vBool true) := by
  refine alive_ok ?_
  refine split_ok t ?_
  rcases split_cases t with ⟨e, hs, he⟩ | ⟨h0, h1, hg, hs⟩
  · rw [hs]
    rcases he with rfl | rfl | rfl <;> rfl
  · have hpl := path_len h0
    have ht := turns h0 h1 hg
    have hlen := parts_len t
    rw [hs] at hlen
    rw [hs]
    generalize partsS t = l at hpl ht hlen
    generalize decide (t[0]? = some 47) = root at hpl ht
    have hjl : (joinT [47] l).length ≤ 60 := by
      have : (joinT [47] l).length ≤ (pathS l root).length := by
        unfold pathS
        split
        · simp
        · split
          · rename_i h; rw [h]; simp
          · exact Nat.le_refl _
      omega
    have hll : l.length ≤ 61 := hlen
    refine pjoin_ok l root (by omega) (by omega) ?_
    refine split_ok (pathS l root) ?_
    rw [ht]
    refine bB_yes (by simp) ?_
    refine same_ok l l (by omega) ?_
    refine bB_yes (by simp) ?_
    refine pjoin_ok l root (by omega) (by omega) ?_
    refine bB_yes (by simp) ?_
    show vBool (decide ((((bysL (pathS l root)).size : Nat) : Int) ≤ if (1 : Int) > (((bysL t).size : Nat) : Int) then 1 else (((bysL t).size : Nat) : Int))) = vBool true
    rw [bysL_sizeI, bysL_sizeI, decide_eq_true (by split <;> omega)]
theorem pturns_ok (t : Txt) (ht : t.length ≤ 4194304) : ACall Tryd.prog 4 [vT t] [] (fun r m => r = vBool true) :=
  acall_body Tryd.func4 l4 rfl (Nat.le_of_ble_eq_true rfl) (pturns_body t)
end Go.Proofs.YtoohefnephhmbaaDoor
