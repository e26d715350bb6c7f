import Derived.Test.YtppecaflkpklfaaDoorAmZ2
import Derived.Test.YtppecaflkpklfaaDoorDvGq
import Derived.Test.YtppecaflkpklfaaDoorAmY
set_option linter.unusedVariables false
set_option linter.unusedSimpArgs false
namespace Go.Proofs.YtppecaflkpklfaaDoor
open Go.AM Go.ChangeShapes Go.WideShapes Go.ChangeAt Go.RowKit
def c17 : LF := ⟨33, [.tmp 4], (.seq (.reg [
    ⟨(some 4), .mov (.c (.rv (.one (.dat (.val (.string ⟨#[]⟩)))))), none⟩]) (.seq (.reg [
    ⟨(some 5), .mov (.c (.rv (.one (.dat (.val (.string ⟨#[]⟩)))))), none⟩]) (.seq (.seq (.reg [
    ⟨(some 8), .mov (.t 0), none⟩,
    ⟨(some 9), .len 1 (.t 8), none⟩,
    ⟨(some 10), .mov (.c (.rv (.one (.dat (.val (.int .i64 (0))))))), none⟩]) (.block 0 (.loop (.seq (.reg [
    ⟨(some 11), .bin .lss (.t 10) (.t 9), none⟩]) (.seq (.cond (.t 11) .skip (.exit 0)) (.seq (.block 1 (.seq (.reg [
    ⟨(some 12), .mov (.t 10), none⟩,
    ⟨(some 13), .idx 1 (.t 8) (.t 10), none⟩,
    ⟨(some 14), .load false 1 (.t 13), none⟩,
    ⟨(some 6), .mov (.t 12), none⟩,
    ⟨(some 7), .mov (.t 14), none⟩]) (.seq (.seq (.reg [
    ⟨(some 15), .mov (.t 6), none⟩,
    ⟨(some 16), .bin .gtr (.t 15) (.c (.rv (.one (.dat (.val (.int .i64 (0))))))), none⟩,
    ⟨(some 17), .mov (.t 16), none⟩,
    ⟨(some 18), .mov (.t 1), (some (17, false))⟩,
    ⟨(some 19), .pick (.t 17) (.c (.rv (.one (.dat (.val (.bool true)))))) (.t 18), none⟩]) (.cond (.t 19) (.reg [
    ⟨(some 20), .mov (.t 5), none⟩,
    ⟨(some 21), .bin .add (.t 20) (.c (.rv (.one (.dat (.val (.string ⟨#[47]⟩)))))), none⟩,
    ⟨(some 5), .mov (.t 21), none⟩]) .skip)) (.reg [
    ⟨(some 22), .mov (.t 5), none⟩,
    ⟨(some 23), .mov (.t 7), none⟩,
    ⟨(some 24), .bin .add (.t 22) (.t 23), none⟩,
    ⟨(some 5), .mov (.t 24), none⟩])))) (.reg [
    ⟨(some 25), .bin .add (.t 10) (.c (.rv (.one (.dat (.val (.int .i64 (1))))))), none⟩,
    ⟨(some 10), .mov (.t 25), none⟩]))))))) (.seq (.seq (.reg [
    ⟨(some 26), .mov (.t 5), none⟩,
    ⟨(some 27), .bin .eql (.t 26) (.c (.rv (.one (.dat (.val (.string ⟨#[]⟩)))))), none⟩]) (.cond (.t 27) (.seq (.reg [
    ⟨(some 28), .mkmap, none⟩,
    ⟨none, .mset .b (.t 28) (.c (.rv (.one (.dat (.val (.bool true)))))) (.c (.rv (.one (.dat (.val (.string ⟨#[47]⟩)))))), none⟩,
    ⟨none, .mset .b (.t 28) (.c (.rv (.one (.dat (.val (.bool false)))))) (.c (.rv (.one (.dat (.val (.string ⟨#[46]⟩)))))), none⟩,
    ⟨(some 29), .mov (.t 28), none⟩,
    ⟨(some 30), .mov (.t 1), none⟩,
    ⟨(some 31), .mget (.one (.dat (.val (.string ⟨#[]⟩)))) .b (.t 29) (.t 30) false, none⟩,
    ⟨(some 4), .mov (.t 31), none⟩]) .ret) .skip)) (.seq (.reg [
    ⟨(some 32), .mov (.t 5), none⟩,
    ⟨(some 4), .mov (.t 32), none⟩]) .ret)))))⟩
namespace Pth
def joinTl (sep : Txt) (r : List Txt) : Txt := (r.map (sep ++ ·)).flatten
def joinT (sep : Txt) : List Txt → Txt
  | [] => []
  | x :: r => x ++ joinTl sep r
def pathS (l : List Txt) (root : Bool) : Txt := if root then 47 :: joinT [47] l else if joinT [47] l = [] then [46] else joinT [47] l
theorem joinTail_snoc (sep : Txt) (r : List Txt) (w : Txt) : joinTl sep (r ++ [w]) = joinTl sep r ++ (sep ++ w) := by simp [joinTl]
theorem joinT_nil (sep : Txt) : joinT sep [] = [] := rfl
theorem joinT_cons (sep x : Txt) (r : List Txt) : joinT sep (x :: r) = x ++ joinTl sep r := rfl
theorem joinT_one (sep x : Txt) : joinT sep [x] = x := by simp [joinT, joinTl]
theorem joinT_snoc (sep : Txt) {l : List Txt} (hl : l ≠ []) (w : Txt) : joinT sep (l ++ [w]) = joinT sep l ++ (sep ++ w) := by
  cases l with
  | nil => exact absurd rfl hl
  | cons x r => rw [List.cons_append, joinT_cons, joinT_cons, joinTail_snoc, List.append_assoc]
/-- as the document builds it -/
def accJ (root : Bool) (l : List Txt) : Txt := (if root = true ∧ l ≠ [] then [47] else []) ++ joinT [47] l
theorem accJ_snoc (root : Bool) (l : List Txt) (w : Txt) : accJ root (l ++ [w]) = accJ root l ++ ((if l ≠ [] ∨ root = true then [47] else []) ++ w) := by
  by_cases hl : l = []
  · subst hl
    simp only [accJ, List.nil_append, joinT_one, joinT_nil]
    cases root <;> simp
  · simp only [accJ, joinT_snoc _ hl]
    cases root <;> simp [hl]
theorem joinT_le {l : List Txt} {k : Nat} : (joinT [47] (l.take k)).length ≤ (joinT [47] l).length := by
  cases l with
  | nil => simp [joinT_nil]
  | cons x r =>
    cases k with
    | zero => simp [joinT_nil]
    | succ k =>
      rw [List.take_succ_cons, joinT_cons, joinT_cons, List.length_append, List.length_append]
      have : (joinTl [47] (r.take k)).length ≤ (joinTl [47] r).length := by
        conv => rhs; rw [← List.take_append_drop k r]
        simp only [joinTl, List.map_append, List.flatten_append, List.length_append]
        omega
      omega
theorem l17 : lowF Tryd.prog Tryd.f17 = some c17 := by kernel_rfl
set_option maxRecDepth 100000 in
set_option maxHeartbeats 8000000 in
theorem rjoin_body (l : List Txt) (root : Bool) (hN : l.length ≤ 4194304) (hlen : (joinT [47] l).length ≤ 1099511627776) : body Tryd.prog c17 [txV l, vBool root] [] (fun r m => r = vT (pathS l root)) := by
  refine loop_keep (fun k => k ≤ l.length) [1] (fun k => [(5, vT (accJ root (l.take k))), (8, txV l), (9, vInt .i64 (l.length : Nat)), (10, vInt .i64 (k : Nat))]) (fun _ => []) (fun k => l.length - k) 0 (Nat.zero_le _) ?_ (fun k hk => ?_)
  · have h0 : accJ root (l.take 0) = [] := by simp [accJ, joinT_nil]
    rw [h0]
    refine View.of 0 [] [] rfl rfl rfl rfl rfl rfl ?_ (.nil _)
    repeat (first | exact .nil | refine .junk ?_ | refine .eq rfl ?_ | refine .put (.ren (by rw [List.length_map]; rfl)) ?_)
  have hk : k ≤ l.length := hk
  refine bB_dec (fun h5 => ?_) (fun h5 => ?_)
  · have hlt : k < l.length := by
      have h5 : (k : Int) < (l.length : Int) := h5
      omega
    have htk : l.take (k + 1) = l.take k ++ [l[k]] := by rw [List.take_succ_eq_append_getElem hlt]
    have hne : l.take k ≠ [] ↔ 0 < k := by
      cases l with
      | nil => simp at hlt
      | cons a b => cases k <;> simp
    refine ok_some (tx_get hlt) ?_
    generalize l[k] = w at htk
    have hs := accJ_snoc root (l.take k) w
    rw [← htk] at hs
    have hb : (accJ root (l.take (k + 1))).length ≤ 1099511627777 := by
      simp only [accJ, List.length_append]
      have := joinT_le (l := l) (k := k + 1)
      split <;> simp <;> omega
    rw [hs] at hb
    simp only [List.length_append] at hb
    have yes : (l.take k ≠ [] ∨ root = true) → accJ root (l.take (k + 1)) = (accJ root (l.take k) ++ [47]) ++ w := fun h => by rw [hs, if_pos h, List.append_assoc]
    have no : ¬ (l.take k ≠ [] ∨ root = true) → accJ root (l.take (k + 1)) = accJ root (l.take k) ++ w := fun h => by rw [hs, if_neg h, List.nil_append]
    have hA : (accJ root (l.take k)).length + w.length ≤ 1099511627777 := by omega
    have fin : ∀ a b : Txt, a = b → vT a = vT b := fun a b h => by rw [h]
    refine bB_dec (fun h6 => ?_) (fun h6 => ?_)
    · have h6 : (k : Int) > 0 := h6
      have hy := yes (.inl (hne.2 (by omega)))
      refine ok_some (binV_add (by simp; omega)) ?_
      refine ok_some (binV_add (by simp; omega)) ?_
      refine ⟨k + 1, hlt, (show l.length - (k + 1) < l.length - k by omega), View.of 0 [] [] rfl rfl rfl rfl rfl rfl ?_ (.nil _)⟩
      rw [← hy]
      repeat (first | exact .nil | refine .junk ?_ | refine .put (.ren (next_i64 (by omega)).symm) ?_ | refine .eq rfl ?_)
    · have h6 : ¬ (k : Int) > 0 := h6
      cases root with
      | true =>
        have hy := yes (.inr rfl)
        refine ok_some (binV_add (by simp; omega)) ?_
        refine ok_some (binV_add (by simp; omega)) ?_
        refine ⟨k + 1, hlt, (show l.length - (k + 1) < l.length - k by omega), View.of 0 [] [] rfl rfl rfl rfl rfl rfl ?_ (.nil _)⟩
        rw [← hy]
        repeat (first | exact .nil | refine .junk ?_ | refine .put (.ren (next_i64 (by omega)).symm) ?_ | refine .eq rfl ?_)
      | false =>
        have hy := no (by rw [hne]; simp; omega)
        refine ok_some (binV_add (by omega)) ?_
        refine ⟨k + 1, hlt, (show l.length - (k + 1) < l.length - k by omega), View.of 0 [] [] rfl rfl rfl rfl rfl rfl ?_ (.nil _)⟩
        rw [← hy]
        repeat (first | exact .nil | refine .junk ?_ | refine .put (.ren (next_i64 (by omega)).symm) ?_ | refine .eq rfl ?_)
  · have h5 : ¬ (k : Int) < (l.length : Int) := h5
    rw [List.take_of_length_le (by omega : l.length ≤ k)]
    refine bB_str (b := []) (fun h => ?_) (fun h => ?_)
    · cases root with
      | true =>
        have hl : l = [] := by
          by_cases hl : l = []
          · exact hl
          · simp [accJ, hl] at h
        subst hl
        rfl
      | false =>
        have hj : joinT [47] l = [] := by simpa [accJ] using h
        show vT [46] = vT (pathS l false)
        rw [pathS, if_neg (by simp), if_pos hj]
    · show vT (accJ root l) = vT (pathS l root)
      cases root with
      | true =>
        have hl : l ≠ [] := by rintro rfl; exact h rfl
        simp [accJ, pathS, hl]
      | false =>
        have hj : joinT [47] l ≠ [] := by simpa [accJ] using h
        simp [accJ, pathS, hj]
theorem rjoin_ok (l : List Txt) (root : Bool) (hN : l.length ≤ 4194304) (hlen : (joinT [47] l).length ≤ 1099511627776) {m : Mem} {K : CV → Mem → Prop} (h : K (vT (pathS l root)) m) : ACall Tryd.prog 17 [txV l, vBool root] m K :=
  acall_val Tryd.func17 l17 rfl (Nat.le_of_ble_eq_true rfl) (rjoin_body l root hN hlen) rfl rfl h
end Pth


end Go.Proofs.YtppecaflkpklfaaDoor
