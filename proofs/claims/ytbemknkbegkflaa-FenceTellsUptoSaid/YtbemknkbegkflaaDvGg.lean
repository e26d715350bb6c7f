import Derived.Test.YtbemknkbegkflaaAmZ2
import Derived.Test.YtbemknkbegkflaaDvGf
import Derived.Test.YtbemknkbegkflaaAmZ4
import Derived.Test.YtbemknkbegkflaaAmY
set_option linter.unusedVariables false
set_option linter.unusedSimpArgs false
namespace Go.Proofs.Ytbemknkbegkflaa
open Go.AM Go.ChangeShapes Go.WideShapes Go.ChangeAt Go.RowKit
def c19 : LF := ⟨57, [], (.seq (.seq (.reg [
    ⟨(some 6), .mov (.t 1), none⟩,
    ⟨(some 7), .bin .lss (.t 6) (.c (.rv (.one (.dat (.val (.int .i64 (0))))))), none⟩,
    ⟨(some 8), .mov (.t 7), none⟩,
    ⟨(some 9), .mov (.t 1), (some (8, false))⟩,
    ⟨(some 10), .mov (.t 0), (some (8, false))⟩,
    ⟨(some 11), .nilc (.t 10), (some (8, false))⟩,
    ⟨(some 12), .fadr 0 (.t 11), (some (8, false))⟩,
    ⟨(some 13), .load false 1 (.t 12), (some (8, false))⟩,
    ⟨(some 14), .nilc (.t 13), (some (8, false))⟩,
    ⟨(some 15), .fadr 2 (.t 14), (some (8, false))⟩,
    ⟨(some 16), .load false 1 (.t 15), (some (8, false))⟩,
    ⟨(some 17), .len 1 (.t 16), (some (8, false))⟩,
    ⟨(some 18), .bin .geq (.t 9) (.t 17), (some (8, false))⟩,
    ⟨(some 19), .pick (.t 8) (.c (.rv (.one (.dat (.val (.bool true)))))) (.t 18), none⟩,
    ⟨(some 20), .mov (.t 19), none⟩,
    ⟨(some 21), .mov (.t 0), (some (20, false))⟩,
    ⟨(some 22), .nilc (.t 21), (some (20, false))⟩,
    ⟨(some 23), .fadr 0 (.t 22), (some (20, false))⟩,
    ⟨(some 24), .load false 1 (.t 23), (some (20, false))⟩,
    ⟨(some 25), .nilc (.t 24), (some (20, false))⟩,
    ⟨(some 26), .fadr 2 (.t 25), (some (20, false))⟩,
    ⟨(some 27), .load false 1 (.t 26), (some (20, false))⟩,
    ⟨(some 28), .mov (.t 1), (some (20, false))⟩,
    ⟨(some 29), .idx 4 (.t 27) (.t 28), (some (20, false))⟩,
    ⟨(some 30), .fadr 0 (.t 29), (some (20, false))⟩,
    ⟨(some 31), .load false 1 (.t 30), (some (20, false))⟩,
    ⟨(some 32), .un .not (.t 31), (some (20, false))⟩,
    ⟨(some 33), .pick (.t 20) (.c (.rv (.one (.dat (.val (.bool true)))))) (.t 32), none⟩]) (.cond (.t 33) .ret .skip)) (.seq (.reg [
    ⟨(some 34), .mov (.t 0), none⟩,
    ⟨(some 35), .nilc (.t 34), none⟩,
    ⟨(some 36), .fadr 0 (.t 35), none⟩,
    ⟨(some 37), .load false 1 (.t 36), none⟩,
    ⟨(some 38), .nilc (.t 37), none⟩,
    ⟨(some 39), .fadr 2 (.t 38), none⟩,
    ⟨(some 40), .load false 1 (.t 39), none⟩,
    ⟨(some 41), .mov (.t 1), none⟩,
    ⟨(some 42), .idx 4 (.t 40) (.t 41), none⟩,
    ⟨(some 43), .fadr 3 (.t 42), none⟩,
    ⟨(some 44), .load false 1 (.t 43), none⟩,
    ⟨(some 45), .len 1 (.t 44), none⟩,
    ⟨(some 46), .mov (.c (.rv (.one (.dat (.val (.int .i64 (0))))))), none⟩]) (.block 0 (.loop (.seq (.reg [
    ⟨(some 47), .bin .lss (.t 46) (.t 45), none⟩]) (.seq (.cond (.t 47) .skip (.exit 0)) (.seq (.block 1 (.seq (.reg [
    ⟨(some 48), .idx 3 (.t 44) (.t 46), none⟩,
    ⟨(some 49), .load true 3 (.t 48), none⟩,
    ⟨(some 5), .alloc [(.dat (.val (.bool false))), (.dat (.val (.int .i64 (0)))), (.dat (.val (.int .i64 (0))))], none⟩,
    ⟨none, .store 3 (.t 5) (.t 49), none⟩]) (.seq (.reg [
    ⟨(some 50), .fadr 0 (.t 5), none⟩,
    ⟨(some 51), .load false 1 (.t 50), none⟩]) (.cond (.t 51) (.reg [
    ⟨(some 52), .mov (.t 0), none⟩,
    ⟨(some 53), .fadr 1 (.t 5), none⟩,
    ⟨(some 54), .load true 2 (.t 53), none⟩,
    ⟨(some 55), .call (.c (.rv (.one (.fn 21 [])))) [(.t 52), (.t 54)], none⟩]) .skip)))) (.reg [
    ⟨(some 56), .bin .add (.t 46) (.c (.rv (.one (.dat (.val (.int .i64 (1))))))), none⟩,
    ⟨(some 46), .mov (.t 56), none⟩]))))))))⟩
def c20 : LF := ⟨55, [], (.seq (.reg [
    ⟨(some 4), .mov (.t 1), none⟩,
    ⟨(some 5), .bin .geq (.t 4) (.c (.rv (.one (.dat (.val (.int .i64 (0))))))), none⟩,
    ⟨(some 6), .mov (.t 5), none⟩,
    ⟨(some 7), .mov (.t 1), (some (6, true))⟩,
    ⟨(some 8), .mov (.t 0), (some (6, true))⟩,
    ⟨(some 9), .nilc (.t 8), (some (6, true))⟩,
    ⟨(some 10), .fadr 1 (.t 9), (some (6, true))⟩,
    ⟨(some 11), .load false 1 (.t 10), (some (6, true))⟩,
    ⟨(some 12), .len 1 (.t 11), (some (6, true))⟩,
    ⟨(some 13), .bin .lss (.t 7) (.t 12), (some (6, true))⟩,
    ⟨(some 14), .pick (.t 6) (.t 13) (.c (.rv (.one (.dat (.val (.bool false)))))), none⟩,
    ⟨(some 15), .mov (.t 14), none⟩,
    ⟨(some 16), .mov (.t 0), (some (15, true))⟩,
    ⟨(some 17), .nilc (.t 16), (some (15, true))⟩,
    ⟨(some 18), .fadr 1 (.t 17), (some (15, true))⟩,
    ⟨(some 19), .load false 1 (.t 18), (some (15, true))⟩,
    ⟨(some 20), .mov (.t 1), (some (15, true))⟩,
    ⟨(some 21), .idx 1 (.t 19) (.t 20), (some (15, true))⟩,
    ⟨(some 22), .load false 1 (.t 21), (some (15, true))⟩,
    ⟨(some 23), .un .not (.t 22), (some (15, true))⟩,
    ⟨(some 24), .pick (.t 15) (.t 23) (.c (.rv (.one (.dat (.val (.bool false)))))), none⟩,
    ⟨(some 25), .mov (.t 24), none⟩,
    ⟨(some 26), .mov (.t 0), (some (25, true))⟩,
    ⟨(some 27), .nilc (.t 26), (some (25, true))⟩,
    ⟨(some 28), .fadr 0 (.t 27), (some (25, true))⟩,
    ⟨(some 29), .load false 1 (.t 28), (some (25, true))⟩,
    ⟨(some 30), .nilc (.t 29), (some (25, true))⟩,
    ⟨(some 31), .fadr 0 (.t 30), (some (25, true))⟩,
    ⟨(some 32), .load false 1 (.t 31), (some (25, true))⟩,
    ⟨(some 33), .mov (.t 1), (some (25, true))⟩,
    ⟨(some 34), .idx 9 (.t 32) (.t 33), (some (25, true))⟩,
    ⟨(some 35), .fadr 0 (.t 34), (some (25, true))⟩,
    ⟨(some 36), .load false 1 (.t 35), (some (25, true))⟩,
    ⟨(some 37), .bin .neq (.t 36) (.c (.rv (.one (.dat (.val (.int .i64 (0))))))), (some (25, true))⟩,
    ⟨(some 38), .pick (.t 25) (.t 37) (.c (.rv (.one (.dat (.val (.bool false)))))), none⟩]) (.cond (.t 38) (.seq (.reg [
    ⟨(some 39), .mov (.t 0), none⟩,
    ⟨(some 40), .nilc (.t 39), none⟩,
    ⟨(some 41), .fadr 1 (.t 40), none⟩,
    ⟨(some 42), .load false 1 (.t 41), none⟩,
    ⟨(some 43), .mov (.t 1), none⟩,
    ⟨(some 44), .idx 1 (.t 42) (.t 43), none⟩,
    ⟨none, .store 1 (.t 44) (.c (.rv (.one (.dat (.val (.bool true)))))), none⟩]) (.reg [
    ⟨(some 45), .mov (.t 0), none⟩,
    ⟨(some 46), .mov (.t 0), none⟩,
    ⟨(some 47), .nilc (.t 46), none⟩,
    ⟨(some 48), .fadr 2 (.t 47), none⟩,
    ⟨(some 49), .load false 1 (.t 48), none⟩,
    ⟨(some 50), .mov (.t 1), none⟩,
    ⟨(some 51), .bsl 1 [(.dat (.val (.int .i64 (0))))] 1 [(0, (.t 50))], none⟩,
    ⟨(some 52), .app 1 8 (.t 49) (.t 51), none⟩,
    ⟨(some 53), .nilc (.t 45), none⟩,
    ⟨(some 54), .fadr 2 (.t 53), none⟩,
    ⟨none, .store 1 (.t 54) (.t 52), none⟩])) .skip))⟩
def c21 : LF := ⟨34, [], (.seq (.reg [
    ⟨(some 3), .box (.t 1), none⟩]) (.seq (.draw [
    ⟨(some 4), .fadr 0 (.t 3), none⟩,
    ⟨(some 5), .load false 1 (.t 4), none⟩,
    ⟨(some 6), .bin .geq (.t 5) (.c (.rv (.one (.dat (.val (.int .i64 (0))))))), none⟩,
    ⟨(some 7), .mov (.t 6), none⟩,
    ⟨(some 8), .fadr 0 (.t 3), (some (7, true))⟩,
    ⟨(some 9), .load false 1 (.t 8), (some (7, true))⟩,
    ⟨(some 10), .mov (.t 0), (some (7, true))⟩,
    ⟨(some 11), .nilc (.t 10), (some (7, true))⟩,
    ⟨(some 12), .fadr 0 (.t 11), (some (7, true))⟩,
    ⟨(some 13), .load false 1 (.t 12), (some (7, true))⟩,
    ⟨(some 14), .nilc (.t 13), (some (7, true))⟩,
    ⟨(some 15), .fadr 1 (.t 14), (some (7, true))⟩,
    ⟨(some 16), .load false 1 (.t 15), (some (7, true))⟩,
    ⟨(some 17), .len 1 (.t 16), (some (7, true))⟩,
    ⟨(some 18), .bin .lss (.t 9) (.t 17), (some (7, true))⟩,
    ⟨(some 19), .pick (.t 7) (.t 18) (.c (.rv (.one (.dat (.val (.bool false)))))), none⟩]
    [(.cons 0 none (.cons 1 none (.cons 2 none (.cons 3 none (.cons 4 none (.cons 5 none (.cons 6 none (.cons 7 none (.cons 8 none (.cons 9 none (.cons 10 none (.cons 11 none (.cons 12 none (.cons 13 none (.cons 14 none (.cons 15 none .nil))))))))))))))))]) (.cond (.t 19) (.draw [
    ⟨(some 20), .mov (.t 0), none⟩,
    ⟨(some 21), .mov (.t 0), none⟩,
    ⟨(some 22), .nilc (.t 21), none⟩,
    ⟨(some 23), .fadr 0 (.t 22), none⟩,
    ⟨(some 24), .load false 1 (.t 23), none⟩,
    ⟨(some 25), .nilc (.t 24), none⟩,
    ⟨(some 26), .fadr 1 (.t 25), none⟩,
    ⟨(some 27), .load false 1 (.t 26), none⟩,
    ⟨(some 28), .fadr 0 (.t 3), none⟩,
    ⟨(some 29), .load false 1 (.t 28), none⟩,
    ⟨(some 30), .idx 2 (.t 27) (.t 29), none⟩,
    ⟨(some 31), .fadr 0 (.t 30), none⟩,
    ⟨(some 32), .load false 1 (.t 31), none⟩,
    ⟨(some 33), .call (.c (.rv (.one (.fn 20 [])))) [(.t 20), (.t 32)], none⟩]
    [(.cons 0 none (.cons 1 none (.cons 2 none (.cons 3 none (.cons 4 none (.cons 5 none (.cons 6 none (.cons 7 none (.cons 8 none (.cons 9 none (.cons 10 none (.cons 11 none (.cons 12 none (.cons 13 (some []) .nil))))))))))))))]) .skip)))⟩
/-! Fence: the walker -/
namespace Fe
theorem l20 : lowF Try.prog Try.f20 = some c20 := by kernel_rfl
theorem l21 : lowF Try.prog Try.f21 = some c21 := by kernel_rfl
theorem l19 : lowF Try.prog Try.f19 = some c19 := by kernel_rfl
def nI (k : Nat) : List Dt := [.val (.int .i64 (k : Nat))]
def hadL (N : Nat) (H : List Nat) : List Bool := (List.range N).map fun i => decide (i ∈ H)
def hadR (N : Nat) (H : List Nat) : Bk := .row 1 (dRows ((hadL N H).map bE))
def wkB (t c : Nat) : Bk := .var [.ptr 0 0, .row 1 1 0 none, .row t 1 c none]
def W4 (l : List Obj) (ops : List Opn) (ps : List Prc) (H : List Nat) (q : List Nat × Nat) : Mem := [kB l ops ps, hadR l.length H, wkB 3 q.2, .row 1 (dRows (q.1.map nI))]
def W5 (l : List Obj) (ops : List Opn) (ps : List Prc) (H T : List Nat) : Mem := [kB l ops ps, hadR l.length H, wkB 4 0, .dead, .row 1 (dRows (T.map nI))]
def adT (l : List Obj) (z : Int) (H : List Nat) (q : List Nat × Nat) : List Nat × Nat := if (isS l z 0 && !inN H z) = true then (q.1.drop q.2 ++ [z.toNat], 0) else q
theorem hadL_len (N : Nat) (H : List Nat) : (hadL N H).length = N := by simp [hadL]
theorem hadL_at {N : Nat} {H : List Nat} {n : Nat} (h : n < N) : (hadL N H)[n]? = some (decide (n ∈ H)) := by
  unfold hadL
  rw [List.getElem?_map, List.getElem?_range h]
  rfl
theorem hadL_set {N : Nat} {H : List Nat} {n : Nat} (h : n < N) : (hadL N H).set n true = hadL N (H ++ [n]) := by
  apply List.ext_getElem?
  intro i
  by_cases hi : i < N
  · rw [hadL_at hi]
    by_cases hn : n = i
    · subst hn
      rw [List.getElem?_set_self (by rw [hadL_len]; exact h)]
      simp
    · rw [List.getElem?_set_ne hn, hadL_at hi]
      have : (i ∈ H ++ [n]) ↔ i ∈ H := by
        simp
        intro e
        exact absurd e.symm hn
      rw [decide_eq_decide.2 this]
  · rw [List.getElem?_eq_none (by rw [List.length_set, hadL_len]; omega), List.getElem?_eq_none (by rw [hadL_len]; omega)]
theorem subN {α : Type} (rows : List α) (c : Nat) : subL rows c none = rows.drop c := by cases c <;> simp [subL]
theorem vw4 (l : List Obj) (ops : List Opn) (ps : List Prc) (H : List Nat) (q : List Nat × Nat) (n : Nat) (R : Mem) : MemVw (sg [0, 1, 2, 3] n) (kB l ops ps :: hadR l.length H :: wkB 3 q.2 :: .row 1 (dRows (q.1.map nI)) :: R) (fun k => memN [] k = true) 0 (W4 l ops ps H q) :=
  .put (notF rfl) rfl (.eq rfl (by simp [kB])) (.put (notF rfl) rfl (.rowDE rfl) (.put (notF rfl) rfl (.eq rfl (by simp [wkB])) (.put (notF rfl) rfl (.rowDE rfl) (.nil _))))
/-! many at once -/
def wk2 (l : List Obj) (zs : List Int) (s : List Nat × List Nat × Nat) : List Nat × List Nat × Nat := zs.foldl (fun s z => (markL l z s.1, adT l z s.1 s.2)) s
theorem wk2_app (l : List Obj) (x y : List Int) (s : List Nat × List Nat × Nat) : wk2 l (x ++ y) s = wk2 l y (wk2 l x s) := List.foldl_append
theorem wk2_fst (l : List Obj) : ∀ (zs : List Int) (s : List Nat × List Nat × Nat), (wk2 l zs s).1 = mkL l zs s.1
  | [], _ => rfl
  | z :: r, s => wk2_fst l r _
theorem markL_step (l : List Obj) (z : Int) (H : List Nat) (q : List Nat × Nat) : ∃ d, markL l z H = H ++ d ∧ (adT l z H q).1.drop (adT l z H q).2 = q.1.drop q.2 ++ d := by
  by_cases h : (isS l z 0 && !inN H z) = true
  · exact ⟨[z.toNat], if_pos h, by rw [show adT l z H q = (q.1.drop q.2 ++ [z.toNat], 0) from if_pos h]; simp⟩
  · exact ⟨[], by rw [show markL l z H = H from if_neg h]; simp, by rw [show adT l z H q = q from if_neg h]; simp⟩
/-- what was added to be looked at is what was marked -/
theorem wk2_step (l : List Obj) : ∀ (zs : List Int) (s : List Nat × List Nat × Nat), ∃ d, (wk2 l zs s).1 = s.1 ++ d ∧ (wk2 l zs s).2.1.drop (wk2 l zs s).2.2 = s.2.1.drop s.2.2 ++ d
  | [], s => ⟨[], by simp [wk2], by simp [wk2]⟩
  | z :: r, s => by
    obtain ⟨d1, h1, h2⟩ := markL_step l z s.1 s.2
    obtain ⟨d2, h3, h4⟩ := wk2_step l r (markL l z s.1, adT l z s.1 s.2)
    refine ⟨d1 ++ d2, ?_, ?_⟩
    · show (wk2 l r (markL l z s.1, adT l z s.1 s.2)).1 = _
      rw [h3, ← List.append_assoc, ← h1]
    · show (wk2 l r (markL l z s.1, adT l z s.1 s.2)).2.1.drop (wk2 l r (markL l z s.1, adT l z s.1 s.2)).2.2 = _
      rw [h4, ← List.append_assoc, ← h2]
/-- what the walker's memory is behind a call: as it was, or with a row more -/
def WP (l : List Obj) (ops : List Opn) (ps : List Prc) (zs : List Int) (H : List Nat) (q : List Nat × Nat) (r : CV) (m : Mem) : Prop :=
  r = .tup [] ∧ ((wk2 l zs (H, q) = (H, q) ∧ m = W4 l ops ps H q) ∨ ∃ H' T', wk2 l zs (H, q) = (H', T', 0) ∧ m = W5 l ops ps H' T')
structure WI (N : Nat) (s : List Nat × List Nat × Nat) : Prop where
  nd : s.1.Nodup
  lt : ∀ n, n ∈ s.1 → n < N
  le : s.2.1.length ≤ s.1.length
theorem WI.len {N : Nat} {s : List Nat × List Nat × Nat} (h : WI N s) : s.1.length ≤ N := by
  have hp : s.1.Perm ((List.range N).filter fun i => decide (i ∈ s.1)) := (List.perm_ext_iff_of_nodup h.nd (List.nodup_range.filter _)).2 fun a => by
    simp only [List.mem_filter, List.mem_range, decide_eq_true_eq]
    exact ⟨fun ha => ⟨h.lt a ha, ha⟩, fun ha => ha.2⟩
  rw [hp.length_eq]
  exact Nat.le_trans (List.length_filter_le _ _) (by simp)
theorem WI.step {l : List Obj} {s : List Nat × List Nat × Nat} (h : WI l.length s) (z : Int) : WI l.length (markL l z s.1, adT l z s.1 s.2) := by
  by_cases hc : (isS l z 0 && !inN s.1 z) = true
  · rw [show markL l z s.1 = s.1 ++ [z.toNat] from if_pos hc, show adT l z s.1 s.2 = (s.2.1.drop s.2.2 ++ [z.toNat], 0) from if_pos hc]
    have hc : isS l z 0 = true ∧ inN s.1 z = false := by simpa using hc
    obtain ⟨n, hzn, o, ho, _⟩ := isS0.1 hc.1
    have hnn := (List.getElem?_eq_some_iff.1 ho).1
    have hni : n ∉ s.1 := fun hm => by
      have := inN_iff.2 hm
      rw [← hzn, hc.2] at this
      cases this
    have e3 : z.toNat = n := by omega
    rw [e3]
    refine ⟨?_, fun m hm => ?_, ?_⟩
    · show (s.1 ++ [n]).Nodup
      rw [List.nodup_append]
      refine ⟨h.nd, by simp, fun a ha b hb => ?_⟩
      have : b = n := by simpa using hb
      intro e
      rw [e, this] at ha
      exact hni ha
    · rcases List.mem_append.1 hm with hm | hm
      · exact h.lt m hm
      · have : m = n := by simpa using hm
        omega
    · show (s.2.1.drop s.2.2 ++ [n]).length ≤ (s.1 ++ [n]).length
      have := h.le
      rw [List.length_append, List.length_append, List.length_drop]
      simp only [List.length_cons, List.length_nil]
      omega
  · rw [show markL l z s.1 = s.1 from if_neg hc, show adT l z s.1 s.2 = s.2 from if_neg hc]
    exact h
theorem WI.wk2 {l : List Obj} : ∀ {zs : List Int} {s : List Nat × List Nat × Nat}, WI l.length s → WI l.length (Fe.wk2 l zs s)
  | [], _, h => h
  | z :: r, s, h => WI.wk2 (zs := r) (h.step z)
theorem wk2_one (l : List Obj) (z : Int) (H : List Nat) (q : List Nat × Nat) : wk2 l [z] (H, q) = (markL l z H, adT l z H q) := rfl
theorem vw5 (l : List Obj) (ops : List Opn) (ps : List Prc) (H T : List Nat) (n : Nat) (b : Bk) (R : Mem) : MemVw (sg [0, 1, 2, 3, 4] n) (kB l ops ps :: hadR l.length H :: wkB 4 0 :: b :: .row 1 (dRows (T.map nI)) :: R) (fun k => memN [] k = true) 0 (W5 l ops ps H T) :=
  .put (notF rfl) rfl (.eq rfl (by simp [kB])) (.put (notF rfl) rfl (.rowDE rfl) (.put (notF rfl) rfl (.eq rfl (by simp [wkB])) (.dead (.put (notF rfl) rfl (.rowDE rfl) (.nil _)))))
set_option maxRecDepth 100000 in
set_option maxHeartbeats 8000000 in
theorem wadd_body (l : List Obj) (ops : List Opn) (ps : List Prc) (hl : l.length ≤ 4194304) (z : Int) (H : List Nat) (q : List Nat × Nat) (hq : q.1.length ≤ 4194304) :
    body Try.prog c20 [.rv (.one (.ptr 2 0)), vInt .i64 z] (W4 l ops ps H q) (fun r m => ∃ r' m', View 4 ⟨[r], m⟩ ⟨[r'], m'⟩ ∧ WP l ops ps [z] H q r' m') := by
  have no : ¬ ((isS l z 0 && !inN H z) = true) → ∃ r' m', View 4 ⟨[.tup []], W4 l ops ps H q⟩ ⟨[r'], m'⟩ ∧ WP l ops ps [z] H q r' m' := fun h => by
    refine ⟨.tup [], _, View.of 4 [0, 1, 2, 3] [] rfl rfl rfl rfl rfl rfl (.eq rfl .nil) (vw4 l ops ps H q 4 []), rfl, .inl ⟨?_, rfl⟩⟩
    rw [wk2_one, show markL l z H = H from if_neg h, show adT l z H q = q from if_neg h]
  have hlen : (dRows ((hadL l.length H).map bE)).length = l.length := by rw [dRows_len, List.length_map, hadL_len]
  refine bB_dec (fun h1 => ?_) (fun h1 => ?_)
  · obtain ⟨n, rfl⟩ : ∃ n : Nat, z = n := ⟨z.toNat, by have h1 : z ≥ 0 := h1; omega⟩
    refine bB_dec (fun h2 => ?_) (fun h2 => ?_)
    · have h2 : (n : Int) < ((dRows ((hadL l.length H).map bE)).length : Int) := h2
      rw [hlen] at h2
      have hn : n < l.length := by omega
      have hnh : n < (hadL l.length H).length := by rw [hadL_len]; exact hn
      have hat : (hadL l.length H)[n] = decide (n ∈ H) := by
        have := hadL_at (H := H) hn
        rw [List.getElem?_eq_getElem hnh] at this
        exact Option.some.inj this
      refine ok_some (b_idx hnh) ?_
      refine ok_some (bO_get hnh) ?_
      have hin : inN H (n : Int) = decide (n ∈ H) := by
        by_cases h : n ∈ H
        · rw [decide_eq_true h]; exact inN_iff.2 h
        · rw [decide_eq_false h]
          cases hc : inN H (n : Int) with
          | false => rfl
          | true => exact absurd (inN_iff.1 hc) h
      rw [hat]
      cases hb : decide (n ∈ H) with
      | true => exact no (by rw [hin, hb]; simp)
      | false =>
        refine ok_some (obj_get hn) ?_
        refine bB_bne (fun hk => ?_) (fun hk => ?_)
        · have hk : l[n].kind ≠ 0 := hk
          have hc : (isS l (n : Int) 0 && !inN H (n : Int)) = true := by
            rw [hin, hb]
            have : isS l (n : Int) 0 = true := isS0.2 ⟨n, rfl, l[n], List.getElem?_eq_getElem hn, hk⟩
            rw [this]; rfl
          refine ok_some (b_idx hnh) ?_
          have ha0 : addN 0 n = n := by simp [addN]
          refine ok_some (x := [.dat (.val (.bool false))]) (by rw [ha0, bO_get hnh, hat, hb]) ?_
          have hsb : subL (dRows (q.1.map nI)) q.2 none = dRows ((q.1.drop q.2).map nI) := by rw [subN]; simp [dRows, List.map_drop]
          refine ⟨by show ((subL (dRows (q.1.map nI)) q.2 none).length + 1) * 8 ≤ _; rw [hsb, dRows_len, List.length_map, List.length_drop]; omega, ?_⟩
          refine ⟨.tup [], W5 l ops ps (H ++ [n]) (q.1.drop q.2 ++ [n]), View.of 6 [0, 1, 2, 3, 5] [] rfl rfl rfl rfl rfl rfl (.eq rfl .nil) (.put (notF rfl) rfl (.eq rfl (by simp [kB])) (.put (notF rfl) rfl (.rowDE (ds := (hadL l.length (H ++ [n])).map bE) (by rw [ha0, bO_set, hadL_set hn])) (.put (notF rfl) rfl (.eq (show (wkB 4 0).ren _ = _ from rfl) (by simp [wkB])) (.dead (.put (notF rfl) rfl (.rowDE (ds := (q.1.drop q.2 ++ [n]).map nI) (show subL (dRows (q.1.map nI)) q.2 none ++ [[.dat (.val (.int .i64 (n : Nat)))]] = _ from by rw [hsb]; simp [dRows, nI])) (.nil _)))))), rfl, .inr ⟨_, _, ?_, rfl⟩⟩
          rw [wk2_one, show markL l (n : Int) H = H ++ [n] from if_pos hc, show adT l (n : Int) H q = (q.1.drop q.2 ++ [n], 0) from if_pos hc]
        · have hk : l[n].kind = 0 := by simpa using hk
          refine no ?_
          have : isS l (n : Int) 0 = false := by
            cases hc : isS l (n : Int) 0 with
            | false => rfl
            | true =>
              obtain ⟨m, hm⟩ := isS0.1 hc
              obtain ⟨e, o, ho, hko⟩ := hm
              have : n = m := by omega
              subst this
              rw [List.getElem?_eq_getElem hn] at ho
              cases ho
              exact absurd hk hko
          rw [this]; simp
    · have h2 : ¬ (n : Int) < ((dRows ((hadL l.length H).map bE)).length : Int) := h2
      rw [hlen] at h2
      refine no ?_
      have : isS l (n : Int) 0 = false := by simp [isS]; omega
      rw [this]; simp
  · have h1 : ¬ z ≥ 0 := h1
    refine no ?_
    have : isS l z 0 = false := by simp [isS]; omega
    rw [this]; simp
/-- a call by which the walker's memory comes to be WP: behind the caller's rest -/
theorem wcallA {l : List Obj} {ops : List Opn} {ps : List Prc} {f : Nat} {args : List CV} {zs : List Int} {H : List Nat} {q : List Nat × Nat} (hc : ACall Try.prog f args (W4 l ops ps H q) (WP l ops ps zs H q)) (R : Mem) (hargs : args = args.map (CV.ren (sg [0, 1, 2, 3] (R.length + 4)))) {K : CV → Mem → Prop}
    (hA : wk2 l zs (H, q) = (H, q) → K (.tup []) (kB l ops ps :: hadR l.length H :: wkB 3 q.2 :: .row 1 (dRows (q.1.map nI)) :: R))
    (hB : ∀ H' T', wk2 l zs (H, q) = (H', T', 0) → K (.tup []) (kB l ops ps :: hadR l.length H' :: wkB (R.length + 4) 0 :: .dead :: app2 R [.row 1 (dRows (T'.map nI))])) :
    ACall Try.prog f args (kB l ops ps :: hadR l.length H :: wkB 3 q.2 :: .row 1 (dRows (q.1.map nI)) :: R) K := by
  refine acall_borrow [0, 1, 2, 3] (R.length + 4) rfl rfl rfl (by simp [allLt, Nat.blt]) (args0 := args) hargs (m0 := W4 l ops ps H q) (fun i b' hi => ?_) hc (fun r m1 hr => ?_)
  · match i, hi with
    | 0, hi => cases hi; exact .inr ⟨fun h => h, _, rfl, .eq rfl (by simp [kB])⟩
    | 1, hi => cases hi; exact .inr ⟨fun h => h, _, rfl, .rowDE rfl⟩
    | 2, hi => cases hi; exact .inr ⟨fun h => h, _, rfl, .eq rfl (by simp [wkB])⟩
    | 3, hi => cases hi; exact .inr ⟨fun h => h, _, rfl, .rowDE rfl⟩
    | n + 4, hi => simp [W4] at hi
  · obtain ⟨rfl, ⟨e, rfl⟩ | ⟨H', T', e, rfl⟩⟩ := hr
    · refine ⟨Nat.le_refl _, ?_⟩
      show K (.tup []) (kB l ops ps :: (hadR l.length H).ren (sg [0, 1, 2, 3] (R.length + 4)) :: wkB 3 q.2 :: (Bk.row 1 (dRows (q.1.map nI))).ren (sg [0, 1, 2, 3] (R.length + 4)) :: app2 R [])
      rw [hadR, Bk.ren_dRows, Bk.ren_dRows, app2_eq, List.append_nil]
      exact hA e
    · refine ⟨by simp [W5, W4], ?_⟩
      show K (.tup []) (kB l ops ps :: (hadR l.length H').ren (sg [0, 1, 2, 3] (R.length + 4)) :: wkB (R.length + 4 + (4 - 4)) 0 :: .dead :: app2 R [(Bk.row 1 (dRows (T'.map nI))).ren (sg [0, 1, 2, 3] (R.length + 4))])
      rw [hadR, Bk.ren_dRows, Bk.ren_dRows]
      exact hB H' T' e
set_option maxRecDepth 100000 in
theorem wadd_c (l : List Obj) (ops : List Opn) (ps : List Prc) (hl : l.length ≤ 4194304) (z : Int) (H : List Nat) (q : List Nat × Nat) (hq : q.1.length ≤ 4194304) : ACall Try.prog 20 [.rv (.one (.ptr 2 0)), vInt .i64 z] (W4 l ops ps H q) (WP l ops ps [z] H q) :=
  acall_view (acall_body Try.func20 l20 rfl (Nat.le_of_ble_eq_true rfl) (wadd_body l ops ps hl z H q hq)) fun r m1 hr => hr
end Fe

/-! Fence: walker.cap, walker.proc -/
namespace Fe
theorem wcallB {l : List Obj} {ops : List Opn} {ps : List Prc} {f : Nat} {args : List CV} {zs : List Int} {H T : List Nat} (hc : ACall Try.prog f args (W4 l ops ps H (T, 0)) (WP l ops ps zs H (T, 0))) (R : Mem) (hargs : args = args.map (CV.ren (sg [0, 1, 2, 4] (R.length + 5)))) {K : CV → Mem → Prop}
    (hA : wk2 l zs (H, T, 0) = (H, T, 0) → K (.tup []) (kB l ops ps :: hadR l.length H :: wkB 4 0 :: .dead :: .row 1 (dRows (T.map nI)) :: R))
    (hB : ∀ H' T', wk2 l zs (H, T, 0) = (H', T', 0) → K (.tup []) (kB l ops ps :: hadR l.length H' :: wkB (R.length + 5) 0 :: .dead :: .dead :: app2 R [.row 1 (dRows (T'.map nI))])) :
    ACall Try.prog f args (kB l ops ps :: hadR l.length H :: wkB 4 0 :: .dead :: .row 1 (dRows (T.map nI)) :: R) K := by
  refine acall_borrow [0, 1, 2, 4] (R.length + 5) rfl rfl rfl (by simp [allLt, Nat.blt]) (args0 := args) hargs (m0 := W4 l ops ps H (T, 0)) (fun i b' hi => ?_) hc (fun r m1 hr => ?_)
  · match i, hi with
    | 0, hi => cases hi; exact .inr ⟨fun h => h, _, rfl, .eq rfl (by simp [kB])⟩
    | 1, hi => cases hi; exact .inr ⟨fun h => h, _, rfl, .rowDE rfl⟩
    | 2, hi => cases hi; exact .inr ⟨fun h => h, _, rfl, .eq rfl (by simp [wkB])⟩
    | 3, hi => cases hi; exact .inr ⟨fun h => h, _, rfl, .rowDE rfl⟩
    | n + 4, hi => simp [W4] at hi
  · obtain ⟨rfl, ⟨e, rfl⟩ | ⟨H', T', e, rfl⟩⟩ := hr
    · refine ⟨Nat.le_refl _, ?_⟩
      show K (.tup []) (kB l ops ps :: (hadR l.length H).ren (sg [0, 1, 2, 4] (R.length + 5)) :: wkB 4 0 :: .dead :: (Bk.row 1 (dRows (T.map nI))).ren (sg [0, 1, 2, 4] (R.length + 5)) :: app2 R [])
      rw [hadR, Bk.ren_dRows, Bk.ren_dRows, app2_eq, List.append_nil]
      exact hA e
    · refine ⟨by simp [W5, W4], ?_⟩
      show K (.tup []) (kB l ops ps :: (hadR l.length H').ren (sg [0, 1, 2, 4] (R.length + 5)) :: wkB (R.length + 5 + (4 - 4)) 0 :: .dead :: .dead :: app2 R [(Bk.row 1 (dRows (T'.map nI))).ren (sg [0, 1, 2, 4] (R.length + 5))])
      rw [hadR, Bk.ren_dRows, Bk.ren_dRows]
      exact hB H' T' e
theorem vwB (l : List Obj) (ops : List Opn) (ps : List Prc) (H T : List Nat) (b x : Bk) (R : Mem) (n : Nat) : MemVw (sg [0, 1, 2, 3, 5] n) (kB l ops ps :: hadR l.length H :: wkB 5 0 :: b :: x :: .row 1 (dRows (T.map nI)) :: R) (fun k => memN [] k = true) 0 (W5 l ops ps H T) :=
  .put (notF rfl) rfl (.eq rfl (by simp [kB])) (.put (notF rfl) rfl (.rowDE rfl) (.put (notF rfl) rfl (.eq rfl (by simp [wkB])) (.dead (.put (notF rfl) rfl (.rowDE rfl) (.nil _)))))
theorem vwB6 (l : List Obj) (ops : List Opn) (ps : List Prc) (H T : List Nat) (b x y : Bk) (R : Mem) (n : Nat) : MemVw (sg [0, 1, 2, 3, 6] n) (kB l ops ps :: hadR l.length H :: wkB 6 0 :: b :: x :: y :: .row 1 (dRows (T.map nI)) :: R) (fun k => memN [] k = true) 0 (W5 l ops ps H T) :=
  .put (notF rfl) rfl (.eq rfl (by simp [kB])) (.put (notF rfl) rfl (.rowDE rfl) (.put (notF rfl) rfl (.eq rfl (by simp [wkB])) (.dead (.put (notF rfl) rfl (.rowDE rfl) (.nil _)))))
theorem wk2_neg (l : List Obj) (s : List Nat × List Nat × Nat) : wk2 l [-1] s = s := by
  show (markL l (-1) s.1, adT l (-1) s.1 s.2) = s
  have h : ¬ (isS l (-1) 0 && !inN s.1 (-1)) = true := by simp [isS]
  rw [show markL l (-1) s.1 = s.1 from if_neg h, show adT l (-1) s.1 s.2 = s.2 from if_neg h]
set_option maxRecDepth 100000 in
set_option maxHeartbeats 8000000 in
theorem wcap_body (l : List Obj) (ops : List Opn) (ps : List Prc) (hl : l.length ≤ 4194304) (z rts : Int) (H : List Nat) (q : List Nat × Nat) (hq : q.1.length ≤ 4194304) :
    body Try.prog c21 [.rv (.one (.ptr 2 0)), .rv (.agg [.dat (.val (.int .i64 z)), .dat (.val (.int .i64 rts))])] (W4 l ops ps H q) (fun r m => ∃ r' m', View 4 ⟨[r], m⟩ ⟨[r'], m'⟩ ∧ WP l ops ps [capZ ops z] H q r' m') := by
  have no : capZ ops z = -1 → ∃ r' m', View 4 ⟨[.tup []], app2 (W4 l ops ps H q) [.var [.dat (.val (.int .i64 z)), .dat (.val (.int .i64 rts))]]⟩ ⟨[r'], m'⟩ ∧ WP l ops ps [capZ ops z] H q r' m' := fun h => by
    refine ⟨.tup [], _, View.of 5 [0, 1, 2, 3] [] rfl rfl rfl rfl rfl rfl (.eq rfl .nil) (vw4 l ops ps H q 5 [_]), rfl, .inl ⟨?_, rfl⟩⟩
    rw [h, wk2_neg]
  refine bB_dec (fun h0 => ?_) (fun h0 => ?_)
  · obtain ⟨n, rfl⟩ : ∃ n : Nat, z = n := ⟨z.toNat, by have h0 : z ≥ 0 := h0; omega⟩
    refine bB_dec (fun h => ?_) (fun h => ?_)
    · have hlt : n < ops.length := by
        have h : (n : Int) < ((ops.map Opn.enc).length : Int) := h
        rw [List.length_map] at h
        omega
      have hz : capZ ops (n : Int) = ops[n].obj := by
        rw [capZ, if_pos (by omega), Int.toNat_natCast, List.getElem?_eq_getElem hlt]
      rw [hz]
      refine ok_some (opn_get hlt) ?_
      refine wcallA (wadd_c l ops ps hl ops[n].obj H q hq) [.var [.dat (.val (.int .i64 (n : Nat))), .dat (.val (.int .i64 rts))]] rfl (fun e => ?_) (fun H' T' e => ?_)
      · exact ⟨trivial, .tup [], _, View.of 5 [0, 1, 2, 3] [] rfl rfl rfl rfl rfl rfl (.eq rfl .nil) (vw4 l ops ps H q 5 [_]), rfl, .inl ⟨e, rfl⟩⟩
      · exact ⟨trivial, .tup [], _, View.of 6 [0, 1, 2, 3, 5] [] rfl rfl rfl rfl rfl rfl (.eq rfl .nil) (vwB l ops ps H' T' _ _ [] 6), rfl, .inr ⟨H', T', e, rfl⟩⟩
    · have hge : ops.length ≤ n := by
        have h : ¬ (n : Int) < ((ops.map Opn.enc).length : Int) := h
        rw [List.length_map] at h
        omega
      exact no (by rw [capZ, if_pos (by omega), Int.toNat_natCast, List.getElem?_eq_none hge])
  · exact no (by rw [capZ, if_neg (by have h0 : ¬ z ≥ 0 := h0; omega)])
set_option maxRecDepth 100000 in
theorem wcap_c (l : List Obj) (ops : List Opn) (ps : List Prc) (hl : l.length ≤ 4194304) (z rts : Int) (H : List Nat) (q : List Nat × Nat) (hq : q.1.length ≤ 4194304) : ACall Try.prog 21 [.rv (.one (.ptr 2 0)), .rv (.agg [.dat (.val (.int .i64 z)), .dat (.val (.int .i64 rts))])] (W4 l ops ps H q) (WP l ops ps [capZ ops z] H q) :=
  acall_view (acall_body Try.func21 l21 rfl (Nat.le_of_ble_eq_true rfl) (wcap_body l ops ps hl z rts H q hq)) fun r m1 hr => hr
structure StW where
  j : Nat
  b : Option (List Nat × List Nat)
def WF (l : List Obj) (ops : List Opn) (ps : List Prc) (H : List Nat) (q : List Nat × Nat) : Option (List Nat × List Nat) → Mem
  | none => W4 l ops ps H q
  | some x => W5 l ops ps x.1 x.2
def WJ (H : List Nat) (q : List Nat × Nat) (s : List Nat × List Nat × Nat) : Option (List Nat × List Nat) → Prop
  | none => s = (H, q)
  | some x => s = (x.1, x.2, 0)
theorem wend {l : List Obj} {ops : List Opn} {ps : List Prc} {H : List Nat} {q : List Nat × Nat} {zs : List Int} {b : Option (List Nat × List Nat)} (h : WJ H q (wk2 l zs (H, q)) b) : WP l ops ps zs H q (.tup []) (WF l ops ps H q b) := by
  cases b with
  | none => exact ⟨rfl, .inl ⟨h, rfl⟩⟩
  | some x => exact ⟨rfl, .inr ⟨x.1, x.2, h, rfl⟩⟩
set_option maxRecDepth 100000 in
set_option maxHeartbeats 8000000 in
theorem wproc_body (l : List Obj) (ops : List Opn) (ps : List Prc) (hl : l.length ≤ 4194304) (hps : ∀ p, p ∈ ps → p.slots.length ≤ 4194304) (p : Int) (H : List Nat) (q : List Nat × Nat) (hI : WI l.length (H, q)) :
    body Try.prog c19 [.rv (.one (.ptr 2 0)), vInt .i64 p] (W4 l ops ps H q) (fun r m => ∃ r' m', View 4 ⟨[r], m⟩ ⟨[r'], m'⟩ ∧ WP l ops ps (prZ ops ps p) H q r' m') := by
  have no : prZ ops ps p = [] → ∃ r' m', View 4 ⟨[.tup []], W4 l ops ps H q⟩ ⟨[r'], m'⟩ ∧ WP l ops ps (prZ ops ps p) H q r' m' := fun h =>
    ⟨.tup [], _, View.of 4 [0, 1, 2, 3] [] rfl rfl rfl rfl rfl rfl (.eq rfl .nil) (vw4 l ops ps H q 4 []), rfl, .inl ⟨by rw [h]; rfl, rfl⟩⟩
  refine bB_dec (fun h1 => ?_) (fun h1 => ?_)
  · exact no (prZ_neg h1)
  obtain ⟨n, rfl⟩ : ∃ n : Nat, p = n := ⟨p.toNat, by have h1 : ¬ p < 0 := h1; omega⟩
  refine bB_dec (fun h2 => ?_) (fun h2 => ?_)
  · have h2 : (n : Int) ≥ ((ps.map Prc.enc).length : Int) := h2
    rw [List.length_map] at h2
    exact no (prZ_ge (by omega))
  have h2 : ¬ (n : Int) ≥ ((ps.map Prc.enc).length : Int) := h2
  rw [List.length_map] at h2
  have hn : n < ps.length := by omega
  have hpz := prZ_at (ops := ops) hn
  have hsl := hps _ (List.getElem_mem hn)
  have hg : getZ (ps.map Prc.enc) (n : Nat) = some (ps[n].enc) := by rw [getZ_nat, List.getElem?_map, List.getElem?_eq_getElem hn]; rfl
  generalize ps[n] = pr at hg hsl hpz
  obtain ⟨live, fenced, code, slots⟩ := pr
  have hsl : slots.length ≤ 4194304 := hsl
  refine ok_some (x := [.val (.bool live), .val (.bool fenced), .val (.int .i64 code), sl3D slots]) hg ?_
  cases live with
  | false => exact no hpz
  | true =>
    have hpz : prZ ops ps n = slZ ops slots := hpz
    rw [hpz]
    refine ok_some (x := [.val (.bool true), .val (.bool fenced), .val (.int .i64 code), sl3D slots]) hg ?_
    refine loop_keep (fun a : StW => a.j ≤ slots.length ∧ WJ H q (wk2 l (slZ ops (slots.take a.j)) (H, q)) a.b) [0, 44, 45] (fun a => [(46, vInt .i64 (a.j : Nat))]) (fun a => WF l ops ps H q a.b) (fun a => slots.length - a.j) ⟨0, none⟩ ⟨Nat.zero_le _, rfl⟩ ?_ (fun a hJ => ?_)
    · refine View.of 4 [0, 1, 2, 3] [] rfl rfl rfl rfl rfl rfl ?_ (vw4 l ops ps H q 4 [])
      repeat (first | exact .nil | refine .junk ?_ | refine .eq rfl ?_)
    obtain ⟨j, b⟩ := a
    obtain ⟨hj, hb⟩ := hJ
    have hj : j ≤ slots.length := hj
    have hb : WJ H q (wk2 l (slZ ops (slots.take j)) (H, q)) b := hb
    have hWI : WI l.length (wk2 l (slZ ops (slots.take j)) (H, q)) := hI.wk2
    have next : j < slots.length → ∀ hasd : Bool, True := fun _ _ => trivial
    cases b with
    | none =>
      have hb : wk2 l (slZ ops (slots.take j)) (H, q) = (H, q) := hb
      refine bB_dec (fun hjl => ?_) (fun hjl => ?_)
      · have hjlt : j < slots.length := by
          have h : (j : Int) < ((slots.map Sl3.enc).length : Int) := hjl
          rw [List.length_map] at h
          omega
        have ht := slZ_take (ops := ops) hjlt
        have hg2 : getZ (slots.map Sl3.enc) (j : Nat) = some (slots[j].enc) := by rw [getZ_nat, List.getElem?_map, List.getElem?_eq_getElem hjlt]; rfl
        generalize slots[j] = s at ht hg2
        obtain ⟨has, opn, rts⟩ := s
        refine ok_some (x := [.val (.bool has), .val (.int .i64 opn), .val (.int .i64 rts)]) hg2 ?_
        cases has with
        | true =>
          have hs : wk2 l (slZ ops (slots.take (j + 1))) (H, q) = wk2 l [capZ ops opn] (H, q) := by rw [ht, wk2_app, hb]; rfl
          refine wcallA (wcap_c l ops ps hl opn rts H q (Nat.le_trans hI.le (Nat.le_trans hI.len hl))) [.var [.dat (.val (.bool true)), .dat (.val (.int .i64 opn)), .dat (.val (.int .i64 rts))]] rfl (fun e => ?_) (fun H' T' e => ?_)
          · refine ⟨⟨j + 1, none⟩, ⟨hjlt, hs.trans e⟩, (show slots.length - (j + 1) < slots.length - j by omega), View.of 5 [0, 1, 2, 3] [] rfl rfl rfl rfl rfl rfl ?_ (vw4 l ops ps H q 5 [_])⟩
            repeat (first | exact .nil | refine .junk ?_ | refine .put (.ren (next_i64 (by omega)).symm) ?_ | refine .eq rfl ?_)
          · refine ⟨⟨j + 1, some (H', T')⟩, ⟨hjlt, hs.trans e⟩, (show slots.length - (j + 1) < slots.length - j by omega), View.of 6 [0, 1, 2, 3, 5] [] rfl rfl rfl rfl rfl rfl ?_ (vwB l ops ps H' T' _ _ [] 6)⟩
            repeat (first | exact .nil | refine .junk ?_ | refine .put (.ren (next_i64 (by omega)).symm) ?_ | refine .eq rfl ?_)
        | false =>
          have hs : wk2 l (slZ ops (slots.take (j + 1))) (H, q) = (H, q) := by rw [ht, wk2_app, hb]; rfl
          refine ⟨⟨j + 1, none⟩, ⟨hjlt, hs⟩, (show slots.length - (j + 1) < slots.length - j by omega), View.of 5 [0, 1, 2, 3] [] rfl rfl rfl rfl rfl rfl ?_ (vw4 l ops ps H q 5 [_])⟩
          repeat (first | exact .nil | refine .junk ?_ | refine .put (.ren (next_i64 (by omega)).symm) ?_ | refine .eq rfl ?_)
      · have hje : j = slots.length := by
          have h : ¬ (j : Int) < ((slots.map Sl3.enc).length : Int) := hjl
          rw [List.length_map] at h
          omega
        subst hje
        rw [List.take_length] at hb
        exact ⟨.tup [], _, View.of 4 [0, 1, 2, 3] [] rfl rfl rfl rfl rfl rfl (.eq rfl .nil) (vw4 l ops ps H q 4 []), rfl, .inl ⟨hb, rfl⟩⟩
    | some x =>
      obtain ⟨H1, T1⟩ := x
      have hb : wk2 l (slZ ops (slots.take j)) (H, q) = (H1, T1, 0) := hb
      have hI1 : WI l.length (H1, T1, 0) := hb ▸ hWI
      refine bB_dec (fun hjl => ?_) (fun hjl => ?_)
      · have hjlt : j < slots.length := by
          have h : (j : Int) < ((slots.map Sl3.enc).length : Int) := hjl
          rw [List.length_map] at h
          omega
        have ht := slZ_take (ops := ops) hjlt
        have hg2 : getZ (slots.map Sl3.enc) (j : Nat) = some (slots[j].enc) := by rw [getZ_nat, List.getElem?_map, List.getElem?_eq_getElem hjlt]; rfl
        generalize slots[j] = s at ht hg2
        obtain ⟨has, opn, rts⟩ := s
        refine ok_some (x := [.val (.bool has), .val (.int .i64 opn), .val (.int .i64 rts)]) hg2 ?_
        cases has with
        | true =>
          have hs : wk2 l (slZ ops (slots.take (j + 1))) (H, q) = wk2 l [capZ ops opn] (H1, T1, 0) := by rw [ht, wk2_app, hb]; rfl
          refine wcallB (wcap_c l ops ps hl opn rts H1 (T1, 0) (Nat.le_trans hI1.le (Nat.le_trans hI1.len hl))) [.var [.dat (.val (.bool true)), .dat (.val (.int .i64 opn)), .dat (.val (.int .i64 rts))]] rfl (fun e => ?_) (fun H' T' e => ?_)
          · refine ⟨⟨j + 1, some (H1, T1)⟩, ⟨hjlt, hs.trans e⟩, (show slots.length - (j + 1) < slots.length - j by omega), View.of 6 [0, 1, 2, 3, 4] [] rfl rfl rfl rfl rfl rfl ?_ (vw5 l ops ps H1 T1 6 _ [_])⟩
            repeat (first | exact .nil | refine .junk ?_ | refine .put (.ren (next_i64 (by omega)).symm) ?_ | refine .eq rfl ?_)
          · refine ⟨⟨j + 1, some (H', T')⟩, ⟨hjlt, hs.trans e⟩, (show slots.length - (j + 1) < slots.length - j by omega), View.of 7 [0, 1, 2, 3, 6] [] rfl rfl rfl rfl rfl rfl ?_ (vwB6 l ops ps H' T' _ _ _ [] 7)⟩
            repeat (first | exact .nil | refine .junk ?_ | refine .put (.ren (next_i64 (by omega)).symm) ?_ | refine .eq rfl ?_)
        | false =>
          have hs : wk2 l (slZ ops (slots.take (j + 1))) (H, q) = (H1, T1, 0) := by rw [ht, wk2_app, hb]; rfl
          refine ⟨⟨j + 1, some (H1, T1)⟩, ⟨hjlt, hs⟩, (show slots.length - (j + 1) < slots.length - j by omega), View.of 6 [0, 1, 2, 3, 4] [] rfl rfl rfl rfl rfl rfl ?_ (vw5 l ops ps H1 T1 6 _ [_])⟩
          repeat (first | exact .nil | refine .junk ?_ | refine .put (.ren (next_i64 (by omega)).symm) ?_ | refine .eq rfl ?_)
      · have hje : j = slots.length := by
          have h : ¬ (j : Int) < ((slots.map Sl3.enc).length : Int) := hjl
          rw [List.length_map] at h
          omega
        subst hje
        rw [List.take_length] at hb
        exact ⟨.tup [], _, View.of 5 [0, 1, 2, 3, 4] [] rfl rfl rfl rfl rfl rfl (.eq rfl .nil) (vw5 l ops ps H1 T1 5 _ []), rfl, .inr ⟨H1, T1, hb, rfl⟩⟩
set_option maxRecDepth 100000 in
theorem wproc_c (l : List Obj) (ops : List Opn) (ps : List Prc) (hl : l.length ≤ 4194304) (hps : ∀ p, p ∈ ps → p.slots.length ≤ 4194304) (p : Int) (H : List Nat) (q : List Nat × Nat) (hI : WI l.length (H, q)) : ACall Try.prog 19 [.rv (.one (.ptr 2 0)), vInt .i64 p] (W4 l ops ps H q) (WP l ops ps (prZ ops ps p) H q) :=
  acall_view (acall_body Try.func19 l19 rfl (Nat.le_of_ble_eq_true rfl) (wproc_body l ops ps hl hps p H q hI)) fun r m1 hr => hr
end Fe


end Go.Proofs.Ytbemknkbegkflaa
