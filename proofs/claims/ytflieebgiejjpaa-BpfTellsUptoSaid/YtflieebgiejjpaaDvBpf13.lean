import Derived.Test.YtflieebgiejjpaaAmZ2
import Derived.Test.YtflieebgiejjpaaDvBpf12
import Derived.Test.YtflieebgiejjpaaAmY
set_option linter.unusedVariables false
set_option linter.unusedSimpArgs false
namespace Go.Proofs.Ytflieebgiejjpaa
open Go.AM Go.ChangeShapes Go.WideShapes Go.ChangeAt Go.RowKit
def c7 : LF := ⟨80, [.tmp 6], (.seq (.reg [
    ⟨(some 4), .box (.t 1), none⟩,
    ⟨(some 6), .mov (.c (.rv (.one (.dat (.val (.bool false)))))), none⟩]) (.seq (.seq (.reg [
    ⟨(some 17), .mov (.t 0), none⟩,
    ⟨(some 18), .call (.c (.rv (.one (.fn 38 [])))) [(.t 17)], none⟩,
    ⟨(some 19), .mov (.t 0), none⟩,
    ⟨(some 20), .call (.c (.rv (.one (.fn 39 [])))) [(.t 19)], none⟩,
    ⟨(some 21), .eqa true [.i, .i] (.t 18) (.t 20), none⟩]) (.cond (.t 21) (.seq (.reg [
    ⟨(some 6), .mov (.c (.rv (.one (.dat (.val (.bool false)))))), none⟩]) .ret) .skip)) (.seq (.reg [
    ⟨(some 23), .mov (.t 0), none⟩,
    ⟨(some 24), .load true 6 (.t 4), none⟩,
    ⟨(some 25), .call (.c (.rv (.one (.fn 40 [])))) [(.t 23), (.t 24)], none⟩,
    ⟨(some 22), .mov (.t 25), none⟩,
    ⟨(some 26), .ext (.t 22) 0, none⟩,
    ⟨(some 27), .ext (.t 22) 1, none⟩,
    ⟨(some 7), .mov (.t 26), none⟩,
    ⟨(some 8), .mov (.t 27), none⟩]) (.seq (.reg [
    ⟨(some 29), .mov (.t 0), none⟩,
    ⟨(some 30), .load true 6 (.t 4), none⟩,
    ⟨(some 31), .call (.c (.rv (.one (.fn 41 [])))) [(.t 29), (.t 30)], none⟩,
    ⟨(some 28), .mov (.t 31), none⟩,
    ⟨(some 32), .ext (.t 28) 0, none⟩,
    ⟨(some 33), .ext (.t 28) 1, none⟩,
    ⟨(some 9), .mov (.t 32), none⟩,
    ⟨(some 10), .mov (.t 33), none⟩]) (.seq (.seq (.reg [
    ⟨(some 34), .mov (.t 7), none⟩,
    ⟨(some 35), .mov (.t 9), none⟩,
    ⟨(some 36), .bin .neq (.t 34) (.t 35), none⟩,
    ⟨(some 37), .mov (.t 36), none⟩,
    ⟨(some 38), .mov (.t 8), (some (37, false))⟩,
    ⟨(some 39), .mov (.t 10), (some (37, false))⟩,
    ⟨(some 40), .bin .neq (.t 38) (.t 39), (some (37, false))⟩,
    ⟨(some 41), .pick (.t 37) (.c (.rv (.one (.dat (.val (.bool true)))))) (.t 40), none⟩]) (.cond (.t 41) (.seq (.reg [
    ⟨(some 6), .mov (.c (.rv (.one (.dat (.val (.bool false)))))), none⟩]) .ret) .skip)) (.seq (.reg [
    ⟨(some 43), .mov (.t 0), none⟩,
    ⟨(some 44), .call (.c (.rv (.one (.fn 42 [])))) [(.t 43)], none⟩,
    ⟨(some 42), .mov (.t 44), none⟩,
    ⟨(some 45), .ext (.t 42) 0, none⟩,
    ⟨(some 46), .ext (.t 42) 1, none⟩,
    ⟨(some 12), .alloc [(.dat (.val (.int .i64 (0)))), (.dat (.val (.int .i64 (0))))], none⟩,
    ⟨(some 11), .mov (.t 45), none⟩,
    ⟨none, .store 2 (.t 12) (.t 46), none⟩]) (.seq (.reg [
    ⟨(some 48), .mov (.t 0), none⟩,
    ⟨(some 49), .call (.c (.rv (.one (.fn 43 [])))) [(.t 48)], none⟩,
    ⟨(some 47), .mov (.t 49), none⟩,
    ⟨(some 50), .ext (.t 47) 0, none⟩,
    ⟨(some 51), .ext (.t 47) 1, none⟩,
    ⟨(some 14), .alloc [(.dat (.val (.int .i64 (0)))), (.dat (.val (.int .i64 (0))))], none⟩,
    ⟨(some 13), .mov (.t 50), none⟩,
    ⟨none, .store 2 (.t 14) (.t 51), none⟩]) (.seq (.seq (.reg [
    ⟨(some 52), .load true 2 (.t 12), none⟩,
    ⟨(some 53), .load true 2 (.t 14), none⟩,
    ⟨(some 54), .eqa true [.i, .i] (.t 52) (.t 53), none⟩,
    ⟨(some 55), .mov (.t 54), none⟩,
    ⟨(some 56), .mov (.t 11), (some (55, false))⟩,
    ⟨(some 57), .b2s (.t 56), (some (55, false))⟩,
    ⟨(some 58), .mov (.t 13), (some (55, false))⟩,
    ⟨(some 59), .b2s (.t 58), (some (55, false))⟩,
    ⟨(some 60), .bin .neq (.t 57) (.t 59), (some (55, false))⟩,
    ⟨(some 61), .pick (.t 55) (.c (.rv (.one (.dat (.val (.bool true)))))) (.t 60), none⟩]) (.cond (.t 61) (.seq (.reg [
    ⟨(some 6), .mov (.c (.rv (.one (.dat (.val (.bool false)))))), none⟩]) .ret) .skip)) (.seq (.reg [
    ⟨(some 63), .mov (.t 2), none⟩,
    ⟨(some 64), .call (.c (.rv (.one (.fn 44 [])))) [(.t 63)], none⟩,
    ⟨(some 62), .mov (.t 64), none⟩,
    ⟨(some 65), .ext (.t 62) 0, none⟩,
    ⟨(some 66), .ext (.t 62) 1, none⟩,
    ⟨(some 15), .mov (.t 65), none⟩,
    ⟨none, .store 2 (.t 12) (.t 66), none⟩]) (.seq (.reg [
    ⟨(some 68), .mov (.t 2), none⟩,
    ⟨(some 69), .call (.c (.rv (.one (.fn 45 [])))) [(.t 68)], none⟩,
    ⟨(some 67), .mov (.t 69), none⟩,
    ⟨(some 70), .ext (.t 67) 0, none⟩,
    ⟨(some 71), .ext (.t 67) 1, none⟩,
    ⟨(some 16), .mov (.t 70), none⟩,
    ⟨none, .store 2 (.t 14) (.t 71), none⟩]) (.seq (.reg [
    ⟨(some 72), .load true 2 (.t 12), none⟩,
    ⟨(some 73), .load true 2 (.t 14), none⟩,
    ⟨(some 74), .eqa false [.i, .i] (.t 72) (.t 73), none⟩,
    ⟨(some 75), .mov (.t 74), none⟩,
    ⟨(some 76), .mov (.t 15), (some (75, true))⟩,
    ⟨(some 77), .mov (.t 16), (some (75, true))⟩,
    ⟨(some 78), .call (.c (.rv (.one (.fn 46 [])))) [(.t 76), (.t 77)], (some (75, true))⟩,
    ⟨(some 79), .pick (.t 75) (.t 78) (.c (.rv (.one (.dat (.val (.bool false)))))), none⟩,
    ⟨(some 6), .mov (.t 79), none⟩]) .ret)))))))))))⟩
/-! The law BpfTells -/
theorem l7 : lowF Try.prog Try.f7 = some c7 := by kernel_rfl
theorem parse_len {b : List Int} (hb : BY b) : (parseS b).1.length ≤ 4194304 := by
  rcases parse_cases hb with ⟨f, e, hf⟩ | ⟨q, e, hq⟩
  · rw [e]; simp
  · rw [e]
    have hc : (checkS q).1 = 0 := by
      by_cases hc : (checkS q).1 = 0
      · exact hc
      · rw [bytesS, if_neg hc] at hq
        have := congrArg (fun x => x.2.1) hq
        exact this
    obtain ⟨_, h2, _⟩ := check_all hc
    show q.length ≤ _
    omega
set_option maxRecDepth 100000 in
set_option maxHeartbeats 8000000 in
theorem tells_body (p : List Ins) (r : Rec) (b : List Int) (hb : BY b) (hl : b.length ≤ 1048576) : body Try.prog c7 [insV p, r.cv, byV b] [] (fun x m => x = vBool true) := by
  refine check_ok p ?_
  refine rcheck_ok p ?_
  refine bB_no (by simp) ?_
  refine run_ok p r ?_
  refine rrun_ok p r ?_
  refine bB_no (by simp) ?_
  refine bB_no (by simp) ?_
  refine bytes_ok p ?_
  refine rbytes_ok p ?_
  refine bB_no (by simp) ?_
  refine ok_some (numsC_byD _) ?_
  refine ok_some (numsC_byD _) ?_
  refine bB_no (by simp) ?_
  refine parse_ok b (by omega) ?_
  refine prog_ok b hb hl ?_
  refine bB_yes (by simp) ?_
  refine same_ok _ _ (parse_len hb) ?_
  rw [decide_eq_true rfl]
  exact rfl
set_option maxRecDepth 100000 in
theorem tells_ok (p : List Ins) (r : Rec) (b : List Int) (hb : BY b) (hl : b.length ≤ 1048576) : ACall Try.prog 7 [insV p, r.cv, byV b] [] (fun x m => x = vBool true) :=
  acall_body Try.func7 l7 rfl (Nat.le_of_ble_eq_true rfl) (tells_body p r b hb hl)
end Go.Proofs.Ytflieebgiejjpaa
