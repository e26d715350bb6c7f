import Derived.Test.YtoohefnephhmbaaDoorAmZ2
import Derived.Test.YtoohefnephhmbaaDoorDvPTel
import Derived.Test.YtoohefnephhmbaaDoorAmY
set_option linter.unusedVariables false
set_option linter.unusedSimpArgs false
namespace Go.Proofs.YtoohefnephhmbaaDoor
open Go.AM Go.ChangeShapes Go.WideShapes Go.ChangeAt Go.RowKit
def c18 : LF := ⟨42, [.tmp 0], (.seq (.reg [
    ⟨(some 0), .mov (.c (.rv (.one (.dat (.val (.bool false)))))), none⟩]) (.seq (.reg [
    ⟨(some 5), .call (.c (.rv (.one (.fn 9 [])))) [(.c (.rv (.one (.dat (.val (.string ⟨#[47, 97, 47, 47, 46, 47, 98, 47, 46, 46, 47, 99]⟩))))))], none⟩,
    ⟨(some 4), .mov (.t 5), none⟩,
    ⟨(some 6), .ext (.t 4) 0, none⟩,
    ⟨(some 7), .ext (.t 4) 1, none⟩,
    ⟨(some 8), .ext (.t 4) 2, none⟩,
    ⟨(some 1), .mov (.t 6), none⟩,
    ⟨(some 2), .mov (.t 7), none⟩,
    ⟨(some 3), .mov (.t 8), none⟩]) (.seq (.reg [
    ⟨(some 9), .mov (.t 3), none⟩,
    ⟨(some 10), .bin .eql (.t 9) (.c (.rv (.one (.dat (.val (.int .i64 (0))))))), none⟩,
    ⟨(some 11), .mov (.t 10), none⟩,
    ⟨(some 12), .mov (.t 2), (some (11, true))⟩,
    ⟨(some 13), .pick (.t 11) (.t 12) (.c (.rv (.one (.dat (.val (.bool false)))))), none⟩,
    ⟨(some 14), .mov (.t 13), none⟩,
    ⟨(some 15), .mov (.t 1), (some (14, true))⟩,
    ⟨(some 16), .len 1 (.t 15), (some (14, true))⟩,
    ⟨(some 17), .bin .eql (.t 16) (.c (.rv (.one (.dat (.val (.int .i64 (4))))))), (some (14, true))⟩,
    ⟨(some 18), .pick (.t 14) (.t 17) (.c (.rv (.one (.dat (.val (.bool false)))))), none⟩,
    ⟨(some 19), .mov (.t 18), none⟩,
    ⟨(some 20), .mov (.t 1), (some (19, true))⟩,
    ⟨(some 21), .idx 1 (.t 20) (.c (.rv (.one (.dat (.val (.int .i64 (2))))))), (some (19, true))⟩,
    ⟨(some 22), .load false 1 (.t 21), (some (19, true))⟩,
    ⟨(some 23), .bin .eql (.t 22) (.c (.rv (.one (.dat (.val (.string ⟨#[46, 46]⟩)))))), (some (19, true))⟩,
    ⟨(some 24), .pick (.t 19) (.t 23) (.c (.rv (.one (.dat (.val (.bool false)))))), none⟩,
    ⟨(some 25), .mov (.t 24), none⟩,
    ⟨(some 26), .mov (.t 1), (some (25, true))⟩,
    ⟨(some 27), .call (.c (.rv (.one (.fn 14 [])))) [(.t 26), (.c (.rv (.one (.dat (.val (.bool true))))))], (some (25, true))⟩,
    ⟨(some 28), .bin .eql (.t 27) (.c (.rv (.one (.dat (.val (.string ⟨#[47, 97, 47, 98, 47, 46, 46, 47, 99]⟩)))))), (some (25, true))⟩,
    ⟨(some 29), .pick (.t 25) (.t 28) (.c (.rv (.one (.dat (.val (.bool false)))))), none⟩,
    ⟨(some 30), .mov (.t 29), none⟩,
    ⟨(some 31), .bsl 1 [(.dat (.val (.string ⟨#[]⟩)))] 4 [(0, (.c (.rv (.one (.dat (.val (.string ⟨#[46, 46]⟩))))))), (1, (.c (.rv (.one (.dat (.val (.string ⟨#[97]⟩))))))), (2, (.c (.rv (.one (.dat (.val (.string ⟨#[46, 46]⟩))))))), (3, (.c (.rv (.one (.dat (.val (.string ⟨#[46, 46]⟩)))))))], (some (30, true))⟩,
    ⟨(some 32), .call (.c (.rv (.one (.fn 16 [])))) [(.t 31)], (some (30, true))⟩,
    ⟨(some 33), .bin .eql (.t 32) (.c (.rv (.one (.dat (.val (.int .i64 (2))))))), (some (30, true))⟩,
    ⟨(some 34), .pick (.t 30) (.t 33) (.c (.rv (.one (.dat (.val (.bool false)))))), none⟩,
    ⟨(some 35), .mov (.t 34), none⟩,
    ⟨(some 36), .call (.c (.rv (.one (.fn 12 [])))) [(.c (.rv (.one (.dat (.val (.string ⟨#[97, 46, 98]⟩))))))], (some (35, true))⟩,
    ⟨(some 37), .pick (.t 35) (.t 36) (.c (.rv (.one (.dat (.val (.bool false)))))), none⟩,
    ⟨(some 38), .mov (.t 37), none⟩,
    ⟨(some 39), .call (.c (.rv (.one (.fn 12 [])))) [(.c (.rv (.one (.dat (.val (.string ⟨#[46, 46]⟩))))))], (some (38, true))⟩,
    ⟨(some 40), .un .not (.t 39), (some (38, true))⟩,
    ⟨(some 41), .pick (.t 38) (.t 40) (.c (.rv (.one (.dat (.val (.bool false)))))), none⟩,
    ⟨(some 0), .mov (.t 41), none⟩]) .ret)))⟩
theorem l18 : lowF Tryd.prog Tryd.f18 = some c18 := by kernel_rfl
theorem aliveA : splitS [47, 97, 47, 47, 46, 47, 98, 47, 46, 46, 47, 99] = ([[97], [98], [46, 46], [99]], true, 0) := by decide
theorem aliveB : pathS [[97], [98], [46, 46], [99]] true = [47, 97, 47, 98, 47, 46, 46, 47, 99] := by decide
theorem aliveC : depthS [[46, 46], [97], [46, 46], [46, 46]] = 2 := by decide
set_option maxRecDepth 100000 in
set_option maxHeartbeats 8000000 in
theorem alive_body : body Tryd.prog c18 [] [] (fun r m => r = vBool true) := by
  refine split_ok [47, 97, 47, 47, 46, 47, 98, 47, 46, 46, 47, 99] ?_
  rw [aliveA]
  refine bB_str (a := [46, 46]) (b := [46, 46]) (fun _ => ?_) (fun h => absurd rfl h)
  refine pjoin_ok [[97], [98], [46, 46], [99]] true (by decide) (by decide) ?_
  rw [aliveB]
  refine bB_str (a := [47, 97, 47, 98, 47, 46, 46, 47, 99]) (b := [47, 97, 47, 98, 47, 46, 46, 47, 99]) (fun _ => ?_) (fun h => absurd rfl h)
  refine acall_pre (args' := [txV [[46, 46], [97], [46, 46], [46, 46]]]) (m' := [.dead]) (View.of 1 [0] [0] rfl rfl rfl rfl rfl rfl (.put (VwV.frz 0 _ rfl rfl) .nil) (.dead (.nil _))) ?_
  refine depth_ok _ (by decide) ?_
  rw [aliveC]
  refine name_ok [97, 46, 98] ?_
  rw [show nameOk [97, 46, 98] = true by decide]
  refine name_ok [46, 46] ?_
  rw [show nameOk [46, 46] = false by decide]
  rfl
theorem alive_ok {m : Mem} {K : CV → Mem → Prop} (h : K (vBool true) m) : ACall Tryd.prog 18 [] m K :=
  acall_val Tryd.func18 l18 rfl (Nat.le_of_ble_eq_true rfl) alive_body rfl rfl h
end Go.Proofs.YtoohefnephhmbaaDoor
