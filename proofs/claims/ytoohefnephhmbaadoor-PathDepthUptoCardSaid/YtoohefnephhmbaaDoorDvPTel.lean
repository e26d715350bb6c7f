import Derived.Test.YtoohefnephhmbaaDoorAmZ2
import Derived.Test.YtoohefnephhmbaaDoorDvPRjo
import Derived.Test.YtoohefnephhmbaaDoorAmY
set_option linter.unusedVariables false
set_option linter.unusedSimpArgs false
namespace Go.Proofs.YtoohefnephhmbaaDoor
open Go.AM Go.ChangeShapes Go.WideShapes Go.ChangeAt Go.RowKit
def c3 : LF := ⟨61, [.tmp 6], (.seq (.reg [
    ⟨(some 6), .mov (.c (.rv (.one (.dat (.val (.bool false)))))), none⟩]) (.seq (.reg [
    ⟨(some 14), .mov (.t 0), none⟩,
    ⟨(some 15), .call (.c (.rv (.one (.fn 9 [])))) [(.t 14)], none⟩,
    ⟨(some 13), .mov (.t 15), none⟩,
    ⟨(some 16), .ext (.t 13) 0, none⟩,
    ⟨(some 17), .ext (.t 13) 1, none⟩,
    ⟨(some 18), .ext (.t 13) 2, none⟩,
    ⟨(some 7), .mov (.t 16), none⟩,
    ⟨(some 8), .mov (.t 17), none⟩,
    ⟨(some 9), .mov (.t 18), none⟩]) (.seq (.reg [
    ⟨(some 20), .mov (.t 0), none⟩,
    ⟨(some 21), .call (.c (.rv (.one (.fn 10 [])))) [(.t 20)], none⟩,
    ⟨(some 19), .mov (.t 21), none⟩,
    ⟨(some 22), .ext (.t 19) 0, none⟩,
    ⟨(some 23), .ext (.t 19) 1, none⟩,
    ⟨(some 24), .ext (.t 19) 2, none⟩,
    ⟨(some 10), .mov (.t 22), none⟩,
    ⟨(some 11), .mov (.t 23), none⟩,
    ⟨(some 12), .mov (.t 24), none⟩]) (.seq (.reg [
    ⟨(some 25), .mov (.t 9), none⟩,
    ⟨(some 26), .mov (.t 12), none⟩,
    ⟨(some 27), .bin .eql (.t 25) (.t 26), none⟩,
    ⟨(some 28), .mov (.t 27), none⟩,
    ⟨(some 29), .mov (.t 8), (some (28, true))⟩,
    ⟨(some 30), .mov (.t 11), (some (28, true))⟩,
    ⟨(some 31), .beq false (.t 29) (.t 30), (some (28, true))⟩,
    ⟨(some 32), .pick (.t 28) (.t 31) (.c (.rv (.one (.dat (.val (.bool false)))))), none⟩,
    ⟨(some 33), .mov (.t 32), none⟩,
    ⟨(some 34), .mov (.t 7), (some (33, true))⟩,
    ⟨(some 35), .mov (.t 10), (some (33, true))⟩,
    ⟨(some 36), .call (.c (.rv (.one (.fn 11 [])))) [(.t 34), (.t 35)], (some (33, true))⟩,
    ⟨(some 37), .pick (.t 33) (.t 36) (.c (.rv (.one (.dat (.val (.bool false)))))), none⟩,
    ⟨(some 38), .mov (.t 37), none⟩,
    ⟨(some 39), .mov (.t 0), (some (38, true))⟩,
    ⟨(some 40), .call (.c (.rv (.one (.fn 12 [])))) [(.t 39)], (some (38, true))⟩,
    ⟨(some 41), .mov (.t 0), (some (38, true))⟩,
    ⟨(some 42), .call (.c (.rv (.one (.fn 13 [])))) [(.t 41)], (some (38, true))⟩,
    ⟨(some 43), .beq false (.t 40) (.t 42), (some (38, true))⟩,
    ⟨(some 44), .pick (.t 38) (.t 43) (.c (.rv (.one (.dat (.val (.bool false)))))), none⟩,
    ⟨(some 45), .mov (.t 44), none⟩,
    ⟨(some 46), .mov (.t 1), (some (45, true))⟩,
    ⟨(some 47), .mov (.t 2), (some (45, true))⟩,
    ⟨(some 48), .call (.c (.rv (.one (.fn 14 [])))) [(.t 46), (.t 47)], (some (45, true))⟩,
    ⟨(some 49), .mov (.t 1), (some (45, true))⟩,
    ⟨(some 50), .mov (.t 2), (some (45, true))⟩,
    ⟨(some 51), .call (.c (.rv (.one (.fn 15 [])))) [(.t 49), (.t 50)], (some (45, true))⟩,
    ⟨(some 52), .bin .eql (.t 48) (.t 51), (some (45, true))⟩,
    ⟨(some 53), .pick (.t 45) (.t 52) (.c (.rv (.one (.dat (.val (.bool false)))))), none⟩,
    ⟨(some 54), .mov (.t 53), none⟩,
    ⟨(some 55), .mov (.t 1), (some (54, true))⟩,
    ⟨(some 56), .call (.c (.rv (.one (.fn 16 [])))) [(.t 55)], (some (54, true))⟩,
    ⟨(some 57), .mov (.t 1), (some (54, true))⟩,
    ⟨(some 58), .call (.c (.rv (.one (.fn 17 [])))) [(.t 57)], (some (54, true))⟩,
    ⟨(some 59), .bin .eql (.t 56) (.t 58), (some (54, true))⟩,
    ⟨(some 60), .pick (.t 54) (.t 59) (.c (.rv (.one (.dat (.val (.bool false)))))), none⟩,
    ⟨(some 6), .mov (.t 60), none⟩]) .ret))))⟩
theorem l3 : lowF Tryd.prog Tryd.f3 = some c3 := by kernel_rfl
theorem parts_len (t : Txt) : (splitS t).1.length ≤ 61 := by
  unfold splitS
  split
  · simp
  · split
    · simp
    · split
      · have h2 := List.length_filter_le keepT (cutL 47 t)
        have h3 := cutL_len 47 t
        show (partsS t).length ≤ 61
        unfold partsS
        omega
      · simp
set_option maxRecDepth 100000 in
set_option maxHeartbeats 8000000 in
theorem ptells_body (s : Txt) (l : List Txt) (root : Bool) (hs : s.length ≤ 4194304) (hN : l.length ≤ 4194304) (hlen : (joinT [47] l).length ≤ 1099511627776) : body Tryd.prog c3 [vT s, txV l, vBool root] [] (fun r m => r = vBool true) := by
  refine split_ok s ?_
  refine rsplit_ok s hs ?_
  refine bB_yes (by simp) ?_
  refine bB_yes (by simp) ?_
  refine same_ok _ _ (by have := parts_len s; omega) ?_
  refine bB_yes (by simp) ?_
  refine name_ok s ?_
  refine rname_ok s hs ?_
  refine bB_yes (by simp) ?_
  refine pjoin_ok l root hN hlen ?_
  refine rjoin_ok l root hN hlen ?_
  refine bB_yes (by simp) ?_
  refine depth_ok l hN ?_
  refine rdepth_ok l hN ?_
  show vBool (depthS l == depthS l) = vBool true
  simp
theorem ptells_ok (s : Txt) (l : List Txt) (root : Bool) (hs : s.length ≤ 4194304) (hN : l.length ≤ 4194304) (hlen : (joinT [47] l).length ≤ 1099511627776) : ACall Tryd.prog 3 [vT s, txV l, vBool root] [] (fun r m => r = vBool true) :=
  acall_body Tryd.func3 l3 rfl (Nat.le_of_ble_eq_true rfl) (ptells_body s l root hs hN hlen)
end Go.Proofs.YtoohefnephhmbaaDoor
