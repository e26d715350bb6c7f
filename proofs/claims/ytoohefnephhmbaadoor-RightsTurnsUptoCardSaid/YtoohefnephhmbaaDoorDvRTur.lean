import Derived.Test.YtoohefnephhmbaaDoorAmZ2
import Derived.Test.YtoohefnephhmbaaDoorDvRC
import Derived.Test.YtoohefnephhmbaaDoorAmY
set_option linter.unusedVariables false
set_option linter.unusedSimpArgs false
namespace Go.Proofs.YtoohefnephhmbaaDoor
open Go.AM Go.ChangeShapes Go.WideShapes Go.ChangeAt Go.RowKit
def c8 : LF := ⟨82, [.tmp 6], (.seq (.reg [
    ⟨(some 5), .box (.t 2), none⟩,
    ⟨(some 6), .mov (.c (.rv (.one (.dat (.val (.bool false)))))), none⟩]) (.seq (.seq (.reg [
    ⟨(some 15), .call (.c (.rv (.one (.fn 37 [])))) [], none⟩,
    ⟨(some 16), .un .not (.t 15), none⟩]) (.cond (.t 16) (.seq (.reg [
    ⟨(some 6), .mov (.c (.rv (.one (.dat (.val (.bool false)))))), none⟩]) .ret) .skip)) (.seq (.seq (.reg [
    ⟨(some 17), .mov (.t 0), none⟩,
    ⟨(some 18), .call (.c (.rv (.one (.fn 23 [])))) [(.t 17)], none⟩]) (.cond (.t 18) (.seq (.reg [
    ⟨(some 20), .mov (.t 0), none⟩,
    ⟨(some 21), .call (.c (.rv (.one (.fn 33 [])))) [(.t 20)], none⟩,
    ⟨(some 22), .call (.c (.rv (.one (.fn 19 [])))) [(.t 21)], none⟩,
    ⟨(some 19), .mov (.t 22), none⟩,
    ⟨(some 23), .ext (.t 19) 0, none⟩,
    ⟨(some 24), .ext (.t 19) 1, none⟩,
    ⟨(some 7), .mov (.t 23), none⟩,
    ⟨(some 8), .mov (.t 24), none⟩]) (.seq (.reg [
    ⟨(some 26), .mov (.t 0), none⟩,
    ⟨(some 27), .call (.c (.rv (.one (.fn 35 [])))) [(.t 26)], none⟩,
    ⟨(some 28), .call (.c (.rv (.one (.fn 21 [])))) [(.t 27)], none⟩,
    ⟨(some 25), .mov (.t 28), none⟩,
    ⟨(some 29), .ext (.t 25) 0, none⟩,
    ⟨(some 30), .ext (.t 25) 1, none⟩,
    ⟨(some 9), .mov (.t 29), none⟩,
    ⟨(some 10), .mov (.t 30), none⟩]) (.seq (.reg [
    ⟨(some 31), .mov (.t 8), none⟩,
    ⟨(some 32), .bin .neq (.t 31) (.c (.rv (.one (.dat (.val (.int .i64 (0))))))), none⟩,
    ⟨(some 33), .mov (.t 32), none⟩,
    ⟨(some 34), .mov (.t 10), (some (33, false))⟩,
    ⟨(some 35), .bin .neq (.t 34) (.c (.rv (.one (.dat (.val (.int .i64 (0))))))), (some (33, false))⟩,
    ⟨(some 36), .pick (.t 33) (.c (.rv (.one (.dat (.val (.bool true)))))) (.t 35), none⟩,
    ⟨(some 37), .mov (.t 36), none⟩,
    ⟨(some 38), .mov (.t 7), (some (37, false))⟩,
    ⟨(some 39), .mov (.t 0), (some (37, false))⟩,
    ⟨(some 40), .bin .neq (.t 38) (.t 39), (some (37, false))⟩,
    ⟨(some 41), .pick (.t 37) (.c (.rv (.one (.dat (.val (.bool true)))))) (.t 40), none⟩,
    ⟨(some 42), .mov (.t 41), none⟩,
    ⟨(some 43), .mov (.t 9), (some (42, false))⟩,
    ⟨(some 44), .mov (.t 0), (some (42, false))⟩,
    ⟨(some 45), .bin .neq (.t 43) (.t 44), (some (42, false))⟩,
    ⟨(some 46), .pick (.t 42) (.c (.rv (.one (.dat (.val (.bool true)))))) (.t 45), none⟩]) (.cond (.t 46) (.seq (.reg [
    ⟨(some 6), .mov (.c (.rv (.one (.dat (.val (.bool false)))))), none⟩]) .ret) .skip)))) .skip)) (.seq (.seq (.reg [
    ⟨(some 48), .mov (.t 1), none⟩,
    ⟨(some 49), .call (.c (.rv (.one (.fn 19 [])))) [(.t 48)], none⟩,
    ⟨(some 47), .mov (.t 49), none⟩,
    ⟨(some 50), .ext (.t 47) 0, none⟩,
    ⟨(some 51), .ext (.t 47) 1, none⟩,
    ⟨(some 11), .mov (.t 50), none⟩,
    ⟨(some 12), .mov (.t 51), none⟩]) (.seq (.reg [
    ⟨(some 52), .mov (.t 12), none⟩,
    ⟨(some 53), .bin .eql (.t 52) (.c (.rv (.one (.dat (.val (.int .i64 (0))))))), none⟩,
    ⟨(some 54), .mov (.t 53), none⟩,
    ⟨(some 55), .mov (.t 11), (some (54, true))⟩,
    ⟨(some 56), .call (.c (.rv (.one (.fn 23 [])))) [(.t 55)], (some (54, true))⟩,
    ⟨(some 57), .un .not (.t 56), (some (54, true))⟩,
    ⟨(some 58), .mov (.t 57), (some (54, true))⟩,
    ⟨(some 59), .mov (.t 11), (some (58, false))⟩,
    ⟨(some 60), .call (.c (.rv (.one (.fn 33 [])))) [(.t 59)], (some (58, false))⟩,
    ⟨(some 61), .mov (.t 1), (some (58, false))⟩,
    ⟨(some 62), .bin .neq (.t 60) (.t 61), (some (58, false))⟩,
    ⟨(some 63), .pick (.t 58) (.c (.rv (.one (.dat (.val (.bool true)))))) (.t 62), (some (54, true))⟩,
    ⟨(some 64), .pick (.t 54) (.t 63) (.c (.rv (.one (.dat (.val (.bool false)))))), none⟩]) (.cond (.t 64) (.seq (.reg [
    ⟨(some 6), .mov (.c (.rv (.one (.dat (.val (.bool false)))))), none⟩]) .ret) .skip))) (.seq (.reg [
    ⟨(some 66), .load true 2 (.t 5), none⟩,
    ⟨(some 67), .call (.c (.rv (.one (.fn 21 [])))) [(.t 66)], none⟩,
    ⟨(some 65), .mov (.t 67), none⟩,
    ⟨(some 68), .ext (.t 65) 0, none⟩,
    ⟨(some 69), .ext (.t 65) 1, none⟩,
    ⟨(some 13), .mov (.t 68), none⟩,
    ⟨(some 14), .mov (.t 69), none⟩]) (.seq (.draw [
    ⟨(some 70), .mov (.t 14), none⟩,
    ⟨(some 71), .bin .neq (.t 70) (.c (.rv (.one (.dat (.val (.int .i64 (0))))))), none⟩,
    ⟨(some 72), .mov (.t 71), none⟩,
    ⟨(some 73), .mov (.t 13), (some (72, false))⟩,
    ⟨(some 74), .call (.c (.rv (.one (.fn 23 [])))) [(.t 73)], (some (72, false))⟩,
    ⟨(some 75), .mov (.t 74), (some (72, false))⟩,
    ⟨(some 76), .mov (.t 13), (some (75, true))⟩,
    ⟨(some 77), .call (.c (.rv (.one (.fn 35 [])))) [(.t 76)], (some (75, true))⟩,
    ⟨(some 78), .load true 2 (.t 5), (some (75, true))⟩,
    ⟨(some 79), .eqa false [.i, .i] (.t 77) (.t 78), (some (75, true))⟩,
    ⟨(some 80), .pick (.t 75) (.t 79) (.c (.rv (.one (.dat (.val (.bool false)))))), (some (72, false))⟩,
    ⟨(some 81), .pick (.t 72) (.c (.rv (.one (.dat (.val (.bool true)))))) (.t 80), none⟩,
    ⟨(some 6), .mov (.t 81), none⟩]
    [(.cons 0 none (.cons 1 none (.cons 2 none (.cons 3 none (.cons 4 (some []) (.cons 5 none (.cons 6 none (.cons 8 none (.cons 7 (some [8]) (.cons 9 none (.cons 10 none (.cons 11 none (.cons 12 none .nil)))))))))))))]) .ret))))))⟩
theorem l8 : lowF Tryd.prog Tryd.f8 = some c8 := by kernel_rfl
theorem rightB_nat {n : Nat} (h : n ≤ 4095) : rightB (n : Int) = true := by
  rw [rightB, decide_eq_true (by omega), decide_eq_true (by omega)]; rfl
set_option maxRecDepth 100000 in
set_option maxHeartbeats 16000000 in
theorem rturns_body (n : Int) (s : Txt) (x y : Int) (hs : s.length ≤ 4194304) : body Tryd.prog c8 [vInt .i64 n, vT s, w2V x y] [] (fun r m => r = vBool true) := by
  refine ralive_ok ?_
  refine right_ok n ?_
  refine bB_split (fun hr => ?_) (fun hr => ?_)
  · have hr : n ≥ 0 ∧ n ≤ 4095 := by simpa [rightB] using hr
    obtain ⟨k, rfl⟩ := Int.eq_ofNat_of_zero_le hr.1
    have hk : k ≤ 4095 := by omega
    have hlen : (printS k).length ≤ 4194304 := by
      have h1 := ntx_join (kset k 12)
      have h2 := kset_len k 12
      rw [printS]
      omega
    refine print_ok k hk ?_
    refine parse_ok (printS k) hlen ?_
    rw [print_parse hk]
    refine words_ok k hk ?_
    refine from_ok _ _ ?_
    rw [words_from k hk]
    refine bB_no (by simp) ?_
    refine bB_no (by simp) ?_
    refine parse_ok s hs ?_
    refine bB_beq (fun h1 => ?_) (fun h1 => ?_)
    · obtain ⟨h2, h3⟩ := parse_print (t := s) (a := (parseS s).1) (by rw [← h1])
      refine right_ok _ ?_
      rw [rightB_nat h2]
      refine print_ok _ h2 ?_
      rw [h3]
      refine bB_no (by simp) ?_
      refine from_ok x y ?_
      refine bB_bne (fun h4 => ⟨trivial, ⟨rfl, trivial⟩, rfl⟩) (fun h4 => ?_)
      obtain ⟨b, hb, he, hw⟩ := from_words h4
      rw [he]
      refine right_ok _ ?_
      rw [rightB_nat hb]
      refine ⟨trivial, ?_⟩
      refine words_ok b hb ?_
      rw [hw]
      refine ⟨⟨rfl, trivial⟩, ?_⟩
      show vBool (_ && (_ && true)) = vBool true
      simp
    · refine from_ok x y ?_
      refine bB_bne (fun h4 => ⟨trivial, ⟨rfl, trivial⟩, rfl⟩) (fun h4 => ?_)
      obtain ⟨b, hb, he, hw⟩ := from_words h4
      rw [he]
      refine right_ok _ ?_
      rw [rightB_nat hb]
      refine ⟨trivial, ?_⟩
      refine words_ok b hb ?_
      rw [hw]
      refine ⟨⟨rfl, trivial⟩, ?_⟩
      show vBool (_ && (_ && true)) = vBool true
      simp
  · have hx : True := trivial
    refine parse_ok s hs ?_
    refine bB_beq (fun h1 => ?_) (fun h1 => ?_)
    · obtain ⟨h2, h3⟩ := parse_print (t := s) (a := (parseS s).1) (by rw [← h1])
      refine right_ok _ ?_
      rw [rightB_nat h2]
      refine print_ok _ h2 ?_
      rw [h3]
      refine bB_no (by simp) ?_
      refine from_ok x y ?_
      refine bB_bne (fun h4 => ⟨trivial, ⟨rfl, trivial⟩, rfl⟩) (fun h4 => ?_)
      obtain ⟨b, hb, he, hw⟩ := from_words h4
      rw [he]
      refine right_ok _ ?_
      rw [rightB_nat hb]
      refine ⟨trivial, ?_⟩
      refine words_ok b hb ?_
      rw [hw]
      refine ⟨⟨rfl, trivial⟩, ?_⟩
      show vBool (_ && (_ && true)) = vBool true
      simp
    · refine from_ok x y ?_
      refine bB_bne (fun h4 => ⟨trivial, ⟨rfl, trivial⟩, rfl⟩) (fun h4 => ?_)
      obtain ⟨b, hb, he, hw⟩ := from_words h4
      rw [he]
      refine right_ok _ ?_
      rw [rightB_nat hb]
      refine ⟨trivial, ?_⟩
      refine words_ok b hb ?_
      rw [hw]
      refine ⟨⟨rfl, trivial⟩, ?_⟩
      show vBool (_ && (_ && true)) = vBool true
      simp
set_option maxRecDepth 100000 in
theorem rturns_ok (n : Int) (s : Txt) (x y : Int) (hs : s.length ≤ 4194304) : ACall Tryd.prog 8 [vInt .i64 n, vT s, w2V x y] [] (fun r m => r = vBool true) :=
  acall_body Tryd.func8 l8 rfl (Nat.le_of_ble_eq_true rfl) (rturns_body n s x y hs)
end Go.Proofs.YtoohefnephhmbaaDoor
