import Derived.Test.YtoohefnephhmbaaDoorAmZ2
import Derived.Test.YtoohefnephhmbaaDoorDvRC
import Derived.Test.YtoohefnephhmbaaDoorAmY
set_option linter.unusedVariables false
set_option linter.unusedSimpArgs false
namespace Go.Proofs.YtoohefnephhmbaaDoor
open Go.AM Go.ChangeShapes Go.WideShapes Go.ChangeAt Go.RowKit
def c6 : LF := ⟨143, [.tmp 8], (.seq (.reg [
    ⟨(some 7), .box (.t 3), none⟩,
    ⟨(some 8), .mov (.c (.rv (.one (.dat (.val (.bool false)))))), none⟩]) (.seq (.reg [
    ⟨(some 21), .mov (.t 2), none⟩,
    ⟨(some 22), .call (.c (.rv (.one (.fn 19 [])))) [(.t 21)], none⟩,
    ⟨(some 20), .mov (.t 22), none⟩,
    ⟨(some 23), .ext (.t 20) 0, none⟩,
    ⟨(some 24), .ext (.t 20) 1, none⟩,
    ⟨(some 9), .mov (.t 23), none⟩,
    ⟨(some 10), .mov (.t 24), none⟩]) (.seq (.reg [
    ⟨(some 26), .mov (.t 2), none⟩,
    ⟨(some 27), .call (.c (.rv (.one (.fn 20 [])))) [(.t 26)], none⟩,
    ⟨(some 25), .mov (.t 27), none⟩,
    ⟨(some 28), .ext (.t 25) 0, none⟩,
    ⟨(some 29), .ext (.t 25) 1, none⟩,
    ⟨(some 11), .mov (.t 28), none⟩,
    ⟨(some 12), .mov (.t 29), none⟩]) (.seq (.reg [
    ⟨(some 31), .load true 2 (.t 7), none⟩,
    ⟨(some 32), .call (.c (.rv (.one (.fn 21 [])))) [(.t 31)], none⟩,
    ⟨(some 30), .mov (.t 32), none⟩,
    ⟨(some 33), .ext (.t 30) 0, none⟩,
    ⟨(some 34), .ext (.t 30) 1, none⟩,
    ⟨(some 13), .mov (.t 33), none⟩,
    ⟨(some 14), .mov (.t 34), none⟩]) (.seq (.reg [
    ⟨(some 36), .load true 2 (.t 7), none⟩,
    ⟨(some 37), .call (.c (.rv (.one (.fn 22 [])))) [(.t 36)], none⟩,
    ⟨(some 35), .mov (.t 37), none⟩,
    ⟨(some 38), .ext (.t 35) 0, none⟩,
    ⟨(some 39), .ext (.t 35) 1, none⟩,
    ⟨(some 15), .mov (.t 38), none⟩,
    ⟨(some 16), .mov (.t 39), none⟩]) (.seq (.seq (.reg [
    ⟨(some 40), .mov (.t 10), none⟩,
    ⟨(some 41), .mov (.t 12), none⟩,
    ⟨(some 42), .bin .neq (.t 40) (.t 41), none⟩,
    ⟨(some 43), .mov (.t 42), none⟩,
    ⟨(some 44), .mov (.t 9), (some (43, false))⟩,
    ⟨(some 45), .mov (.t 11), (some (43, false))⟩,
    ⟨(some 46), .bin .neq (.t 44) (.t 45), (some (43, false))⟩,
    ⟨(some 47), .pick (.t 43) (.c (.rv (.one (.dat (.val (.bool true)))))) (.t 46), none⟩,
    ⟨(some 48), .mov (.t 47), none⟩,
    ⟨(some 49), .mov (.t 13), (some (48, false))⟩,
    ⟨(some 50), .mov (.t 15), (some (48, false))⟩,
    ⟨(some 51), .bin .neq (.t 49) (.t 50), (some (48, false))⟩,
    ⟨(some 52), .pick (.t 48) (.c (.rv (.one (.dat (.val (.bool true)))))) (.t 51), none⟩,
    ⟨(some 53), .mov (.t 52), none⟩,
    ⟨(some 54), .mov (.t 14), (some (53, false))⟩,
    ⟨(some 55), .mov (.t 16), (some (53, false))⟩,
    ⟨(some 56), .bin .neq (.t 54) (.t 55), (some (53, false))⟩,
    ⟨(some 57), .pick (.t 53) (.c (.rv (.one (.dat (.val (.bool true)))))) (.t 56), none⟩,
    ⟨(some 58), .mov (.t 57), none⟩,
    ⟨(some 59), .mov (.t 0), (some (58, false))⟩,
    ⟨(some 60), .call (.c (.rv (.one (.fn 23 [])))) [(.t 59)], (some (58, false))⟩,
    ⟨(some 61), .mov (.t 0), (some (58, false))⟩,
    ⟨(some 62), .bin .geq (.t 61) (.c (.rv (.one (.dat (.val (.int .i64 (0))))))), (some (58, false))⟩,
    ⟨(some 63), .mov (.t 62), (some (58, false))⟩,
    ⟨(some 64), .mov (.t 0), (some (63, true))⟩,
    ⟨(some 65), .bin .leq (.t 64) (.c (.rv (.one (.dat (.val (.int .i64 (4095))))))), (some (63, true))⟩,
    ⟨(some 66), .pick (.t 63) (.t 65) (.c (.rv (.one (.dat (.val (.bool false)))))), (some (58, false))⟩,
    ⟨(some 67), .beq true (.t 60) (.t 66), (some (58, false))⟩,
    ⟨(some 68), .pick (.t 58) (.c (.rv (.one (.dat (.val (.bool true)))))) (.t 67), none⟩,
    ⟨(some 69), .mov (.t 68), none⟩,
    ⟨(some 70), .call (.c (.rv (.one (.fn 24 [])))) [], (some (69, false))⟩,
    ⟨(some 71), .call (.c (.rv (.one (.fn 25 [])))) [], (some (69, false))⟩,
    ⟨(some 72), .call (.c (.rv (.one (.fn 11 [])))) [(.t 70), (.t 71)], (some (69, false))⟩,
    ⟨(some 73), .un .not (.t 72), (some (69, false))⟩,
    ⟨(some 74), .pick (.t 69) (.c (.rv (.one (.dat (.val (.bool true)))))) (.t 73), none⟩]) (.cond (.t 74) (.seq (.reg [
    ⟨(some 8), .mov (.c (.rv (.one (.dat (.val (.bool false)))))), none⟩]) .ret) .skip)) (.seq (.seq (.reg [
    ⟨(some 75), .mov (.t 0), none⟩,
    ⟨(some 76), .bin .lss (.t 75) (.c (.rv (.one (.dat (.val (.int .i64 (0))))))), none⟩,
    ⟨(some 77), .mov (.t 76), none⟩,
    ⟨(some 78), .mov (.t 0), (some (77, false))⟩,
    ⟨(some 79), .bin .gtr (.t 78) (.c (.rv (.one (.dat (.val (.int .i64 (4095))))))), (some (77, false))⟩,
    ⟨(some 80), .pick (.t 77) (.c (.rv (.one (.dat (.val (.bool true)))))) (.t 79), none⟩,
    ⟨(some 81), .mov (.t 80), none⟩,
    ⟨(some 82), .mov (.t 1), (some (81, false))⟩,
    ⟨(some 83), .bin .lss (.t 82) (.c (.rv (.one (.dat (.val (.int .i64 (0))))))), (some (81, false))⟩,
    ⟨(some 84), .pick (.t 81) (.c (.rv (.one (.dat (.val (.bool true)))))) (.t 83), none⟩,
    ⟨(some 85), .mov (.t 84), none⟩,
    ⟨(some 86), .mov (.t 1), (some (85, false))⟩,
    ⟨(some 87), .bin .gtr (.t 86) (.c (.rv (.one (.dat (.val (.int .i64 (4095))))))), (some (85, false))⟩,
    ⟨(some 88), .pick (.t 85) (.c (.rv (.one (.dat (.val (.bool true)))))) (.t 87), none⟩]) (.cond (.t 88) (.seq (.reg [
    ⟨(some 8), .mov (.c (.rv (.one (.dat (.val (.bool true)))))), none⟩]) .ret) .skip)) (.seq (.reg [
    ⟨(some 17), .mov (.c (.rv (.one (.dat (.val (.int .i64 (0))))))), none⟩]) (.seq (.seq (.reg [
    ⟨(some 89), .mov (.t 0), none⟩,
    ⟨(some 90), .call (.c (.rv (.one (.fn 26 [])))) [(.t 89)], none⟩,
    ⟨(some 91), .mov (.c (.rv (.one (.dat (.val (.int .i64 (0))))))), none⟩]) (.block 0 (.loop (.seq (.reg [
    ⟨(some 92), .bin .lss (.t 91) (.c (.rv (.one (.dat (.val (.int .i64 (12))))))), none⟩]) (.seq (.cond (.t 92) .skip (.exit 0)) (.seq (.block 1 (.seq (.reg [
    ⟨(some 93), .fldx false 12 1 (.t 90) (.t 91), none⟩,
    ⟨(some 19), .mov (.t 93), none⟩]) (.seq (.reg [
    ⟨(some 94), .mov (.t 19), none⟩]) (.cond (.t 94) (.reg [
    ⟨(some 95), .mov (.t 17), none⟩,
    ⟨(some 96), .bin .add (.t 95) (.c (.rv (.one (.dat (.val (.int .i64 (1))))))), none⟩,
    ⟨(some 17), .mov (.t 96), none⟩]) .skip)))) (.reg [
    ⟨(some 97), .bin .add (.t 91) (.c (.rv (.one (.dat (.val (.int .i64 (1))))))), none⟩,
    ⟨(some 91), .mov (.t 97), none⟩]))))))) (.seq (.reg [
    ⟨(some 98), .mov (.t 0), none⟩,
    ⟨(some 99), .mov (.t 1), none⟩,
    ⟨(some 100), .call (.c (.rv (.one (.fn 27 [])))) [(.t 98), (.t 99)], none⟩,
    ⟨(some 101), .mov (.t 0), none⟩,
    ⟨(some 102), .mov (.t 1), none⟩,
    ⟨(some 103), .call (.c (.rv (.one (.fn 28 [])))) [(.t 101), (.t 102)], none⟩,
    ⟨(some 104), .beq false (.t 100) (.t 103), none⟩,
    ⟨(some 105), .mov (.t 104), none⟩,
    ⟨(some 106), .mov (.t 0), (some (105, true))⟩,
    ⟨(some 107), .mov (.t 1), (some (105, true))⟩,
    ⟨(some 108), .call (.c (.rv (.one (.fn 29 [])))) [(.t 106), (.t 107)], (some (105, true))⟩,
    ⟨(some 109), .mov (.t 0), (some (105, true))⟩,
    ⟨(some 110), .mov (.t 1), (some (105, true))⟩,
    ⟨(some 111), .call (.c (.rv (.one (.fn 30 [])))) [(.t 109), (.t 110), (.c (.rv (.one (.dat (.val (.bool true))))))], (some (105, true))⟩,
    ⟨(some 112), .bin .eql (.t 108) (.t 111), (some (105, true))⟩,
    ⟨(some 113), .pick (.t 105) (.t 112) (.c (.rv (.one (.dat (.val (.bool false)))))), none⟩,
    ⟨(some 114), .mov (.t 113), none⟩,
    ⟨(some 115), .mov (.t 0), (some (114, true))⟩,
    ⟨(some 116), .mov (.t 1), (some (114, true))⟩,
    ⟨(some 117), .call (.c (.rv (.one (.fn 31 [])))) [(.t 115), (.t 116)], (some (114, true))⟩,
    ⟨(some 118), .mov (.t 0), (some (114, true))⟩,
    ⟨(some 119), .mov (.t 1), (some (114, true))⟩,
    ⟨(some 120), .call (.c (.rv (.one (.fn 30 [])))) [(.t 118), (.t 119), (.c (.rv (.one (.dat (.val (.bool false))))))], (some (114, true))⟩,
    ⟨(some 121), .bin .eql (.t 117) (.t 120), (some (114, true))⟩,
    ⟨(some 122), .pick (.t 114) (.t 121) (.c (.rv (.one (.dat (.val (.bool false)))))), none⟩,
    ⟨(some 123), .mov (.t 122), none⟩,
    ⟨(some 124), .mov (.t 0), (some (123, true))⟩,
    ⟨(some 125), .call (.c (.rv (.one (.fn 32 [])))) [(.t 124)], (some (123, true))⟩,
    ⟨(some 126), .mov (.t 17), (some (123, true))⟩,
    ⟨(some 127), .bin .eql (.t 125) (.t 126), (some (123, true))⟩,
    ⟨(some 128), .pick (.t 123) (.t 127) (.c (.rv (.one (.dat (.val (.bool false)))))), none⟩,
    ⟨(some 129), .mov (.t 128), none⟩,
    ⟨(some 130), .mov (.t 0), (some (129, true))⟩,
    ⟨(some 131), .call (.c (.rv (.one (.fn 33 [])))) [(.t 130)], (some (129, true))⟩,
    ⟨(some 132), .mov (.t 0), (some (129, true))⟩,
    ⟨(some 133), .call (.c (.rv (.one (.fn 34 [])))) [(.t 132)], (some (129, true))⟩,
    ⟨(some 134), .bin .eql (.t 131) (.t 133), (some (129, true))⟩,
    ⟨(some 135), .pick (.t 129) (.t 134) (.c (.rv (.one (.dat (.val (.bool false)))))), none⟩,
    ⟨(some 136), .mov (.t 135), none⟩,
    ⟨(some 137), .mov (.t 0), (some (136, true))⟩,
    ⟨(some 138), .call (.c (.rv (.one (.fn 35 [])))) [(.t 137)], (some (136, true))⟩,
    ⟨(some 139), .mov (.t 0), (some (136, true))⟩,
    ⟨(some 140), .call (.c (.rv (.one (.fn 36 [])))) [(.t 139)], (some (136, true))⟩,
    ⟨(some 141), .eqa false [.i, .i] (.t 138) (.t 140), (some (136, true))⟩,
    ⟨(some 142), .pick (.t 136) (.t 141) (.c (.rv (.one (.dat (.val (.bool false)))))), none⟩,
    ⟨(some 8), .mov (.t 142), none⟩]) .ret))))))))))⟩
theorem l6 : lowF Tryd.prog Tryd.f6 = some c6 := by kernel_rfl
set_option maxRecDepth 100000 in
set_option maxHeartbeats 16000000 in
theorem rtells_body (a b : Int) (s : Txt) (x y : Int) (hs : s.length ≤ 4194304) : body Tryd.prog c6 [vInt .i64 a, vInt .i64 b, vT s, w2V x y] [] (fun r m => r = vBool true) := by
  refine parse_ok s hs ?_
  refine rparse_ok s hs ?_
  refine from_ok x y ?_
  refine rfrom_ok x y ?_
  refine bB_no (by simp) ?_
  refine bB_no (by simp) ?_
  refine bB_no (by simp) ?_
  refine bB_no (by simp) ?_
  refine right_ok a ?_
  have fin : ∀ h : ¬ (a < 0 ∨ a > 4095 ∨ b < 0 ∨ b > 4095), ∃ n k : Nat, a = n ∧ b = k ∧ n ≤ 4095 ∧ k ≤ 4095 := by
    intro h
    obtain ⟨n, hn⟩ := Int.eq_ofNat_of_zero_le (a := a) (by omega)
    obtain ⟨k, hk⟩ := Int.eq_ofNat_of_zero_le (a := b) (by omega)
    exact ⟨n, k, hn, hk, by omega, by omega⟩
  refine bB_dec (fun h0 => ?_) (fun h0 => ?_)
  · have hr : rightB a = decide (a ≤ 4095) := by rw [rightB, decide_eq_true h0]; rfl
    rw [hr]
    refine bB_no (by simp) ?_
    refine names_ok ?_
    refine rnames_ok ?_
    refine same_ok _ _ (by decide) ?_
    refine bB_dec (fun h1 => rfl) (fun h1 => ?_)
    refine bB_dec (fun h2 => rfl) (fun h2 => ?_)
    refine bB_dec (fun h3 => rfl) (fun h3 => ?_)
    refine bB_dec (fun h4 => rfl) (fun h4 => ?_)
    obtain ⟨n, k, rfl, rfl, hn, hk⟩ := fin (by omega)
    refine bits_ok n hn ?_
    refine loop_keep (fun i => i ≤ 12) [0, 1, 90] (fun i => [(17, vInt .i64 (cntN n i : Nat)), (91, vInt .i64 (i : Nat))]) (fun _ => [.dead]) (fun i => 12 - i) 0 (Nat.zero_le _) ?_ (fun i hi => ?_)
    · refine View.of 1 [0] [] rfl rfl rfl rfl rfl rfl ?_ (.dead (.nil _))
      repeat (first | exact .nil | refine .junk ?_ | refine .eq rfl ?_)
    have hi : i ≤ 12 := hi
    have hc : ∀ i, cntN n i ≤ i := by
      intro i
      induction i with
      | zero => simp [cntN]
      | succ i ih => simp only [cntN]; split <;> omega
    have hci := hc i
    refine bB_dec (fun h => ?_) (fun h => ?_)
    · have hlt : i < 12 := by
        have h : (i : Int) < 12 := h
        omega
      refine ok_some (idxZ_nat hlt) ?_
      refine ok_some (bits_fld hlt) ?_
      cases hb : n.testBit i with
      | false =>
        have e : cntN n (i + 1) = cntN n i := by simp [cntN, hb]
        refine ⟨i + 1, hlt, (show 12 - (i + 1) < 12 - i by omega), View.of 1 [0] [] rfl rfl rfl rfl rfl rfl ?_ (.dead (.nil _))⟩
        rw [e]
        repeat (first | exact .nil | refine .junk ?_ | refine .put (.ren (next_i64 (by omega)).symm) ?_ | refine .eq rfl ?_)
      | true =>
        have e : cntN n (i + 1) = cntN n i + 1 := by simp [cntN, hb]
        refine ⟨i + 1, hlt, (show 12 - (i + 1) < 12 - i by omega), View.of 1 [0] [] rfl rfl rfl rfl rfl rfl ?_ (.dead (.nil _))⟩
        rw [e]
        repeat (first | exact .nil | refine .junk ?_ | refine .put (.ren (next_i64 (by omega)).symm) ?_ | refine .eq rfl ?_)
    · have hi12 : i = 12 := by
        have h : ¬ (i : Int) < 12 := h
        omega
      subst hi12
      refine within_ok n k ?_
      refine rwithin_ok n k hn hk ?_
      rw [sub_within n k hn hk]
      refine bB_yes (by simp) ?_
      refine meet_ok n k ?_
      refine both_ok n k true hn hk ?_
      refine bB_yes ?_ ?_
      · show (andV (n : Int) (k : Int) == ((n &&& k : Nat) : Int)) = true
        rw [andV_nat (by omega) (by omega)]
        simp
      refine joinR_ok n k ?_
      refine both_ok n k false hn hk ?_
      refine bB_yes ?_ ?_
      · show (orV (n : Int) (k : Int) == ((n ||| k : Nat) : Int)) = true
        rw [orV_nat (by omega) (by omega)]
        simp
      refine count_ok n hn ?_
      refine bB_yes (by simp) ?_
      refine print_ok n hn ?_
      refine rprint_ok n hn ?_
      refine bB_yes (by simp) ?_
      refine words_ok n hn ?_
      refine rwords_ok n hn ?_
      show vBool (_ && (_ && true)) = vBool true
      simp
  · have hr : rightB a = false := by rw [rightB, decide_eq_false h0]; rfl
    rw [hr]
    refine names_ok ?_
    refine rnames_ok ?_
    refine same_ok _ _ (by decide) ?_
    refine bB_dec (fun h1 => rfl) (fun h1 => ?_)
    exact absurd h1 (by omega)
set_option maxRecDepth 100000 in
theorem rtells_ok (a b : Int) (s : Txt) (x y : Int) (hs : s.length ≤ 4194304) : ACall Tryd.prog 6 [vInt .i64 a, vInt .i64 b, vT s, w2V x y] [] (fun r m => r = vBool true) :=
  acall_body Tryd.func6 l6 rfl (Nat.le_of_ble_eq_true rfl) (rtells_body a b s x y hs)
end Go.Proofs.YtoohefnephhmbaaDoor
