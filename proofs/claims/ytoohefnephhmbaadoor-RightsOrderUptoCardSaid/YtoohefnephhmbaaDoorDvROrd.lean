import Derived.Test.YtoohefnephhmbaaDoorAmZ2
import Derived.Test.YtoohefnephhmbaaDoorDvRC
import Derived.Test.YtoohefnephhmbaaDoorAmY
set_option linter.unusedVariables false
set_option linter.unusedSimpArgs false
namespace Go.Proofs.YtoohefnephhmbaaDoor
open Go.AM Go.ChangeShapes Go.WideShapes Go.ChangeAt Go.RowKit
def c7 : LF := ⟨118, [.tmp 6], (.seq (.reg [
    ⟨(some 6), .mov (.c (.rv (.one (.dat (.val (.bool false)))))), none⟩]) (.seq (.seq (.reg [
    ⟨(some 9), .call (.c (.rv (.one (.fn 37 [])))) [], none⟩,
    ⟨(some 10), .un .not (.t 9), none⟩]) (.cond (.t 10) (.seq (.reg [
    ⟨(some 6), .mov (.c (.rv (.one (.dat (.val (.bool false)))))), none⟩]) .ret) .skip)) (.seq (.seq (.reg [
    ⟨(some 11), .mov (.t 0), none⟩,
    ⟨(some 12), .call (.c (.rv (.one (.fn 23 [])))) [(.t 11)], none⟩,
    ⟨(some 13), .un .not (.t 12), none⟩,
    ⟨(some 14), .mov (.t 13), none⟩,
    ⟨(some 15), .mov (.t 1), (some (14, false))⟩,
    ⟨(some 16), .call (.c (.rv (.one (.fn 23 [])))) [(.t 15)], (some (14, false))⟩,
    ⟨(some 17), .un .not (.t 16), (some (14, false))⟩,
    ⟨(some 18), .pick (.t 14) (.c (.rv (.one (.dat (.val (.bool true)))))) (.t 17), none⟩,
    ⟨(some 19), .mov (.t 18), none⟩,
    ⟨(some 20), .mov (.t 2), (some (19, false))⟩,
    ⟨(some 21), .call (.c (.rv (.one (.fn 23 [])))) [(.t 20)], (some (19, false))⟩,
    ⟨(some 22), .un .not (.t 21), (some (19, false))⟩,
    ⟨(some 23), .pick (.t 19) (.c (.rv (.one (.dat (.val (.bool true)))))) (.t 22), none⟩]) (.cond (.t 23) (.seq (.reg [
    ⟨(some 6), .mov (.c (.rv (.one (.dat (.val (.bool true)))))), none⟩]) .ret) .skip)) (.seq (.reg [
    ⟨(some 24), .mov (.t 0), none⟩,
    ⟨(some 25), .mov (.t 1), none⟩,
    ⟨(some 26), .call (.c (.rv (.one (.fn 29 [])))) [(.t 24), (.t 25)], none⟩,
    ⟨(some 27), .mov (.t 0), none⟩,
    ⟨(some 28), .mov (.t 1), none⟩,
    ⟨(some 29), .call (.c (.rv (.one (.fn 31 [])))) [(.t 27), (.t 28)], none⟩,
    ⟨(some 7), .mov (.t 26), none⟩,
    ⟨(some 8), .mov (.t 29), none⟩]) (.seq (.seq (.reg [
    ⟨(some 30), .mov (.t 0), none⟩,
    ⟨(some 31), .mov (.t 0), none⟩,
    ⟨(some 32), .call (.c (.rv (.one (.fn 27 [])))) [(.t 30), (.t 31)], none⟩,
    ⟨(some 33), .un .not (.t 32), none⟩,
    ⟨(some 34), .mov (.t 33), none⟩,
    ⟨(some 35), .mov (.t 0), (some (34, false))⟩,
    ⟨(some 36), .mov (.t 1), (some (34, false))⟩,
    ⟨(some 37), .call (.c (.rv (.one (.fn 27 [])))) [(.t 35), (.t 36)], (some (34, false))⟩,
    ⟨(some 38), .mov (.t 37), (some (34, false))⟩,
    ⟨(some 39), .mov (.t 1), (some (38, true))⟩,
    ⟨(some 40), .mov (.t 2), (some (38, true))⟩,
    ⟨(some 41), .call (.c (.rv (.one (.fn 27 [])))) [(.t 39), (.t 40)], (some (38, true))⟩,
    ⟨(some 42), .pick (.t 38) (.t 41) (.c (.rv (.one (.dat (.val (.bool false)))))), (some (34, false))⟩,
    ⟨(some 43), .mov (.t 42), (some (34, false))⟩,
    ⟨(some 44), .mov (.t 0), (some (43, true))⟩,
    ⟨(some 45), .mov (.t 2), (some (43, true))⟩,
    ⟨(some 46), .call (.c (.rv (.one (.fn 27 [])))) [(.t 44), (.t 45)], (some (43, true))⟩,
    ⟨(some 47), .un .not (.t 46), (some (43, true))⟩,
    ⟨(some 48), .pick (.t 43) (.t 47) (.c (.rv (.one (.dat (.val (.bool false)))))), (some (34, false))⟩,
    ⟨(some 49), .pick (.t 34) (.c (.rv (.one (.dat (.val (.bool true)))))) (.t 48), none⟩,
    ⟨(some 50), .mov (.t 49), none⟩,
    ⟨(some 51), .mov (.t 0), (some (50, false))⟩,
    ⟨(some 52), .mov (.t 1), (some (50, false))⟩,
    ⟨(some 53), .call (.c (.rv (.one (.fn 27 [])))) [(.t 51), (.t 52)], (some (50, false))⟩,
    ⟨(some 54), .mov (.t 53), (some (50, false))⟩,
    ⟨(some 55), .mov (.t 1), (some (54, true))⟩,
    ⟨(some 56), .mov (.t 0), (some (54, true))⟩,
    ⟨(some 57), .call (.c (.rv (.one (.fn 27 [])))) [(.t 55), (.t 56)], (some (54, true))⟩,
    ⟨(some 58), .pick (.t 54) (.t 57) (.c (.rv (.one (.dat (.val (.bool false)))))), (some (50, false))⟩,
    ⟨(some 59), .mov (.t 58), (some (50, false))⟩,
    ⟨(some 60), .mov (.t 0), (some (59, true))⟩,
    ⟨(some 61), .mov (.t 1), (some (59, true))⟩,
    ⟨(some 62), .bin .neq (.t 60) (.t 61), (some (59, true))⟩,
    ⟨(some 63), .pick (.t 59) (.t 62) (.c (.rv (.one (.dat (.val (.bool false)))))), (some (50, false))⟩,
    ⟨(some 64), .pick (.t 50) (.c (.rv (.one (.dat (.val (.bool true)))))) (.t 63), none⟩]) (.cond (.t 64) (.seq (.reg [
    ⟨(some 6), .mov (.c (.rv (.one (.dat (.val (.bool false)))))), none⟩]) .ret) .skip)) (.seq (.seq (.reg [
    ⟨(some 65), .mov (.t 7), none⟩,
    ⟨(some 66), .mov (.t 0), none⟩,
    ⟨(some 67), .call (.c (.rv (.one (.fn 27 [])))) [(.t 65), (.t 66)], none⟩,
    ⟨(some 68), .un .not (.t 67), none⟩,
    ⟨(some 69), .mov (.t 68), none⟩,
    ⟨(some 70), .mov (.t 7), (some (69, false))⟩,
    ⟨(some 71), .mov (.t 1), (some (69, false))⟩,
    ⟨(some 72), .call (.c (.rv (.one (.fn 27 [])))) [(.t 70), (.t 71)], (some (69, false))⟩,
    ⟨(some 73), .un .not (.t 72), (some (69, false))⟩,
    ⟨(some 74), .pick (.t 69) (.c (.rv (.one (.dat (.val (.bool true)))))) (.t 73), none⟩,
    ⟨(some 75), .mov (.t 74), none⟩,
    ⟨(some 76), .mov (.t 0), (some (75, false))⟩,
    ⟨(some 77), .mov (.t 8), (some (75, false))⟩,
    ⟨(some 78), .call (.c (.rv (.one (.fn 27 [])))) [(.t 76), (.t 77)], (some (75, false))⟩,
    ⟨(some 79), .un .not (.t 78), (some (75, false))⟩,
    ⟨(some 80), .pick (.t 75) (.c (.rv (.one (.dat (.val (.bool true)))))) (.t 79), none⟩,
    ⟨(some 81), .mov (.t 80), none⟩,
    ⟨(some 82), .mov (.t 2), (some (81, false))⟩,
    ⟨(some 83), .mov (.t 0), (some (81, false))⟩,
    ⟨(some 84), .call (.c (.rv (.one (.fn 27 [])))) [(.t 82), (.t 83)], (some (81, false))⟩,
    ⟨(some 85), .mov (.t 84), (some (81, false))⟩,
    ⟨(some 86), .mov (.t 2), (some (85, true))⟩,
    ⟨(some 87), .mov (.t 1), (some (85, true))⟩,
    ⟨(some 88), .call (.c (.rv (.one (.fn 27 [])))) [(.t 86), (.t 87)], (some (85, true))⟩,
    ⟨(some 89), .mov (.t 2), (some (85, true))⟩,
    ⟨(some 90), .mov (.t 7), (some (85, true))⟩,
    ⟨(some 91), .call (.c (.rv (.one (.fn 27 [])))) [(.t 89), (.t 90)], (some (85, true))⟩,
    ⟨(some 92), .beq true (.t 88) (.t 91), (some (85, true))⟩,
    ⟨(some 93), .pick (.t 85) (.t 92) (.c (.rv (.one (.dat (.val (.bool false)))))), (some (81, false))⟩,
    ⟨(some 94), .pick (.t 81) (.c (.rv (.one (.dat (.val (.bool true)))))) (.t 93), none⟩]) (.cond (.t 94) (.seq (.reg [
    ⟨(some 6), .mov (.c (.rv (.one (.dat (.val (.bool false)))))), none⟩]) .ret) .skip)) (.seq (.reg [
    ⟨(some 95), .mov (.t 7), none⟩,
    ⟨(some 96), .mov (.t 2), none⟩,
    ⟨(some 97), .call (.c (.rv (.one (.fn 29 [])))) [(.t 95), (.t 96)], none⟩,
    ⟨(some 98), .mov (.t 0), none⟩,
    ⟨(some 99), .mov (.t 1), none⟩,
    ⟨(some 100), .mov (.t 2), none⟩,
    ⟨(some 101), .call (.c (.rv (.one (.fn 29 [])))) [(.t 99), (.t 100)], none⟩,
    ⟨(some 102), .call (.c (.rv (.one (.fn 29 [])))) [(.t 98), (.t 101)], none⟩,
    ⟨(some 103), .bin .eql (.t 97) (.t 102), none⟩,
    ⟨(some 104), .mov (.t 103), none⟩,
    ⟨(some 105), .mov (.t 7), (some (104, true))⟩,
    ⟨(some 106), .call (.c (.rv (.one (.fn 32 [])))) [(.t 105)], (some (104, true))⟩,
    ⟨(some 107), .mov (.t 0), (some (104, true))⟩,
    ⟨(some 108), .call (.c (.rv (.one (.fn 32 [])))) [(.t 107)], (some (104, true))⟩,
    ⟨(some 109), .bin .leq (.t 106) (.t 108), (some (104, true))⟩,
    ⟨(some 110), .pick (.t 104) (.t 109) (.c (.rv (.one (.dat (.val (.bool false)))))), none⟩,
    ⟨(some 111), .mov (.t 110), none⟩,
    ⟨(some 112), .mov (.t 0), (some (111, true))⟩,
    ⟨(some 113), .mov (.t 8), (some (111, true))⟩,
    ⟨(some 114), .call (.c (.rv (.one (.fn 29 [])))) [(.t 112), (.t 113)], (some (111, true))⟩,
    ⟨(some 115), .mov (.t 0), (some (111, true))⟩,
    ⟨(some 116), .bin .eql (.t 114) (.t 115), (some (111, true))⟩,
    ⟨(some 117), .pick (.t 111) (.t 116) (.c (.rv (.one (.dat (.val (.bool false)))))), none⟩,
    ⟨(some 6), .mov (.t 117), none⟩]) .ret)))))))⟩
theorem l7 : lowF Tryd.prog Tryd.f7 = some c7 := by kernel_rfl
theorem wi_iff {n k : Nat} (hn : n ≤ 4095) (hk : k ≤ 4095) : withinB (n : Int) (k : Int) = true ↔ ∀ i, n.testBit i = true → k.testBit i = true := by
  rw [← sub_within n k hn hk, subB, List.all_eq_true]
  constructor
  · intro h i hi
    rcases Nat.lt_or_ge i 12 with h2 | h2
    · have := h i (by simpa using h2)
      rw [hi] at this
      simpa using this
    · rw [testBit_big hn h2] at hi
      cases hi
  · intro h i _
    cases h1 : n.testBit i
    · rfl
    · rw [h i h1]; rfl
theorem wi_t {n k : Nat} (hn : n ≤ 4095) (hk : k ≤ 4095) (h : ∀ i, n.testBit i = true → k.testBit i = true) : withinB (n : Int) (k : Int) = true := (wi_iff hn hk).2 h
theorem wi_refl {n : Nat} (hn : n ≤ 4095) : withinB (n : Int) (n : Int) = true := wi_t hn hn fun _ h => h
theorem wi_trans {n k c : Nat} (hn : n ≤ 4095) (hk : k ≤ 4095) (hc : c ≤ 4095) (h1 : withinB (n : Int) (k : Int) = true) (h2 : withinB (k : Int) (c : Int) = true) : withinB (n : Int) (c : Int) = true :=
  wi_t hn hc fun i h => (wi_iff hk hc).1 h2 i ((wi_iff hn hk).1 h1 i h)
theorem wi_anti {n k : Nat} (hn : n ≤ 4095) (hk : k ≤ 4095) (h1 : withinB (n : Int) (k : Int) = true) (h2 : withinB (k : Int) (n : Int) = true) : n = k := by
  apply Nat.eq_of_testBit_eq
  intro i
  have a := (wi_iff hn hk).1 h1 i
  have b := (wi_iff hk hn).1 h2 i
  cases h : n.testBit i <;> cases h' : k.testBit i <;> simp_all
theorem and_left {n k : Nat} (i : Nat) (h : (n &&& k).testBit i = true) : n.testBit i = true := by rw [Nat.testBit_and] at h; simp at h; exact h.1
theorem and_right {n k : Nat} (i : Nat) (h : (n &&& k).testBit i = true) : k.testBit i = true := by rw [Nat.testBit_and] at h; simp at h; exact h.2
theorem or_left {n k : Nat} (i : Nat) (h : n.testBit i = true) : (n ||| k).testBit i = true := by rw [Nat.testBit_or, h]; rfl
theorem wi_meet {n k c : Nat} (hc : c ≤ 4095) (hn : n ≤ 4095) (hk : k ≤ 4095) (h : withinB (c : Int) (n : Int) = true) : withinB (c : Int) (k : Int) = withinB (c : Int) ((n &&& k : Nat) : Int) := by
  have hm : n &&& k ≤ 4095 := Nat.le_trans Nat.and_le_left hn
  have h0 := (wi_iff hc hn).1 h
  have e : withinB (c : Int) (k : Int) = true ↔ withinB (c : Int) ((n &&& k : Nat) : Int) = true := by
    rw [wi_iff hc hk, wi_iff hc hm]
    constructor
    · intro h1 i hi
      rw [Nat.testBit_and, h0 i hi, h1 i hi]; rfl
    · intro h1 i hi
      exact and_right i (h1 i hi)
  exact Bool.eq_iff_iff.2 e
theorem cnt_and (n k : Nat) : ∀ i, cntN (n &&& k) i ≤ cntN n i
  | 0 => Nat.le_refl _
  | i + 1 => by
    have ih := cnt_and n k i
    simp only [cntN, Nat.testBit_and]
    cases n.testBit i <;> cases k.testBit i <;> simp <;> omega
theorem and_or_self (n k : Nat) : n &&& (n ||| k) = n := by
  apply Nat.eq_of_testBit_eq
  intro i
  rw [Nat.testBit_and, Nat.testBit_or]
  cases n.testBit i <;> simp
theorem rightB_inv {n : Int} (h : rightB n = true) : ∃ k : Nat, n = k ∧ k ≤ 4095 := by
  have hr : n ≥ 0 ∧ n ≤ 4095 := by simpa [rightB] using h
  obtain ⟨k, rfl⟩ := Int.eq_ofNat_of_zero_le hr.1
  exact ⟨k, rfl, by omega⟩
set_option maxRecDepth 100000 in
set_option maxHeartbeats 16000000 in
theorem rorder_nat (n k c : Nat) (hn : n ≤ 4095) (hk : k ≤ 4095) (hc : c ≤ 4095) (h1 : rightB n = true) (h2 : rightB k = true) (h3 : rightB c = true) : body Tryd.prog c7 [vInt .i64 n, vInt .i64 k, vInt .i64 c] [] (fun r m => r = vBool true) := by
  refine ralive_ok ?_
  refine right_ok _ ?_
  rw [h1]
  refine right_ok _ ?_
  rw [h2]
  refine right_ok _ ?_
  rw [h3]
  refine meet_ok n k ?_
  refine joinR_ok n k ?_
  rw [andV_nat (by omega) (by omega), orV_nat (by omega) (by omega)]
  have hm : n &&& k ≤ 4095 := Nat.le_trans Nat.and_le_left hn
  have hkc : k &&& c ≤ 4095 := Nat.le_trans Nat.and_le_left hk
  have hj : n ||| k ≤ 4095 := by
    have : n ||| k < 2 ^ 12 := Nat.or_lt_two_pow (by omega) (by omega)
    omega
  refine within_ok _ _ ?_
  rw [wi_refl hn]
  refine within_ok _ _ ?_
  cases hab : withinB (n : Int) (k : Int) with
  | false =>
    refine within_ok _ _ ?_
    rw [hab]
    refine within_ok _ _ ?_
    rw [wi_t hm hn and_left]
    refine within_ok _ _ ?_
    rw [wi_t hm hk and_right]
    refine within_ok _ _ ?_
    rw [wi_t hn hj or_left]
    refine within_ok _ _ ?_
    cases hca : withinB (c : Int) (n : Int) with
    | false =>
      refine meet_ok _ _ ?_
      refine meet_ok _ _ ?_
      rw [andV_nat (a := k) (b := c) (by omega) (by omega)]
      refine meet_ok _ _ ?_
      rw [andV_nat (a := n &&& k) (b := c) (by omega) (by omega), andV_nat (a := n) (b := k &&& c) (by omega) (by omega), Nat.and_assoc]
      refine bB_yes (by simp) ?_
      refine count_ok _ hm ?_
      refine count_ok _ hn ?_
      refine bB_yes (by rw [decide_eq_true_iff]; have := cnt_and n k 12; omega) ?_
      refine meet_ok _ _ ?_
      rw [andV_nat (a := n) (b := n ||| k) (by omega) (by omega), and_or_self]
      show vBool ((n : Int) == (n : Int)) = vBool true
      simp
    | true =>
      refine within_ok _ _ ?_
      refine within_ok _ _ ?_
      have e : withinB (c : Int) (k : Int) = withinB (c : Int) ((n &&& k : Nat) : Int) := wi_meet hc hn hk hca
      rw [e]
      refine bB_no (by simp) ?_
      refine meet_ok _ _ ?_
      refine meet_ok _ _ ?_
      rw [andV_nat (a := k) (b := c) (by omega) (by omega)]
      refine meet_ok _ _ ?_
      rw [andV_nat (a := n &&& k) (b := c) (by omega) (by omega), andV_nat (a := n) (b := k &&& c) (by omega) (by omega), Nat.and_assoc]
      refine bB_yes (by simp) ?_
      refine count_ok _ hm ?_
      refine count_ok _ hn ?_
      refine bB_yes (by rw [decide_eq_true_iff]; have := cnt_and n k 12; omega) ?_
      refine meet_ok _ _ ?_
      rw [andV_nat (a := n) (b := n ||| k) (by omega) (by omega), and_or_self]
      show vBool ((n : Int) == (n : Int)) = vBool true
      simp
  | true =>
    refine within_ok _ _ ?_
    cases hbc : withinB (k : Int) (c : Int) with
    | false =>
      refine within_ok _ _ ?_
      rw [hab]
      refine within_ok _ _ ?_
      cases hba : withinB (k : Int) (n : Int) with
      | false =>
        refine within_ok _ _ ?_
        rw [wi_t hm hn and_left]
        refine within_ok _ _ ?_
        rw [wi_t hm hk and_right]
        refine within_ok _ _ ?_
        rw [wi_t hn hj or_left]
        refine within_ok _ _ ?_
        cases hca : withinB (c : Int) (n : Int) with
        | false =>
          refine meet_ok _ _ ?_
          refine meet_ok _ _ ?_
          rw [andV_nat (a := k) (b := c) (by omega) (by omega)]
          refine meet_ok _ _ ?_
          rw [andV_nat (a := n &&& k) (b := c) (by omega) (by omega), andV_nat (a := n) (b := k &&& c) (by omega) (by omega), Nat.and_assoc]
          refine bB_yes (by simp) ?_
          refine count_ok _ hm ?_
          refine count_ok _ hn ?_
          refine bB_yes (by rw [decide_eq_true_iff]; have := cnt_and n k 12; omega) ?_
          refine meet_ok _ _ ?_
          rw [andV_nat (a := n) (b := n ||| k) (by omega) (by omega), and_or_self]
          show vBool ((n : Int) == (n : Int)) = vBool true
          simp
        | true =>
          refine within_ok _ _ ?_
          refine within_ok _ _ ?_
          have e : withinB (c : Int) (k : Int) = withinB (c : Int) ((n &&& k : Nat) : Int) := wi_meet hc hn hk hca
          rw [e]
          refine bB_no (by simp) ?_
          refine meet_ok _ _ ?_
          refine meet_ok _ _ ?_
          rw [andV_nat (a := k) (b := c) (by omega) (by omega)]
          refine meet_ok _ _ ?_
          rw [andV_nat (a := n &&& k) (b := c) (by omega) (by omega), andV_nat (a := n) (b := k &&& c) (by omega) (by omega), Nat.and_assoc]
          refine bB_yes (by simp) ?_
          refine count_ok _ hm ?_
          refine count_ok _ hn ?_
          refine bB_yes (by rw [decide_eq_true_iff]; have := cnt_and n k 12; omega) ?_
          refine meet_ok _ _ ?_
          rw [andV_nat (a := n) (b := n ||| k) (by omega) (by omega), and_or_self]
          show vBool ((n : Int) == (n : Int)) = vBool true
          simp
      | true =>
        have e : n = k := wi_anti hn hk hab hba
        refine bB_no (by simp [e]) ?_
        refine within_ok _ _ ?_
        rw [wi_t hm hn and_left]
        refine within_ok _ _ ?_
        rw [wi_t hm hk and_right]
        refine within_ok _ _ ?_
        rw [wi_t hn hj or_left]
        refine within_ok _ _ ?_
        cases hca : withinB (c : Int) (n : Int) with
        | false =>
          refine meet_ok _ _ ?_
          refine meet_ok _ _ ?_
          rw [andV_nat (a := k) (b := c) (by omega) (by omega)]
          refine meet_ok _ _ ?_
          rw [andV_nat (a := n &&& k) (b := c) (by omega) (by omega), andV_nat (a := n) (b := k &&& c) (by omega) (by omega), Nat.and_assoc]
          refine bB_yes (by simp) ?_
          refine count_ok _ hm ?_
          refine count_ok _ hn ?_
          refine bB_yes (by rw [decide_eq_true_iff]; have := cnt_and n k 12; omega) ?_
          refine meet_ok _ _ ?_
          rw [andV_nat (a := n) (b := n ||| k) (by omega) (by omega), and_or_self]
          show vBool ((n : Int) == (n : Int)) = vBool true
          simp
        | true =>
          refine within_ok _ _ ?_
          refine within_ok _ _ ?_
          have e : withinB (c : Int) (k : Int) = withinB (c : Int) ((n &&& k : Nat) : Int) := wi_meet hc hn hk hca
          rw [e]
          refine bB_no (by simp) ?_
          refine meet_ok _ _ ?_
          refine meet_ok _ _ ?_
          rw [andV_nat (a := k) (b := c) (by omega) (by omega)]
          refine meet_ok _ _ ?_
          rw [andV_nat (a := n &&& k) (b := c) (by omega) (by omega), andV_nat (a := n) (b := k &&& c) (by omega) (by omega), Nat.and_assoc]
          refine bB_yes (by simp) ?_
          refine count_ok _ hm ?_
          refine count_ok _ hn ?_
          refine bB_yes (by rw [decide_eq_true_iff]; have := cnt_and n k 12; omega) ?_
          refine meet_ok _ _ ?_
          rw [andV_nat (a := n) (b := n ||| k) (by omega) (by omega), and_or_self]
          show vBool ((n : Int) == (n : Int)) = vBool true
          simp
    | true =>
      refine within_ok _ _ ?_
      rw [wi_trans hn hk hc hab hbc]
      refine within_ok _ _ ?_
      rw [hab]
      refine within_ok _ _ ?_
      cases hba : withinB (k : Int) (n : Int) with
      | false =>
        refine within_ok _ _ ?_
        rw [wi_t hm hn and_left]
        refine within_ok _ _ ?_
        rw [wi_t hm hk and_right]
        refine within_ok _ _ ?_
        rw [wi_t hn hj or_left]
        refine within_ok _ _ ?_
        cases hca : withinB (c : Int) (n : Int) with
        | false =>
          refine meet_ok _ _ ?_
          refine meet_ok _ _ ?_
          rw [andV_nat (a := k) (b := c) (by omega) (by omega)]
          refine meet_ok _ _ ?_
          rw [andV_nat (a := n &&& k) (b := c) (by omega) (by omega), andV_nat (a := n) (b := k &&& c) (by omega) (by omega), Nat.and_assoc]
          refine bB_yes (by simp) ?_
          refine count_ok _ hm ?_
          refine count_ok _ hn ?_
          refine bB_yes (by rw [decide_eq_true_iff]; have := cnt_and n k 12; omega) ?_
          refine meet_ok _ _ ?_
          rw [andV_nat (a := n) (b := n ||| k) (by omega) (by omega), and_or_self]
          show vBool ((n : Int) == (n : Int)) = vBool true
          simp
        | true =>
          refine within_ok _ _ ?_
          refine within_ok _ _ ?_
          have e : withinB (c : Int) (k : Int) = withinB (c : Int) ((n &&& k : Nat) : Int) := wi_meet hc hn hk hca
          rw [e]
          refine bB_no (by simp) ?_
          refine meet_ok _ _ ?_
          refine meet_ok _ _ ?_
          rw [andV_nat (a := k) (b := c) (by omega) (by omega)]
          refine meet_ok _ _ ?_
          rw [andV_nat (a := n &&& k) (b := c) (by omega) (by omega), andV_nat (a := n) (b := k &&& c) (by omega) (by omega), Nat.and_assoc]
          refine bB_yes (by simp) ?_
          refine count_ok _ hm ?_
          refine count_ok _ hn ?_
          refine bB_yes (by rw [decide_eq_true_iff]; have := cnt_and n k 12; omega) ?_
          refine meet_ok _ _ ?_
          rw [andV_nat (a := n) (b := n ||| k) (by omega) (by omega), and_or_self]
          show vBool ((n : Int) == (n : Int)) = vBool true
          simp
      | true =>
        have e : n = k := wi_anti hn hk hab hba
        refine bB_no (by simp [e]) ?_
        refine within_ok _ _ ?_
        rw [wi_t hm hn and_left]
        refine within_ok _ _ ?_
        rw [wi_t hm hk and_right]
        refine within_ok _ _ ?_
        rw [wi_t hn hj or_left]
        refine within_ok _ _ ?_
        cases hca : withinB (c : Int) (n : Int) with
        | false =>
          refine meet_ok _ _ ?_
          refine meet_ok _ _ ?_
          rw [andV_nat (a := k) (b := c) (by omega) (by omega)]
          refine meet_ok _ _ ?_
          rw [andV_nat (a := n &&& k) (b := c) (by omega) (by omega), andV_nat (a := n) (b := k &&& c) (by omega) (by omega), Nat.and_assoc]
          refine bB_yes (by simp) ?_
          refine count_ok _ hm ?_
          refine count_ok _ hn ?_
          refine bB_yes (by rw [decide_eq_true_iff]; have := cnt_and n k 12; omega) ?_
          refine meet_ok _ _ ?_
          rw [andV_nat (a := n) (b := n ||| k) (by omega) (by omega), and_or_self]
          show vBool ((n : Int) == (n : Int)) = vBool true
          simp
        | true =>
          refine within_ok _ _ ?_
          refine within_ok _ _ ?_
          have e : withinB (c : Int) (k : Int) = withinB (c : Int) ((n &&& k : Nat) : Int) := wi_meet hc hn hk hca
          rw [e]
          refine bB_no (by simp) ?_
          refine meet_ok _ _ ?_
          refine meet_ok _ _ ?_
          rw [andV_nat (a := k) (b := c) (by omega) (by omega)]
          refine meet_ok _ _ ?_
          rw [andV_nat (a := n &&& k) (b := c) (by omega) (by omega), andV_nat (a := n) (b := k &&& c) (by omega) (by omega), Nat.and_assoc]
          refine bB_yes (by simp) ?_
          refine count_ok _ hm ?_
          refine count_ok _ hn ?_
          refine bB_yes (by rw [decide_eq_true_iff]; have := cnt_and n k 12; omega) ?_
          refine meet_ok _ _ ?_
          rw [andV_nat (a := n) (b := n ||| k) (by omega) (by omega), and_or_self]
          show vBool ((n : Int) == (n : Int)) = vBool true
          simp
set_option maxRecDepth 100000 in
set_option maxHeartbeats 16000000 in
theorem rorder_body (a b c : Int) : body Tryd.prog c7 [vInt .i64 a, vInt .i64 b, vInt .i64 c] [] (fun r m => r = vBool true) := by
  cases h1 : rightB a with
  | true =>
    cases h2 : rightB b with
    | true =>
      cases h3 : rightB c with
      | true =>
        obtain ⟨n, rfl, hn⟩ := rightB_inv h1
        obtain ⟨k, rfl, hk⟩ := rightB_inv h2
        obtain ⟨c, rfl, hc⟩ := rightB_inv h3
        exact rorder_nat n k c hn hk hc h1 h2 h3
      | false =>
        refine ralive_ok ?_
        refine right_ok _ ?_
        rw [h1]
        refine right_ok _ ?_
        rw [h2]
        refine right_ok _ ?_
        rw [h3]
        rfl
    | false =>
      refine ralive_ok ?_
      refine right_ok _ ?_
      rw [h1]
      refine right_ok _ ?_
      rw [h2]
      rfl
  | false =>
    refine ralive_ok ?_
    refine right_ok _ ?_
    rw [h1]
    rfl
set_option maxRecDepth 100000 in
theorem rorder_ok (a b c : Int) : ACall Tryd.prog 7 [vInt .i64 a, vInt .i64 b, vInt .i64 c] [] (fun r m => r = vBool true) :=
  acall_body Tryd.func7 l7 rfl (Nat.le_of_ble_eq_true rfl) (rorder_body a b c)
end Go.Proofs.YtoohefnephhmbaaDoor
