import Derived.Test.YtflieebgiejjpaaAmZ2
import Derived.Test.YtflieebgiejjpaaDvCh7
import Derived.Test.YtflieebgiejjpaaAmY
set_option linter.unusedVariables false
set_option linter.unusedSimpArgs false
namespace Go.Proofs.Ytflieebgiejjpaa
open Go.AM Go.ChangeShapes Go.WideShapes Go.ChangeAt Go.RowKit
def c13 : LF := ⟨93, [.tmp 4], (.seq (.reg [
    ⟨(some 3), .box (.t 1), none⟩,
    ⟨(some 4), .mov (.c (.rv (.one (.dat (.val (.bool false)))))), none⟩]) (.seq (.seq (.reg [
    ⟨(some 13), .call (.c (.rv (.one (.fn 55 [])))) [], none⟩,
    ⟨(some 14), .un .not (.t 13), none⟩]) (.cond (.t 14) (.seq (.reg [
    ⟨(some 4), .mov (.c (.rv (.one (.dat (.val (.bool false)))))), none⟩]) .ret) .skip)) (.seq (.seq (.reg [
    ⟨(some 15), .mov (.t 0), none⟩,
    ⟨(some 16), .bin .lss (.t 15) (.c (.rv (.one (.dat (.val (.int .i64 (0))))))), none⟩,
    ⟨(some 17), .mov (.t 16), none⟩,
    ⟨(some 18), .mov (.t 0), (some (17, false))⟩,
    ⟨(some 19), .bin .gtr (.t 18) (.c (.rv (.one (.dat (.val (.int .i64 (9))))))), (some (17, false))⟩,
    ⟨(some 20), .pick (.t 17) (.c (.rv (.one (.dat (.val (.bool true)))))) (.t 19), none⟩]) (.cond (.t 20) (.seq (.reg [
    ⟨(some 4), .mov (.c (.rv (.one (.dat (.val (.bool true)))))), none⟩]) .ret) .skip)) (.seq (.reg [
    ⟨(some 22), .call (.c (.rv (.one (.fn 48 [])))) [(.c (.rv (.one .esl)))], none⟩,
    ⟨(some 21), .mov (.t 22), none⟩,
    ⟨(some 23), .ext (.t 21) 0, none⟩,
    ⟨(some 24), .ext (.t 21) 1, none⟩,
    ⟨(some 25), .ext (.t 21) 2, none⟩,
    ⟨(some 6), .alloc [(.dat (.val (.int .i64 (0)))), (.dat (.val (.int .i64 (0))))], none⟩,
    ⟨(some 5), .mov (.t 23), none⟩,
    ⟨none, .store 2 (.t 6) (.t 24), none⟩,
    ⟨(some 7), .mov (.t 25), none⟩]) (.seq (.seq (.reg [
    ⟨(some 26), .mov (.t 7), none⟩,
    ⟨(some 27), .bin .neq (.t 26) (.c (.rv (.one (.dat (.val (.int .i64 (0))))))), none⟩]) (.cond (.t 27) (.seq (.reg [
    ⟨(some 4), .mov (.c (.rv (.one (.dat (.val (.bool false)))))), none⟩]) .ret) .skip)) (.seq (.seq (.reg [
    ⟨(some 28), .mov (.t 0), none⟩,
    ⟨(some 29), .mov (.c (.rv (.one (.dat (.val (.int .i64 (0))))))), none⟩]) (.block 0 (.loop (.seq (.reg [
    ⟨(some 30), .bin .lss (.t 29) (.t 28), none⟩]) (.seq (.cond (.t 30) .skip (.exit 0)) (.seq (.block 1 (.seq (.reg [
    ⟨(some 31), .mov (.t 29), none⟩,
    ⟨(some 8), .mov (.t 31), none⟩]) (.seq (.reg [
    ⟨(some 33), .mov (.t 5), none⟩,
    ⟨(some 34), .idxa 2 1 (.t 6) (.c (.rv (.one (.dat (.val (.int .i64 (1))))))), none⟩,
    ⟨(some 35), .load false 1 (.t 34), none⟩,
    ⟨(some 36), .load true 2 (.t 3), none⟩,
    ⟨(some 37), .build [.esl, (.dat (.val (.bool false))), (.dat (.val (.int .i64 (0)))), (.dat (.val (.int .i64 (0))))] [(1, 1, (.c (.rv (.one (.dat (.val (.bool true))))))), (2, 2, (.t 36))], none⟩,
    ⟨(some 38), .call (.c (.rv (.one (.fn 51 [])))) [(.t 33), (.t 35), (.t 37)], none⟩,
    ⟨(some 32), .mov (.t 38), none⟩,
    ⟨(some 39), .ext (.t 32) 0, none⟩,
    ⟨(some 40), .ext (.t 32) 1, none⟩,
    ⟨(some 9), .mov (.t 39), none⟩,
    ⟨(some 10), .mov (.t 40), none⟩]) (.seq (.seq (.reg [
    ⟨(some 41), .mov (.t 10), none⟩,
    ⟨(some 42), .bin .eql (.t 41) (.c (.rv (.one (.dat (.val (.int .i64 (0))))))), none⟩,
    ⟨(some 43), .mov (.t 8), none⟩,
    ⟨(some 44), .bin .lss (.t 43) (.c (.rv (.one (.dat (.val (.int .i64 (4))))))), none⟩,
    ⟨(some 45), .beq true (.t 42) (.t 44), none⟩,
    ⟨(some 46), .mov (.t 45), none⟩,
    ⟨(some 47), .mov (.t 10), (some (46, false))⟩,
    ⟨(some 48), .bin .neq (.t 47) (.c (.rv (.one (.dat (.val (.int .i64 (0))))))), (some (46, false))⟩,
    ⟨(some 49), .mov (.t 48), (some (46, false))⟩,
    ⟨(some 50), .mov (.t 10), (some (49, true))⟩,
    ⟨(some 51), .bin .neq (.t 50) (.c (.rv (.one (.dat (.val (.int .i64 (15))))))), (some (49, true))⟩,
    ⟨(some 52), .pick (.t 49) (.t 51) (.c (.rv (.one (.dat (.val (.bool false)))))), (some (46, false))⟩,
    ⟨(some 53), .pick (.t 46) (.c (.rv (.one (.dat (.val (.bool true)))))) (.t 52), none⟩]) (.cond (.t 53) (.seq (.reg [
    ⟨(some 4), .mov (.c (.rv (.one (.dat (.val (.bool false)))))), none⟩]) .ret) .skip)) (.seq (.reg [
    ⟨(some 54), .mov (.t 10), none⟩,
    ⟨(some 55), .bin .eql (.t 54) (.c (.rv (.one (.dat (.val (.int .i64 (0))))))), none⟩]) (.cond (.t 55) (.reg [
    ⟨(some 56), .mov (.t 9), none⟩,
    ⟨(some 5), .mov (.t 56), none⟩]) .skip)))))) (.reg [
    ⟨(some 57), .bin .add (.t 29) (.c (.rv (.one (.dat (.val (.int .i64 (1))))))), none⟩,
    ⟨(some 29), .mov (.t 57), none⟩]))))))) (.seq (.reg [
    ⟨(some 59), .mov (.t 5), none⟩,
    ⟨(some 60), .idxa 2 1 (.t 6) (.c (.rv (.one (.dat (.val (.int .i64 (0))))))), none⟩,
    ⟨(some 61), .load false 1 (.t 60), none⟩,
    ⟨(some 62), .call (.c (.rv (.one (.fn 53 [])))) [(.t 59), (.t 61)], none⟩,
    ⟨(some 58), .mov (.t 62), none⟩,
    ⟨(some 63), .ext (.t 58) 0, none⟩,
    ⟨(some 64), .ext (.t 58) 1, none⟩,
    ⟨(some 65), .ext (.t 58) 2, none⟩,
    ⟨(some 12), .alloc [.esl, (.dat (.val (.bool false))), (.dat (.val (.int .i64 (0)))), (.dat (.val (.int .i64 (0))))], none⟩,
    ⟨(some 11), .mov (.t 63), none⟩,
    ⟨none, .store 4 (.t 12) (.t 64), none⟩,
    ⟨(some 7), .mov (.t 65), none⟩]) (.seq (.seq (.reg [
    ⟨(some 66), .mov (.t 0), none⟩,
    ⟨(some 67), .bin .eql (.t 66) (.c (.rv (.one (.dat (.val (.int .i64 (0))))))), none⟩]) (.cond (.t 67) (.seq (.reg [
    ⟨(some 68), .mov (.t 7), none⟩,
    ⟨(some 69), .bin .eql (.t 68) (.c (.rv (.one (.dat (.val (.int .i64 (16))))))), none⟩,
    ⟨(some 4), .mov (.t 69), none⟩]) .ret) .skip)) (.seq (.seq (.reg [
    ⟨(some 70), .mov (.t 7), none⟩,
    ⟨(some 71), .bin .neq (.t 70) (.c (.rv (.one (.dat (.val (.int .i64 (0))))))), none⟩,
    ⟨(some 72), .mov (.t 71), none⟩,
    ⟨(some 73), .fadr 1 (.t 12), (some (72, false))⟩,
    ⟨(some 74), .load false 1 (.t 73), (some (72, false))⟩,
    ⟨(some 75), .un .not (.t 74), (some (72, false))⟩,
    ⟨(some 76), .pick (.t 72) (.c (.rv (.one (.dat (.val (.bool true)))))) (.t 75), none⟩,
    ⟨(some 77), .mov (.t 76), none⟩,
    ⟨(some 78), .fadr 2 (.t 12), (some (77, false))⟩,
    ⟨(some 79), .load true 2 (.t 78), (some (77, false))⟩,
    ⟨(some 80), .load true 2 (.t 3), (some (77, false))⟩,
    ⟨(some 81), .eqa true [.i, .i] (.t 79) (.t 80), (some (77, false))⟩,
    ⟨(some 82), .pick (.t 77) (.c (.rv (.one (.dat (.val (.bool true)))))) (.t 81), none⟩]) (.cond (.t 82) (.seq (.reg [
    ⟨(some 4), .mov (.c (.rv (.one (.dat (.val (.bool false)))))), none⟩]) .ret) .skip)) (.seq (.reg [
    ⟨(some 84), .mov (.t 11), none⟩,
    ⟨(some 85), .idxa 2 1 (.t 6) (.c (.rv (.one (.dat (.val (.int .i64 (1))))))), none⟩,
    ⟨(some 86), .load false 1 (.t 85), none⟩,
    ⟨(some 87), .build [.esl, (.dat (.val (.bool false))), (.dat (.val (.int .i64 (0)))), (.dat (.val (.int .i64 (0))))] [], none⟩,
    ⟨(some 88), .call (.c (.rv (.one (.fn 51 [])))) [(.t 84), (.t 86), (.t 87)], none⟩,
    ⟨(some 83), .mov (.t 88), none⟩,
    ⟨(some 89), .ext (.t 83) 0, none⟩,
    ⟨(some 90), .ext (.t 83) 1, none⟩,
    ⟨(some 7), .mov (.t 90), none⟩]) (.seq (.reg [
    ⟨(some 91), .mov (.t 7), none⟩,
    ⟨(some 92), .bin .eql (.t 91) (.c (.rv (.one (.dat (.val (.int .i64 (0))))))), none⟩,
    ⟨(some 4), .mov (.t 92), none⟩]) .ret)))))))))))⟩
/-! as much as may wait waits -/
theorem l13 : lowF Try.prog Try.f13 = some c13 := by kernel_rfl
def L2 (q : List Msg) : List Obj := [{ endO 1 with queue := q }, endO 0]
theorem fit_L2 {q : List Msg} (h : q.length ≤ 4194304) (h2 : ∀ x, x ∈ q → x.data.length ≤ 4194304) : fitL (L2 q) := by
  refine ⟨by simp [L2], fun o ho => ?_⟩
  simp only [L2, List.mem_cons, List.not_mem_nil, or_false] at ho
  rcases ho with rfl | rfl
  · exact ⟨by simp [endO], by simp [endO], h, h2⟩
  · exact endO_fit _
theorem pair_nil : pairS [] = (L2 [], (0, 1), 0) := rfl
theorem send_L2 (q : List Msg) (m : Msg) (hm : ¬ m.data.length > 60) : sendS (L2 q) 1 m = if q.length ≥ 4 then ([], 15) else (L2 (q ++ [m]), 0) := by
  have : sendS (L2 q) 1 m = if m.data.length > 60 then ([], 4) else if q.length ≥ 4 then ([], 15) else (L2 (q ++ [m]), 0) := rfl
  rw [this, if_neg hm]
theorem recv_L2 (q : List Msg) : recvS (L2 q) 0 = match q with
    | [] => ([], msgZ, 16)
    | x :: r => (L2 r, x, 0) := by
  cases q <;> rfl
def capM (a b : Int) : Msg := ⟨[], true, a, b⟩
def qN (a b : Int) (i : Nat) : List Msg := List.replicate (min i 4) (capM a b)
theorem qN_fit (a b : Int) (i : Nat) : fitL (L2 (qN a b i)) := fit_L2 (by simp [qN]; omega) (fun x hx => by
  rw [List.eq_of_mem_replicate hx]; simp [capM])
theorem msgArgs (a b : CV) (h : Bool) (x y : Int) : ArgsL [a, b, .rv (.agg [.esl, .dat (.val (.bool h)), .dat (.val (.int .i64 x)), .dat (.val (.int .i64 y))])] [a, b, (⟨[], h, x, y⟩ : Msg).cv] :=
  .same _ (.same _ (.agg (.cons (.esl 1) (.cons (.same _) (.cons (.same _) (.cons (.same _) .nil)))) .nil))
set_option maxRecDepth 100000 in
set_option maxHeartbeats 16000000 in
theorem full_body (n a b : Int) : body Try.prog c13 [vInt .i64 n, .rv (.agg [.dat (.val (.int .i64 a)), .dat (.val (.int .i64 b))])] [] (fun r m => r = vBool true) := by
  refine alive9_ok ?_
  refine bB_dec (fun h => ?_) (fun h1 => ?_)
  · exact rfl
  refine bB_dec (fun h => ?_) (fun h2 => ?_)
  · exact rfl
  obtain ⟨n, rfl⟩ : ∃ k : Nat, n = k := ⟨n.toNat, by omega⟩
  have h2 : n ≤ 9 := by omega
  refine acall_le (.one (.esl 9) .nil) (pair_ok [] ⟨by simp, by simp⟩ ?_)
  rw [pair_nil]
  refine loop_keep (fun i => i ≤ n) [0, 3, 6, 28] (fun i => [(29, vInt .i64 (i : Nat)), (5, objsV (L2 (qN a b i)))]) (fun _ => [.var [.dat (.val (.int .i64 a)), .dat (.val (.int .i64 b))], .var [.dat (.val (.int .i64 0)), .dat (.val (.int .i64 1))]]) (fun i => n - i) 0 (Nat.zero_le _) ?_ (fun i hi => ?_)
  · refine View.of 2 [0, 1] [] rfl rfl rfl rfl rfl rfl ?_ ?_
    · repeat (first | exact .nil | refine .junk ?_ | refine .eq rfl ?_)
    · exact .put (notF rfl) rfl (.eq rfl (by simp)) (.put (notF rfl) rfl (.eq rfl (by simp)) (.nil _))
  · have hi : i ≤ n := hi
    refine bB_dec (fun h => ?_) (fun h => ?_)
    · have hlt : i < n := by
        have h : (i : Int) < (n : Int) := h
        omega
      refine acall_le (msgArgs _ _ _ _ _) (send_ok (L2 (qN a b i)) (qN_fit a b i) 1 (capM a b) (by simp [capM]) ?_)
      rw [send_L2 _ _ (by simp [capM])]
      by_cases h4 : i < 4
      · have hc : ¬ (qN a b i).length ≥ 4 := by simp [qN]; omega
        have hq : qN a b i ++ [capM a b] = qN a b (i + 1) := by
          simp only [qN]
          rw [Nat.min_eq_left (by omega), Nat.min_eq_left (by omega), List.replicate_succ']
        rw [if_neg hc, hq]
        have hd : decide ((i : Int) < 4) = true := decide_eq_true (by omega)
        refine bB_no ?_ ?_
        · show (!((0 : Int) == 0) == decide ((i : Int) < 4)) = false
          rw [hd]; rfl
        refine ⟨i + 1, hlt, (show n - (i + 1) < n - i by omega), View.of 2 [0, 1] [] rfl rfl rfl rfl rfl rfl ?_ ?_⟩
        · repeat (first | exact .nil | refine .junk ?_ | refine .put (.ren (next_i64 (by omega)).symm) ?_ | refine .eq rfl ?_)
        · exact .put (notF rfl) rfl (.eq rfl (by simp)) (.put (notF rfl) rfl (.eq rfl (by simp)) (.nil _))
      · have hc : (qN a b i).length ≥ 4 := by simp [qN]; omega
        have hq : qN a b i = qN a b (i + 1) := by
          simp only [qN]
          rw [Nat.min_eq_right (by omega), Nat.min_eq_right (by omega)]
        rw [if_pos hc]
        have hd : decide ((i : Int) < 4) = false := decide_eq_false (by omega)
        refine bB_no ?_ ?_
        · show (!((15 : Int) == 0) == decide ((i : Int) < 4)) = false
          rw [hd]; rfl
        refine ⟨i + 1, hlt, (show n - (i + 1) < n - i by omega), View.of 2 [0, 1] [] rfl rfl rfl rfl rfl rfl ?_ ?_⟩
        · repeat (first | exact .nil | refine .junk ?_ | refine .put (.ren (next_i64 (by omega)).symm) ?_ | refine .eq rfl ?_ | refine .eq (congrArg (fun x => objsV (L2 x)) hq.symm) ?_)
        · exact .put (notF rfl) rfl (.eq rfl (by simp)) (.put (notF rfl) rfl (.eq rfl (by simp)) (.nil _))
    · have hge : ¬ (i : Int) < (n : Int) := h
      have hin : i = n := by omega
      subst hin
      refine recv_ok (L2 (qN a b i)) (qN_fit a b i) 0 ?_
      rw [recv_L2]
      cases i with
      | zero => exact rfl
      | succ k =>
        have hq : qN a b (k + 1) = capM a b :: List.replicate (min k 3) (capM a b) := by
          simp only [qN]
          rw [show min (k + 1) 4 = min k 3 + 1 by omega, List.replicate_succ]
        rw [hq]
        simp only
        refine bB_no ?_ ?_
        · show (!(a == a && (b == b && true))) = false
          simp
        have hf : fitL (L2 (List.replicate (min k 3) (capM a b))) := fit_L2 (by simp; omega) (fun x hx => by
          rw [List.eq_of_mem_replicate hx]; simp [capM])
        refine acall_le (msgArgs _ _ _ _ _) (send_ok _ hf 1 msgZ (by simp [msgZ]) ?_)
        rw [send_L2 _ _ (by simp [msgZ]), if_neg (by simp; omega)]
        exact rfl
set_option maxRecDepth 100000 in
theorem full_ok (n a b : Int) : ACall Try.prog 13 [vInt .i64 n, .rv (.agg [.dat (.val (.int .i64 a)), .dat (.val (.int .i64 b))])] [] (fun r m => r = vBool true) :=
  acall_body Try.func13 l13 rfl (Nat.le_of_ble_eq_true rfl) (full_body n a b)
end Go.Proofs.Ytflieebgiejjpaa
