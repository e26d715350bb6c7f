import Derived.Test.YtflieebgiejjpaaAmZ2
import Derived.Test.YtflieebgiejjpaaAmR
import Derived.Test.YtflieebgiejjpaaAmU
import Derived.Test.YtflieebgiejjpaaRows
import Derived.Test.YtflieebgiejjpaaAmY
set_option linter.unusedVariables false
set_option linter.unusedSimpArgs false
namespace Go.Proofs.Ytflieebgiejjpaa
open Go.AM Go.ChangeShapes Go.WideShapes Go.ChangeAt Go.RowKit
def c88 : LF := ⟨74, [.tmp 6], (.seq (.reg [
    ⟨(some 3), .box (.t 0), none⟩,
    ⟨(some 6), .mov (.c (.rv (.one (.dat (.val (.int .i64 (0))))))), none⟩]) (.seq (.seq (.reg [
    ⟨(some 7), .fadr 0 (.t 3), none⟩,
    ⟨(some 8), .load false 1 (.t 7), none⟩]) (.block 0 (.seq (.reg [
    ⟨(some 10), .bin .eql (.t 8) (.c (.rv (.one (.dat (.val (.int .i64 (1))))))), none⟩,
    ⟨(some 9), .mov (.t 10), none⟩]) (.cond (.t 9) (.seq (.reg [
    ⟨(some 11), .fadr 3 (.t 3), none⟩,
    ⟨(some 12), .load false 1 (.t 11), none⟩,
    ⟨(some 13), .bin .lss (.t 12) (.c (.rv (.one (.dat (.val (.int .i64 (0))))))), none⟩,
    ⟨(some 14), .mov (.t 13), none⟩,
    ⟨(some 15), .fadr 3 (.t 3), (some (14, false))⟩,
    ⟨(some 16), .load false 1 (.t 15), (some (14, false))⟩,
    ⟨(some 17), .bin .geq (.t 16) (.c (.rv (.one (.dat (.val (.int .i64 (6))))))), (some (14, false))⟩,
    ⟨(some 18), .pick (.t 14) (.c (.rv (.one (.dat (.val (.bool true)))))) (.t 17), none⟩]) (.cond (.t 18) (.seq (.reg [
    ⟨(some 6), .mov (.c (.rv (.one (.dat (.val (.int .i64 (3))))))), none⟩]) .ret) .skip)) (.seq (.seq (.reg [
    ⟨(some 20), .bin .eql (.t 8) (.c (.rv (.one (.dat (.val (.int .i64 (2))))))), none⟩,
    ⟨(some 19), .mov (.t 20), none⟩]) (.cond (.t 19) .skip (.seq (.reg [
    ⟨(some 21), .bin .eql (.t 8) (.c (.rv (.one (.dat (.val (.int .i64 (3))))))), none⟩,
    ⟨(some 19), .mov (.t 21), none⟩]) (.cond (.t 19) .skip (.reg [
    ⟨(some 22), .bin .eql (.t 8) (.c (.rv (.one (.dat (.val (.int .i64 (4))))))), none⟩,
    ⟨(some 19), .mov (.t 22), none⟩]))))) (.cond (.t 19) (.seq (.seq (.reg [
    ⟨(some 23), .fadr 3 (.t 3), none⟩,
    ⟨(some 24), .load false 1 (.t 23), none⟩,
    ⟨(some 25), .bin .lss (.t 24) (.c (.rv (.one (.dat (.val (.int .i64 (0))))))), none⟩,
    ⟨(some 26), .mov (.t 25), none⟩,
    ⟨(some 27), .fadr 3 (.t 3), (some (26, false))⟩,
    ⟨(some 28), .load false 1 (.t 27), (some (26, false))⟩,
    ⟨(some 29), .bin .geq (.t 28) (.c (.rv (.one (.dat (.val (.int .i64 (2147483648))))))), (some (26, false))⟩,
    ⟨(some 30), .pick (.t 26) (.c (.rv (.one (.dat (.val (.bool true)))))) (.t 29), none⟩,
    ⟨(some 31), .mov (.t 30), none⟩,
    ⟨(some 32), .mov (.t 1), (some (31, false))⟩,
    ⟨(some 33), .fadr 1 (.t 3), (some (31, false))⟩,
    ⟨(some 34), .load false 1 (.t 33), (some (31, false))⟩,
    ⟨(some 35), .mov (.t 2), (some (31, false))⟩,
    ⟨(some 36), .call (.c (.rv (.one (.fn 110 [])))) [(.t 32), (.t 34), (.c (.rv (.one (.dat (.val (.int .i64 (40))))))), (.t 35)], (some (31, false))⟩,
    ⟨(some 37), .un .not (.t 36), (some (31, false))⟩,
    ⟨(some 38), .pick (.t 31) (.c (.rv (.one (.dat (.val (.bool true)))))) (.t 37), none⟩,
    ⟨(some 39), .mov (.t 38), none⟩,
    ⟨(some 40), .mov (.t 1), (some (39, false))⟩,
    ⟨(some 41), .fadr 2 (.t 3), (some (39, false))⟩,
    ⟨(some 42), .load false 1 (.t 41), (some (39, false))⟩,
    ⟨(some 43), .mov (.t 2), (some (39, false))⟩,
    ⟨(some 44), .call (.c (.rv (.one (.fn 110 [])))) [(.t 40), (.t 42), (.c (.rv (.one (.dat (.val (.int .i64 (40))))))), (.t 43)], (some (39, false))⟩,
    ⟨(some 45), .un .not (.t 44), (some (39, false))⟩,
    ⟨(some 46), .pick (.t 39) (.c (.rv (.one (.dat (.val (.bool true)))))) (.t 45), none⟩]) (.cond (.t 46) (.seq (.reg [
    ⟨(some 6), .mov (.c (.rv (.one (.dat (.val (.int .i64 (3))))))), none⟩]) .ret) .skip)) (.seq (.reg [
    ⟨(some 6), .mov (.c (.rv (.one (.dat (.val (.int .i64 (0))))))), none⟩]) .ret)) (.seq (.reg [
    ⟨(some 48), .bin .eql (.t 8) (.c (.rv (.one (.dat (.val (.int .i64 (5))))))), none⟩,
    ⟨(some 47), .mov (.t 48), none⟩]) (.cond (.t 47) (.seq (.reg [
    ⟨(some 49), .mov (.t 1), none⟩,
    ⟨(some 50), .fadr 3 (.t 3), none⟩,
    ⟨(some 51), .load false 1 (.t 50), none⟩,
    ⟨(some 52), .mov (.t 2), none⟩,
    ⟨(some 53), .mov (.t 2), none⟩,
    ⟨(some 54), .call (.c (.rv (.one (.fn 110 [])))) [(.t 49), (.t 51), (.t 52), (.t 53)], none⟩,
    ⟨(some 55), .un .not (.t 54), none⟩]) (.cond (.t 55) (.seq (.reg [
    ⟨(some 6), .mov (.c (.rv (.one (.dat (.val (.int .i64 (3))))))), none⟩]) .ret) .skip)) (.seq (.reg [
    ⟨(some 57), .bin .eql (.t 8) (.c (.rv (.one (.dat (.val (.int .i64 (6))))))), none⟩,
    ⟨(some 56), .mov (.t 57), none⟩]) (.cond (.t 56) (.seq (.reg [
    ⟨(some 58), .fadr 3 (.t 3), none⟩,
    ⟨(some 59), .load false 1 (.t 58), none⟩,
    ⟨(some 60), .bin .neq (.t 59) (.c (.rv (.one (.dat (.val (.int .i64 (1))))))), none⟩,
    ⟨(some 61), .mov (.t 60), none⟩,
    ⟨(some 62), .fadr 3 (.t 3), (some (61, true))⟩,
    ⟨(some 63), .load false 1 (.t 62), (some (61, true))⟩,
    ⟨(some 64), .bin .neq (.t 63) (.c (.rv (.one (.dat (.val (.int .i64 (0))))))), (some (61, true))⟩,
    ⟨(some 65), .pick (.t 61) (.t 64) (.c (.rv (.one (.dat (.val (.bool false)))))), none⟩]) (.cond (.t 65) (.seq (.reg [
    ⟨(some 6), .mov (.c (.rv (.one (.dat (.val (.int .i64 (3))))))), none⟩]) .ret) .skip)) (.seq (.reg [
    ⟨(some 6), .mov (.c (.rv (.one (.dat (.val (.int .i64 (1))))))), none⟩]) .ret))))))))))) (.seq (.seq (.reg [
    ⟨(some 66), .fadr 1 (.t 3), none⟩,
    ⟨(some 67), .load false 1 (.t 66), none⟩,
    ⟨(some 68), .bin .neq (.t 67) (.c (.rv (.one (.dat (.val (.int .i64 (0))))))), none⟩,
    ⟨(some 69), .mov (.t 68), none⟩,
    ⟨(some 70), .fadr 2 (.t 3), (some (69, false))⟩,
    ⟨(some 71), .load false 1 (.t 70), (some (69, false))⟩,
    ⟨(some 72), .bin .neq (.t 71) (.c (.rv (.one (.dat (.val (.int .i64 (0))))))), (some (69, false))⟩,
    ⟨(some 73), .pick (.t 69) (.c (.rv (.one (.dat (.val (.bool true)))))) (.t 72), none⟩]) (.cond (.t 73) (.seq (.reg [
    ⟨(some 6), .mov (.c (.rv (.one (.dat (.val (.int .i64 (2))))))), none⟩]) .ret) .skip)) (.seq (.reg [
    ⟨(some 6), .mov (.c (.rv (.one (.dat (.val (.int .i64 (0))))))), none⟩]) .ret))))⟩
def c110 : LF := ⟨24, [.tmp 8], (.seq (.reg [
    ⟨(some 8), .mov (.c (.rv (.one (.dat (.val (.bool false)))))), none⟩]) (.seq (.reg [
    ⟨(some 9), .mov (.t 1), none⟩,
    ⟨(some 10), .bin .geq (.t 9) (.c (.rv (.one (.dat (.val (.int .i64 (0))))))), none⟩,
    ⟨(some 11), .mov (.t 10), none⟩,
    ⟨(some 12), .mov (.t 1), (some (11, true))⟩,
    ⟨(some 13), .mov (.t 2), (some (11, true))⟩,
    ⟨(some 14), .bin .leq (.t 12) (.t 13), (some (11, true))⟩,
    ⟨(some 15), .pick (.t 11) (.t 14) (.c (.rv (.one (.dat (.val (.bool false)))))), none⟩,
    ⟨(some 16), .mov (.t 15), none⟩,
    ⟨(some 17), .mov (.t 0), (some (16, true))⟩,
    ⟨(some 18), .bin .add (.t 17) (.c (.rv (.one (.dat (.val (.int .i64 (1))))))), (some (16, true))⟩,
    ⟨(some 19), .mov (.t 1), (some (16, true))⟩,
    ⟨(some 20), .bin .add (.t 18) (.t 19), (some (16, true))⟩,
    ⟨(some 21), .mov (.t 3), (some (16, true))⟩,
    ⟨(some 22), .bin .lss (.t 20) (.t 21), (some (16, true))⟩,
    ⟨(some 23), .pick (.t 16) (.t 22) (.c (.rv (.one (.dat (.val (.bool false)))))), none⟩,
    ⟨(some 8), .mov (.t 23), none⟩]) .ret))⟩
structure Ins where
  op : Int
  jt : Int
  jf : Int
  k : Int
deriving DecidableEq
def Ins.enc (i : Ins) : List Dt := [.val (.int .i64 i.op), .val (.int .i64 i.jt), .val (.int .i64 i.jf), .val (.int .i64 i.k)]
def Ins.cv (i : Ins) : CV := .rv (.agg (i.enc.map .dat))
def insD (l : List Ins) : Dt := .sl 4 (l.map Ins.enc)
def insV (l : List Ins) : CV := .rv (.one (.dat (insD l)))
def iRV (n : Int) : RV := .one (.dat (.val (.int .i64 n)))
def fltV (f : Int × Int) : CV := .rv (.agg [.dat (.val (.int .i64 f.1)), .dat (.val (.int .i64 f.2))])
def jumpB (a n most s : Int) : Bool := decide (n ≥ 0) && decide (n ≤ most) && decide (a + 1 + n < s)
theorem l110 : lowF Try.prog Try.f110 = some c110 := by kernel_rfl
theorem wrapI {n : Int} (h1 : -9223372036854775808 ≤ n) (h2 : n ≤ 9223372036854775807) : IntKind.i64.wrap n = n := IntWalk.i64_in n (by omega)
set_option maxRecDepth 100000 in
theorem jump_body (a n most s : Int) (ha : 0 ≤ a) (ha2 : a ≤ 4194304) (hm : most ≤ 4194304) : body Try.prog c110 [vInt .i64 a, vInt .i64 n, vInt .i64 most, vInt .i64 s] [] (fun r m => r = vBool (jumpB a n most s)) := by
  refine bB_split (fun h => ?_) (fun h => ?_)
  · refine bB_split (fun h2 => ?_) (fun h2 => ?_)
    · have e1 : n ≥ 0 := of_decide_eq_true h
      have e2 : n ≤ most := of_decide_eq_true h2
      show vBool _ = vBool _
      rw [jumpB, h, h2, wrapI (n := a + 1) (by omega) (by omega), wrapI (by omega) (by omega)]
      rfl
    · show vBool _ = vBool _
      rw [jumpB, h, h2]; rfl
  · show vBool _ = vBool _
    rw [jumpB, h]; rfl
theorem jump_ok (a n most s : Int) (ha : 0 ≤ a) (ha2 : a ≤ 4194304) (hm : most ≤ 4194304) {m : Mem} {K : CV → Mem → Prop} (h : K (vBool (jumpB a n most s)) m) : ACall Try.prog 110 [vInt .i64 a, vInt .i64 n, vInt .i64 most, vInt .i64 s] m K :=
  acall_val Try.func110 l110 rfl (Nat.le_of_ble_eq_true rfl) (jump_body a n most s ha ha2 hm) rfl rfl h
def formE (i : Ins) : Int := if (i.jt != 0) || (i.jf != 0) then 2 else 0
def insE (i : Ins) (a s : Int) : Int :=
  if (i.op == 1) then (if (decide (i.k < 0) || decide (i.k ≥ 6)) then 3 else formE i)
  else if (i.op == 2) || (i.op == 3) || (i.op == 4) then (if (decide (i.k < 0) || decide (i.k ≥ 2147483648) || !jumpB a i.jt 40 s || !jumpB a i.jf 40 s) then 3 else 0)
  else if (i.op == 5) then (if !jumpB a i.k s s then 3 else formE i)
  else if (i.op == 6) then (if (i.k != 1) && (i.k != 0) then 3 else formE i)
  else 1
theorem l88 : lowF Try.prog Try.f88 = some c88 := by kernel_rfl
set_option maxRecDepth 100000 in
set_option maxHeartbeats 4000000 in
theorem instr_body (i : Ins) (a s : Int) (ha : 0 ≤ a) (ha2 : a ≤ 4194304) (hs : s ≤ 4194304) : body Try.prog c88 [i.cv, vInt .i64 a, vInt .i64 s] [] (fun r m => r = vInt .i64 (insE i a s)) := by
  repeat' (first
    | (refine bB_split (fun h => ?_) (fun h => ?_))
    | (refine jump_ok _ _ _ _ ha ha2 (by omega) ?_))
  all_goals (show vInt .i64 _ = vInt .i64 _; refine congrArg _ ?_; simp only [insE, formE, *]; try (first | rfl | simp [*]))
set_option maxRecDepth 100000 in
theorem instr_ok (i : Ins) (a s : Int) (ha : 0 ≤ a) (ha2 : a ≤ 4194304) (hs : s ≤ 4194304) {m : Mem} {K : CV → Mem → Prop} (h : K (vInt .i64 (insE i a s)) m) : ACall Try.prog 88 [i.cv, vInt .i64 a, vInt .i64 s] m K :=
  acall_val Try.func88 l88 rfl (Nat.le_of_ble_eq_true rfl) (instr_body i a s ha ha2 hs) rfl rfl h
end Go.Proofs.Ytflieebgiejjpaa
