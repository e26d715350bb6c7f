import Derived.Test.YtjllbjbpdnhceaaAmZ2
import Derived.Test.YtjllbjbpdnhceaaAmR
import Derived.Test.YtjllbjbpdnhceaaAmU
import Derived.Test.YtjllbjbpdnhceaaRows
import Derived.Test.YtjllbjbpdnhceaaAmY
set_option linter.unusedVariables false
set_option linter.unusedSimpArgs false
namespace Go.Proofs.Ytjllbjbpdnhceaa
open Go.AM Go.ChangeShapes Go.WideShapes Go.ChangeAt Go.RowKit
def c32 : LF := ⟨74, [.tmp 6], (.seq (.reg [
    ⟨(some 3), .box (.t 0), none⟩,
    ⟨(some 6), .mov (.c (.rv (.one (.dat (.val (.int .i64 (0))))))), none⟩]) (.seq (.seq (.reg [
    ⟨(some 7), .fadr 0 (.t 3), none⟩,
    ⟨(some 8), .load false 1 (.t 7), none⟩]) (.block 0 (.seq (.reg [
    ⟨(some 10), .bin .eql (.t 8) (.c (.rv (.one (.dat (.val (.int .i64 (1))))))), none⟩,
    ⟨(some 9), .mov (.t 10), none⟩]) (.cond (.t 9) (.seq (.reg [
    ⟨(some 11), .fadr 3 (.t 3), none⟩,
    ⟨(some 12), .load false 1 (.t 11), none⟩,
    ⟨(some 13), .bin .lss (.t 12) (.c (.rv (.one (.dat (.val (.int .i64 (0))))))), none⟩,
    ⟨(some 14), .mov (.t 13), none⟩,
    ⟨(some 15), .fadr 3 (.t 3), (some (14, false))⟩,
    ⟨(some 16), .load false 1 (.t 15), (some (14, false))⟩,
    ⟨(some 17), .bin .geq (.t 16) (.c (.rv (.one (.dat (.val (.int .i64 (6))))))), (some (14, false))⟩,
    ⟨(some 18), .pick (.t 14) (.c (.rv (.one (.dat (.val (.bool true)))))) (.t 17), none⟩]) (.cond (.t 18) (.seq (.reg [
    ⟨(some 6), .mov (.c (.rv (.one (.dat (.val (.int .i64 (3))))))), none⟩]) .ret) .skip)) (.seq (.seq (.reg [
    ⟨(some 20), .bin .eql (.t 8) (.c (.rv (.one (.dat (.val (.int .i64 (2))))))), none⟩,
    ⟨(some 19), .mov (.t 20), none⟩]) (.cond (.t 19) .skip (.seq (.reg [
    ⟨(some 21), .bin .eql (.t 8) (.c (.rv (.one (.dat (.val (.int .i64 (3))))))), none⟩,
    ⟨(some 19), .mov (.t 21), none⟩]) (.cond (.t 19) .skip (.reg [
    ⟨(some 22), .bin .eql (.t 8) (.c (.rv (.one (.dat (.val (.int .i64 (4))))))), none⟩,
    ⟨(some 19), .mov (.t 22), none⟩]))))) (.cond (.t 19) (.seq (.seq (.reg [
    ⟨(some 23), .fadr 3 (.t 3), none⟩,
    ⟨(some 24), .load false 1 (.t 23), none⟩,
    ⟨(some 25), .bin .lss (.t 24) (.c (.rv (.one (.dat (.val (.int .i64 (0))))))), none⟩,
    ⟨(some 26), .mov (.t 25), none⟩,
    ⟨(some 27), .fadr 3 (.t 3), (some (26, false))⟩,
    ⟨(some 28), .load false 1 (.t 27), (some (26, false))⟩,
    ⟨(some 29), .bin .geq (.t 28) (.c (.rv (.one (.dat (.val (.int .i64 (2147483648))))))), (some (26, false))⟩,
    ⟨(some 30), .pick (.t 26) (.c (.rv (.one (.dat (.val (.bool true)))))) (.t 29), none⟩,
    ⟨(some 31), .mov (.t 30), none⟩,
    ⟨(some 32), .mov (.t 1), (some (31, false))⟩,
    ⟨(some 33), .fadr 1 (.t 3), (some (31, false))⟩,
    ⟨(some 34), .load false 1 (.t 33), (some (31, false))⟩,
    ⟨(some 35), .mov (.t 2), (some (31, false))⟩,
    ⟨(some 36), .call (.c (.rv (.one (.fn 43 [])))) [(.t 32), (.t 34), (.c (.rv (.one (.dat (.val (.int .i64 (40))))))), (.t 35)], (some (31, false))⟩,
    ⟨(some 37), .un .not (.t 36), (some (31, false))⟩,
    ⟨(some 38), .pick (.t 31) (.c (.rv (.one (.dat (.val (.bool true)))))) (.t 37), none⟩,
    ⟨(some 39), .mov (.t 38), none⟩,
    ⟨(some 40), .mov (.t 1), (some (39, false))⟩,
    ⟨(some 41), .fadr 2 (.t 3), (some (39, false))⟩,
    ⟨(some 42), .load false 1 (.t 41), (some (39, false))⟩,
    ⟨(some 43), .mov (.t 2), (some (39, false))⟩,
    ⟨(some 44), .call (.c (.rv (.one (.fn 43 [])))) [(.t 40), (.t 42), (.c (.rv (.one (.dat (.val (.int .i64 (40))))))), (.t 43)], (some (39, false))⟩,
    ⟨(some 45), .un .not (.t 44), (some (39, false))⟩,
    ⟨(some 46), .pick (.t 39) (.c (.rv (.one (.dat (.val (.bool true)))))) (.t 45), none⟩]) (.cond (.t 46) (.seq (.reg [
    ⟨(some 6), .mov (.c (.rv (.one (.dat (.val (.int .i64 (3))))))), none⟩]) .ret) .skip)) (.seq (.reg [
    ⟨(some 6), .mov (.c (.rv (.one (.dat (.val (.int .i64 (0))))))), none⟩]) .ret)) (.seq (.reg [
    ⟨(some 48), .bin .eql (.t 8) (.c (.rv (.one (.dat (.val (.int .i64 (5))))))), none⟩,
    ⟨(some 47), .mov (.t 48), none⟩]) (.cond (.t 47) (.seq (.reg [
    ⟨(some 49), .mov (.t 1), none⟩,
    ⟨(some 50), .fadr 3 (.t 3), none⟩,
    ⟨(some 51), .load false 1 (.t 50), none⟩,
    ⟨(some 52), .mov (.t 2), none⟩,
    ⟨(some 53), .mov (.t 2), none⟩,
    ⟨(some 54), .call (.c (.rv (.one (.fn 43 [])))) [(.t 49), (.t 51), (.t 52), (.t 53)], none⟩,
    ⟨(some 55), .un .not (.t 54), none⟩]) (.cond (.t 55) (.seq (.reg [
    ⟨(some 6), .mov (.c (.rv (.one (.dat (.val (.int .i64 (3))))))), none⟩]) .ret) .skip)) (.seq (.reg [
    ⟨(some 57), .bin .eql (.t 8) (.c (.rv (.one (.dat (.val (.int .i64 (6))))))), none⟩,
    ⟨(some 56), .mov (.t 57), none⟩]) (.cond (.t 56) (.seq (.reg [
    ⟨(some 58), .fadr 3 (.t 3), none⟩,
    ⟨(some 59), .load false 1 (.t 58), none⟩,
    ⟨(some 60), .bin .neq (.t 59) (.c (.rv (.one (.dat (.val (.int .i64 (1))))))), none⟩,
    ⟨(some 61), .mov (.t 60), none⟩,
    ⟨(some 62), .fadr 3 (.t 3), (some (61, true))⟩,
    ⟨(some 63), .load false 1 (.t 62), (some (61, true))⟩,
    ⟨(some 64), .bin .neq (.t 63) (.c (.rv (.one (.dat (.val (.int .i64 (0))))))), (some (61, true))⟩,
    ⟨(some 65), .pick (.t 61) (.t 64) (.c (.rv (.one (.dat (.val (.bool false)))))), none⟩]) (.cond (.t 65) (.seq (.reg [
    ⟨(some 6), .mov (.c (.rv (.one (.dat (.val (.int .i64 (3))))))), none⟩]) .ret) .skip)) (.seq (.reg [
    ⟨(some 6), .mov (.c (.rv (.one (.dat (.val (.int .i64 (1))))))), none⟩]) .ret))))))))))) (.seq (.seq (.reg [
    ⟨(some 66), .fadr 1 (.t 3), none⟩,
    ⟨(some 67), .load false 1 (.t 66), none⟩,
    ⟨(some 68), .bin .neq (.t 67) (.c (.rv (.one (.dat (.val (.int .i64 (0))))))), none⟩,
    ⟨(some 69), .mov (.t 68), none⟩,
    ⟨(some 70), .fadr 2 (.t 3), (some (69, false))⟩,
    ⟨(some 71), .load false 1 (.t 70), (some (69, false))⟩,
    ⟨(some 72), .bin .neq (.t 71) (.c (.rv (.one (.dat (.val (.int .i64 (0))))))), (some (69, false))⟩,
    ⟨(some 73), .pick (.t 69) (.c (.rv (.one (.dat (.val (.bool true)))))) (.t 72), none⟩]) (.cond (.t 73) (.seq (.reg [
    ⟨(some 6), .mov (.c (.rv (.one (.dat (.val (.int .i64 (2))))))), none⟩]) .ret) .skip)) (.seq (.reg [
    ⟨(some 6), .mov (.c (.rv (.one (.dat (.val (.int .i64 (0))))))), none⟩]) .ret))))⟩
def c43 : LF := ⟨24, [.tmp 8], (.seq (.reg [
    ⟨(some 8), .mov (.c (.rv (.one (.dat (.val (.bool false)))))), none⟩]) (.seq (.reg [
    ⟨(some 9), .mov (.t 1), none⟩,
    ⟨(some 10), .bin .geq (.t 9) (.c (.rv (.one (.dat (.val (.int .i64 (0))))))), none⟩,
    ⟨(some 11), .mov (.t 10), none⟩,
    ⟨(some 12), .mov (.t 1), (some (11, true))⟩,
    ⟨(some 13), .mov (.t 2), (some (11, true))⟩,
    ⟨(some 14), .bin .leq (.t 12) (.t 13), (some (11, true))⟩,
    ⟨(some 15), .pick (.t 11) (.t 14) (.c (.rv (.one (.dat (.val (.bool false)))))), none⟩,
    ⟨(some 16), .mov (.t 15), none⟩,
    ⟨(some 17), .mov (.t 0), (some (16, true))⟩,
    ⟨(some 18), .bin .add (.t 17) (.c (.rv (.one (.dat (.val (.int .i64 (1))))))), (some (16, true))⟩,
    ⟨(some 19), .mov (.t 1), (some (16, true))⟩,
    ⟨(some 20), .bin .add (.t 18) (.t 19), (some (16, true))⟩,
    ⟨(some 21), .mov (.t 3), (some (16, true))⟩,
    ⟨(some 22), .bin .lss (.t 20) (.t 21), (some (16, true))⟩,
    ⟨(some 23), .pick (.t 16) (.t 22) (.c (.rv (.one (.dat (.val (.bool false)))))), none⟩,
    ⟨(some 8), .mov (.t 23), none⟩]) .ret))⟩
structure Ins where
  op : Int
  jt : Int
  jf : Int
  k : Int
deriving DecidableEq
def Ins.enc (i : Ins) : List Dt := [.val (.int .i64 i.op), .val (.int .i64 i.jt), .val (.int .i64 i.jf), .val (.int .i64 i.k)]
def Ins.cv (i : Ins) : CV := .rv (.agg (i.enc.map .dat))
def insD (l : List Ins) : Dt := .sl 4 (l.map Ins.enc)
def insV (l : List Ins) : CV := .rv (.one (.dat (insD l)))
def iRV (n : Int) : RV := .one (.dat (.val (.int .i64 n)))
def fltV (f : Int × Int) : CV := .rv (.agg [.dat (.val (.int .i64 f.1)), .dat (.val (.int .i64 f.2))])
def jumpB (a n most s : Int) : Bool := decide (n ≥ 0) && decide (n ≤ most) && decide (a + 1 + n < s)
theorem l43 : lowF Try.prog Try.f43 = some c43 := by kernel_rfl
theorem wrapI {n : Int} (h1 : -9223372036854775808 ≤ n) (h2 : n ≤ 9223372036854775807) : IntKind.i64.wrap n = n := IntWalk.i64_in n (by omega)
set_option maxRecDepth 100000 in
theorem jump_body (a n most s : Int) (ha : 0 ≤ a) (ha2 : a ≤ 4194304) (hm : most ≤ 4194304) : body Try.prog c43 [vInt .i64 a, vInt .i64 n, vInt .i64 most, vInt .i64 s] [] (fun r m => r = vBool (jumpB a n most s)) := by
  refine bB_split (fun h => ?_) (fun h => ?_)
  · refine bB_split (fun h2 => ?_) (fun h2 => ?_)
    · have e1 : n ≥ 0 := of_decide_eq_true h
      have e2 : n ≤ most := of_decide_eq_true h2
      show vBool _ = vBool _
      rw [jumpB, h, h2, wrapI (n := a + 1) (by omega) (by omega), wrapI (by omega) (by omega)]
      rfl
    · show vBool _ = vBool _
      rw [jumpB, h, h2]; rfl
  · show vBool _ = vBool _
    rw [jumpB, h]; rfl
theorem jump_ok (a n most s : Int) (ha : 0 ≤ a) (ha2 : a ≤ 4194304) (hm : most ≤ 4194304) {m : Mem} {K : CV → Mem → Prop} (h : K (vBool (jumpB a n most s)) m) : ACall Try.prog 43 [vInt .i64 a, vInt .i64 n, vInt .i64 most, vInt .i64 s] m K :=
  acall_val Try.func43 l43 rfl (Nat.le_of_ble_eq_true rfl) (jump_body a n most s ha ha2 hm) rfl rfl h
def formE (i : Ins) : Int := if (i.jt != 0) || (i.jf != 0) then 2 else 0
def insE (i : Ins) (a s : Int) : Int :=
  if (i.op == 1) then (if (decide (i.k < 0) || decide (i.k ≥ 6)) then 3 else formE i)
  else if (i.op == 2) || (i.op == 3) || (i.op == 4) then (if (decide (i.k < 0) || decide (i.k ≥ 2147483648) || !jumpB a i.jt 40 s || !jumpB a i.jf 40 s) then 3 else 0)
  else if (i.op == 5) then (if !jumpB a i.k s s then 3 else formE i)
  else if (i.op == 6) then (if (i.k != 1) && (i.k != 0) then 3 else formE i)
  else 1
theorem l32 : lowF Try.prog Try.f32 = some c32 := by kernel_rfl
set_option maxRecDepth 100000 in
set_option maxHeartbeats 4000000 in
theorem instr_body (i : Ins) (a s : Int) (ha : 0 ≤ a) (ha2 : a ≤ 4194304) (hs : s ≤ 4194304) : body Try.prog c32 [i.cv, vInt .i64 a, vInt .i64 s] [] (fun r m => r = vInt .i64 (insE i a s)) := by
  repeat' (first
    | (refine bB_split (fun h => ?_) (fun h => ?_))
    | (refine jump_ok _ _ _ _ ha ha2 (by omega) ?_))
  all_goals (show vInt .i64 _ = vInt .i64 _; refine congrArg _ ?_; simp only [insE, formE, *]; try (first | rfl | simp [*]))
set_option maxRecDepth 100000 in
theorem instr_ok (i : Ins) (a s : Int) (ha : 0 ≤ a) (ha2 : a ≤ 4194304) (hs : s ≤ 4194304) {m : Mem} {K : CV → Mem → Prop} (h : K (vInt .i64 (insE i a s)) m) : ACall Try.prog 32 [i.cv, vInt .i64 a, vInt .i64 s] m K :=
  acall_val Try.func32 l32 rfl (Nat.le_of_ble_eq_true rfl) (instr_body i a s ha ha2 hs) rfl rfl h

def c23 : LF := ⟨46, [.cell true 2 2], (.seq (.reg [
    ⟨(some 2), .alloc [(.dat (.val (.int .i64 (0)))), (.dat (.val (.int .i64 (0))))], none⟩]) (.seq (.seq (.reg [
    ⟨(some 6), .mov (.t 0), none⟩,
    ⟨(some 7), .len 1 (.t 6), none⟩,
    ⟨(some 8), .bin .lss (.t 7) (.c (.rv (.one (.dat (.val (.int .i64 (1))))))), none⟩,
    ⟨(some 9), .mov (.t 8), none⟩,
    ⟨(some 10), .mov (.t 0), (some (9, false))⟩,
    ⟨(some 11), .len 1 (.t 10), (some (9, false))⟩,
    ⟨(some 12), .bin .gtr (.t 11) (.c (.rv (.one (.dat (.val (.int .i64 (400))))))), (some (9, false))⟩,
    ⟨(some 13), .pick (.t 9) (.c (.rv (.one (.dat (.val (.bool true)))))) (.t 12), none⟩]) (.cond (.t 13) (.seq (.reg [
    ⟨(some 14), .build [(.dat (.val (.int .i64 (0)))), (.dat (.val (.int .i64 (0))))] [(0, 1, (.c (.rv (.one (.dat (.val (.int .i64 (5))))))))], none⟩,
    ⟨none, .store 2 (.t 2) (.t 14), none⟩]) .ret) .skip)) (.seq (.seq (.reg [
    ⟨(some 15), .mov (.t 0), none⟩,
    ⟨(some 16), .len 1 (.t 15), none⟩,
    ⟨(some 17), .mov (.c (.rv (.one (.dat (.val (.int .i64 (0))))))), none⟩]) (.block 0 (.loop (.seq (.reg [
    ⟨(some 18), .bin .lss (.t 17) (.t 16), none⟩]) (.seq (.cond (.t 18) .skip (.exit 0)) (.seq (.block 1 (.seq (.reg [
    ⟨(some 19), .mov (.t 17), none⟩,
    ⟨(some 20), .idx 4 (.t 15) (.t 17), none⟩,
    ⟨(some 21), .load true 4 (.t 20), none⟩,
    ⟨(some 4), .alloc [(.dat (.val (.int .i64 (0)))), (.dat (.val (.int .i64 (0)))), (.dat (.val (.int .i64 (0)))), (.dat (.val (.int .i64 (0))))], none⟩,
    ⟨(some 3), .mov (.t 19), none⟩,
    ⟨none, .store 4 (.t 4) (.t 21), none⟩]) (.seq (.reg [
    ⟨(some 22), .load true 4 (.t 4), none⟩,
    ⟨(some 23), .mov (.t 3), none⟩,
    ⟨(some 24), .mov (.t 0), none⟩,
    ⟨(some 25), .len 1 (.t 24), none⟩,
    ⟨(some 26), .call (.c (.rv (.one (.fn 32 [])))) [(.t 22), (.t 23), (.t 25)], none⟩,
    ⟨(some 5), .mov (.t 26), none⟩]) (.seq (.reg [
    ⟨(some 27), .mov (.t 5), none⟩,
    ⟨(some 28), .bin .neq (.t 27) (.c (.rv (.one (.dat (.val (.int .i64 (0))))))), none⟩]) (.cond (.t 28) (.seq (.reg [
    ⟨(some 29), .mov (.t 5), none⟩,
    ⟨(some 30), .mov (.t 3), none⟩,
    ⟨(some 31), .build [(.dat (.val (.int .i64 (0)))), (.dat (.val (.int .i64 (0))))] [(0, 1, (.t 29)), (1, 1, (.t 30))], none⟩,
    ⟨none, .store 2 (.t 2) (.t 31), none⟩]) .ret) .skip))))) (.reg [
    ⟨(some 32), .bin .add (.t 17) (.c (.rv (.one (.dat (.val (.int .i64 (1))))))), none⟩,
    ⟨(some 17), .mov (.t 32), none⟩]))))))) (.seq (.seq (.reg [
    ⟨(some 33), .mov (.t 0), none⟩,
    ⟨(some 34), .mov (.t 0), none⟩,
    ⟨(some 35), .len 1 (.t 34), none⟩,
    ⟨(some 36), .bin .sub (.t 35) (.c (.rv (.one (.dat (.val (.int .i64 (1))))))), none⟩,
    ⟨(some 37), .idx 4 (.t 33) (.t 36), none⟩,
    ⟨(some 38), .fadr 0 (.t 37), none⟩,
    ⟨(some 39), .load false 1 (.t 38), none⟩,
    ⟨(some 40), .bin .neq (.t 39) (.c (.rv (.one (.dat (.val (.int .i64 (6))))))), none⟩]) (.cond (.t 40) (.seq (.reg [
    ⟨(some 41), .mov (.t 0), none⟩,
    ⟨(some 42), .len 1 (.t 41), none⟩,
    ⟨(some 43), .bin .sub (.t 42) (.c (.rv (.one (.dat (.val (.int .i64 (1))))))), none⟩,
    ⟨(some 44), .build [(.dat (.val (.int .i64 (0)))), (.dat (.val (.int .i64 (0))))] [(0, 1, (.c (.rv (.one (.dat (.val (.int .i64 (2)))))))), (1, 1, (.t 43))], none⟩,
    ⟨none, .store 2 (.t 2) (.t 44), none⟩]) .ret) .skip)) (.seq (.reg [
    ⟨(some 45), .build [(.dat (.val (.int .i64 (0)))), (.dat (.val (.int .i64 (0))))] [], none⟩,
    ⟨none, .store 2 (.t 2) (.t 45), none⟩]) .ret)))))⟩
def chkS (s : Int) : Nat → List Ins → Int × Int
  | _, [] => (0, 0)
  | k, i :: r => if insE i (k : Int) s = 0 then chkS s (k + 1) r else (insE i (k : Int) s, (k : Int))
theorem chkS_ok (s : Int) : ∀ (l : List Ins) (k : Nat), (∀ (j : Nat) i, l[j]? = some i → insE i ((k + j : Nat) : Int) s = 0) → chkS s k l = (0, 0)
  | [], _, _ => rfl
  | i :: r, k, h => by
    rw [chkS, if_pos (by simpa using h 0 i rfl)]
    exact chkS_ok s r (k + 1) fun j x hx => by
      have := h (j + 1) x (by simpa using hx)
      rwa [show k + (j + 1) = k + 1 + j by omega] at this
theorem chkS_bad (s : Int) : ∀ (l : List Ins) (k j : Nat) (i : Ins), l[j]? = some i → (∀ (j' : Nat) i, j' < j → l[j']? = some i → insE i ((k + j' : Nat) : Int) s = 0) → insE i ((k + j : Nat) : Int) s ≠ 0 → chkS s k l = (insE i ((k + j : Nat) : Int) s, ((k + j : Nat) : Int))
  | [], _, j, i, h, _, _ => by simp at h
  | x :: r, k, 0, i, h, _, hb => by
    simp at h
    subst h
    rw [chkS, if_neg (by simpa using hb)]; rfl
  | x :: r, k, j + 1, i, h, hg, hb => by
    rw [chkS, if_pos (by simpa using hg 0 x (by omega) rfl)]
    rw [show k + (j + 1) = k + 1 + j by omega] at hb ⊢
    exact chkS_bad s r (k + 1) j i (by simpa using h) (fun j' y hj hy => by
      have := hg (j' + 1) y (by omega) (by simpa using hy)
      rwa [show k + (j' + 1) = k + 1 + j' by omega] at this) hb
def checkS (p : List Ins) : Int × Int :=
  if p.length < 1 ∨ p.length > 400 then (5, 0)
  else if (chkS p.length 0 p).1 ≠ 0 then chkS p.length 0 p
  else match p[p.length - 1]? with
    | some i => if i.op = 6 then (0, 0) else (2, ((p.length - 1 : Nat) : Int))
    | none => (0, 0)
theorem l23 : lowF Try.prog Try.f23 = some c23 := by kernel_rfl
set_option maxRecDepth 100000 in
set_option maxHeartbeats 4000000 in
theorem check_body (p : List Ins) : body Try.prog c23 [insV p] [] (fun r m => r = fltV (checkS p)) := by
  refine bB_split (fun h => ?_) (fun h0 => ?_)
  · have h : p.length < 1 := by
      have h : (((p.map Ins.enc).length : Nat) : Int) < 1 := of_decide_eq_true h
      rw [List.length_map] at h; omega
    rw [checkS, if_pos (.inl h)]; exact rfl
  · refine bB_split (fun h => ?_) (fun h1 => ?_)
    · have h : p.length > 400 := by
        have h : (((p.map Ins.enc).length : Nat) : Int) > 400 := of_decide_eq_true h
        simp at h; omega
      rw [checkS, if_pos (.inr h)]; exact rfl
    · have h0 : ¬ p.length < 1 := by
        have h : ¬ (((p.map Ins.enc).length : Nat) : Int) < 1 := of_decide_eq_false h0
        rw [List.length_map] at h; omega
      have h1 : ¬ p.length > 400 := by
        have h : ¬ (((p.map Ins.enc).length : Nat) : Int) > 400 := of_decide_eq_false h1
        rw [List.length_map] at h; omega
      have hc : checkS p = if (chkS p.length 0 p).1 ≠ 0 then chkS p.length 0 p else match p[p.length - 1]? with
          | some i => if i.op = 6 then (0, 0) else (2, ((p.length - 1 : Nat) : Int))
          | none => (0, 0) := by rw [checkS, if_neg (by omega)]
      refine loop_mem (fun k => k ≤ p.length ∧ ∀ (j : Nat) i, j < k → p[j]? = some i → insE i (j : Int) p.length = 0) (fun k => [(17, vInt .i64 (k : Nat)), (3, .junk), (4, .junk), (5, .junk), (18, .junk), (19, .junk), (20, .junk), (21, .junk), (22, .junk), (23, .junk), (24, .junk), (25, .junk), (26, .junk), (27, .junk), (28, .junk), (32, .junk)])
        (fun k => [.var [.dat (.val (.int .i64 0)), .dat (.val (.int .i64 0))]]) (fun k => p.length - k) 0 ⟨Nat.zero_le _, fun j i h => absurd h (Nat.not_lt_zero j)⟩ ?_ (fun k hk => ?_)
      · refine View.of 1 [0] [] rfl rfl rfl rfl rfl rfl ?_ ?_
        · repeat (first | exact .nil | refine .junk ?_ | refine .eq rfl ?_)
        · exact .put (by simp [memN]) rfl (.eq rfl (by simp)) (.nil _)
      · refine bB_split (fun h => ?_) (fun h => ?_)
        · have hlt : k < p.length := by
            have h : (k : Int) < ((p.map Ins.enc).length : Int) := of_decide_eq_true h
            rw [List.length_map] at h
            omega
          have hg : getZ (p.map Ins.enc) (k : Nat) = some (p[k].enc) := by
            rw [getZ_nat, List.getElem?_map, List.getElem?_eq_getElem hlt]; rfl
          have hlen : (((p.map Ins.enc).length : Nat) : Int) = (p.length : Int) := by rw [List.length_map]
          refine ok_some hg ?_
          have hcall : ∀ {m : Mem} {K : CV → Mem → Prop}, K (vInt .i64 (insE p[k] k p.length)) m → ACall Try.prog 32 [p[k].cv, vInt .i64 k, vInt .i64 (((p.map Ins.enc).length : Nat) : Int)] m K := by
            intro m K h
            rw [hlen]
            exact instr_ok _ _ _ (by omega) (by omega) (by omega) h
          refine hcall ?_
          refine bB_split (fun h3 => ?_) (fun h3 => ?_)
          · have h3 : insE p[k] k p.length ≠ 0 := by simpa using h3
            have := chkS_bad p.length p 0 k p[k] (List.getElem?_eq_getElem hlt) (fun j i hj hi => by simpa using hk.2 j i hj hi) (by simpa using h3)
            rw [Nat.zero_add] at this
            rw [hc, this, if_pos h3]
            exact rfl
          · have h3 : insE p[k] k p.length = 0 := by simpa using h3
            refine ⟨k + 1, ⟨hlt, fun j i hj hi => ?_⟩, ?_, View.of 2 [0] [] rfl rfl rfl rfl rfl rfl ?_ ?_⟩
            · rcases Nat.lt_or_ge j k with h5 | h5
              · exact hk.2 j i h5 hi
              · have : j = k := by omega
                subst this
                rw [List.getElem?_eq_getElem hlt] at hi
                cases hi
                exact h3
            · show p.length - (k + 1) < p.length - k
              omega
            · repeat (first | exact .nil | refine .junk ?_ | refine .put (.ren (next_i64 (by omega)).symm) ?_ | refine .eq rfl ?_)
            · exact .put (by simp [memN]) rfl (.eq rfl (by simp)) (.nil _)
        · have hge : ¬ (k : Int) < ((p.map Ins.enc).length : Int) := of_decide_eq_false h
          rw [List.length_map] at hge
          have hall := chkS_ok p.length p 0 fun j i hi => by
            have := (List.getElem?_eq_some_iff.1 hi).1
            simpa using hk.2 j i (by omega) hi
          rw [hc, hall, if_neg (by simp)]
          have hlast : p.length - 1 < p.length := by omega
          rw [List.getElem?_eq_getElem hlast]
          have hw : IntKind.i64.wrap ((((p.map Ins.enc).length : Nat) : Int) - 1) = ((p.length - 1 : Nat) : Int) := by
            rw [List.length_map, wrapI (by omega) (by omega)]; omega
          have hg : getZ (p.map Ins.enc) (IntKind.i64.wrap ((((p.map Ins.enc).length : Nat) : Int) - 1)) = some (p[p.length - 1].enc) := by
            rw [hw, getZ_nat, List.getElem?_map, List.getElem?_eq_getElem hlast]; rfl
          refine ok_some hg ?_
          refine bB_split (fun h3 => ?_) (fun h3 => ?_)
          · have h3 : p[p.length - 1].op ≠ 6 := by simpa using h3
            show fltV (2, IntKind.i64.wrap ((((p.map Ins.enc).length : Nat) : Int) - 1)) = _
            rw [hw]
            simp only
            rw [if_neg h3]
          · have h3 : p[p.length - 1].op = 6 := by simpa using h3
            simp only
            rw [if_pos h3]
            exact rfl
set_option maxRecDepth 100000 in
theorem check_ok (p : List Ins) {m : Mem} {K : CV → Mem → Prop} (h : K (fltV (checkS p)) m) : ACall Try.prog 23 [insV p] m K :=
  acall_val Try.func23 l23 rfl (Nat.le_of_ble_eq_true rfl) (check_body p) rfl rfl h

theorem insE_1 (jt jf k a s : Int) : insE ⟨1, jt, jf, k⟩ a s = if k < 0 ∨ k ≥ 6 then 3 else if jt ≠ 0 ∨ jf ≠ 0 then 2 else 0 := by
  simp [insE, formE, ← Bool.decide_or]
theorem insE_j (o jt jf k a s : Int) (ho : o = 2 ∨ o = 3 ∨ o = 4) : insE ⟨o, jt, jf, k⟩ a s = if k < 0 ∨ k ≥ 2147483648 ∨ jt < 0 ∨ jf < 0 ∨ jt > 40 ∨ jf > 40 ∨ jt > s - a - 2 ∨ jf > s - a - 2 then 3 else 0 := by
  have h1 : (o == 1) = false := by rcases ho with rfl | rfl | rfl <;> rfl
  have h2 : ((o == 2) || (o == 3) || (o == 4)) = true := by rcases ho with rfl | rfl | rfl <;> rfl
  simp only [insE, h1, h2, Bool.false_eq_true, if_false, if_true]
  by_cases hc : k < 0 ∨ k ≥ 2147483648 ∨ jt < 0 ∨ jf < 0 ∨ jt > 40 ∨ jf > 40 ∨ jt > s - a - 2 ∨ jf > s - a - 2
  · rw [if_pos hc, if_pos]
    simp only [jumpB, Bool.or_eq_true, Bool.not_eq_true', Bool.and_eq_false_iff, decide_eq_true_eq, decide_eq_false_iff_not]
    omega
  · rw [if_neg hc, if_neg]
    simp only [jumpB, Bool.or_eq_true, Bool.not_eq_true', Bool.and_eq_false_iff, decide_eq_true_eq, decide_eq_false_iff_not]
    omega
theorem insE_5 (jt jf k a s : Int) (ha : 0 ≤ a) : insE ⟨5, jt, jf, k⟩ a s = if k < 0 ∨ k > s - a - 2 then 3 else if jt ≠ 0 ∨ jf ≠ 0 then 2 else 0 := by
  have e : (!jumpB a k s s) = decide (k < 0 ∨ k > s - a - 2) := by
    rw [Bool.eq_iff_iff]
    simp only [jumpB, Bool.not_eq_true', Bool.and_eq_false_iff, decide_eq_true_eq, decide_eq_false_iff_not]
    omega
  simp [insE, e, formE, ← Bool.decide_or]
theorem insE_6 (jt jf k a s : Int) : insE ⟨6, jt, jf, k⟩ a s = if k ≠ 0 ∧ k ≠ 1 then 3 else if jt ≠ 0 ∨ jf ≠ 0 then 2 else 0 := by
  simp [insE, formE, ← Bool.decide_or, ← Bool.decide_and]
  simp only [and_comm]
theorem insE_o (o jt jf k a s : Int) (ho : o < 1 ∨ o > 6) : insE ⟨o, jt, jf, k⟩ a s = 1 := by
  have h : ∀ c : Int, 1 ≤ c → c ≤ 6 → (o == c) = false := fun c h1 h2 => by rw [beq_eq_false_iff_ne]; omega
  simp [insE, h 1 (by omega) (by omega), h 2 (by omega) (by omega), h 3 (by omega) (by omega), h 4 (by omega) (by omega), h 5 (by omega) (by omega), h 6 (by omega) (by omega)]

def c11 : LF := ⟨75, [.tmp 4, .tmp 5], (.seq (.reg [
    ⟨(some 3), .box (.t 1), none⟩,
    ⟨(some 4), .mov (.c (.rv (.one (.dat (.val (.int .i64 (0))))))), none⟩,
    ⟨(some 5), .mov (.c (.rv (.one (.dat (.val (.int .i64 (0))))))), none⟩]) (.seq (.seq (.reg [
    ⟨(some 11), .mov (.t 0), none⟩,
    ⟨(some 12), .call (.c (.rv (.one (.fn 23 [])))) [(.t 11)], none⟩,
    ⟨(some 6), .alloc [(.dat (.val (.int .i64 (0)))), (.dat (.val (.int .i64 (0))))], none⟩,
    ⟨none, .store 2 (.t 6) (.t 12), none⟩]) (.seq (.reg [
    ⟨(some 13), .fadr 0 (.t 6), none⟩,
    ⟨(some 14), .load false 1 (.t 13), none⟩,
    ⟨(some 15), .bin .neq (.t 14) (.c (.rv (.one (.dat (.val (.int .i64 (0))))))), none⟩]) (.cond (.t 15) (.seq (.reg [
    ⟨(some 4), .mov (.c (.rv (.one (.dat (.val (.int .i64 (0))))))), none⟩,
    ⟨(some 5), .mov (.c (.rv (.one (.dat (.val (.int .i64 (0))))))), none⟩]) .ret) .skip))) (.seq (.reg [
    ⟨(some 7), .mov (.c (.rv (.one (.dat (.val (.int .i64 (0))))))), none⟩]) (.seq (.reg [
    ⟨(some 8), .mov (.c (.rv (.one (.dat (.val (.int .i64 (0))))))), none⟩]) (.block 0 (.loop (.seq (.block 1 (.seq (.reg [
    ⟨(some 18), .mov (.t 0), none⟩,
    ⟨(some 19), .mov (.t 8), none⟩,
    ⟨(some 20), .idx 4 (.t 18) (.t 19), none⟩,
    ⟨(some 21), .load true 4 (.t 20), none⟩,
    ⟨(some 9), .alloc [(.dat (.val (.int .i64 (0)))), (.dat (.val (.int .i64 (0)))), (.dat (.val (.int .i64 (0)))), (.dat (.val (.int .i64 (0))))], none⟩,
    ⟨none, .store 4 (.t 9) (.t 21), none⟩]) (.seq (.reg [
    ⟨(some 10), .mov (.c (.rv (.one (.dat (.val (.bool false)))))), none⟩]) (.seq (.seq (.reg [
    ⟨(some 22), .fadr 0 (.t 9), none⟩,
    ⟨(some 23), .load false 1 (.t 22), none⟩]) (.block 2 (.seq (.reg [
    ⟨(some 25), .bin .eql (.t 23) (.c (.rv (.one (.dat (.val (.int .i64 (1))))))), none⟩,
    ⟨(some 24), .mov (.t 25), none⟩]) (.cond (.t 24) (.seq (.reg [
    ⟨(some 26), .fadr 3 (.t 9), none⟩,
    ⟨(some 27), .load false 1 (.t 26), none⟩,
    ⟨(some 28), .idxa 6 1 (.t 3) (.t 27), none⟩,
    ⟨(some 29), .load false 1 (.t 28), none⟩,
    ⟨(some 7), .mov (.t 29), none⟩]) (.seq (.reg [
    ⟨(some 30), .mov (.t 8), none⟩,
    ⟨(some 31), .bin .add (.t 30) (.c (.rv (.one (.dat (.val (.int .i64 (1))))))), none⟩,
    ⟨(some 8), .mov (.t 31), none⟩]) (.exit 1))) (.seq (.reg [
    ⟨(some 33), .bin .eql (.t 23) (.c (.rv (.one (.dat (.val (.int .i64 (5))))))), none⟩,
    ⟨(some 32), .mov (.t 33), none⟩]) (.cond (.t 32) (.seq (.reg [
    ⟨(some 34), .mov (.t 8), none⟩,
    ⟨(some 35), .fadr 3 (.t 9), none⟩,
    ⟨(some 36), .load false 1 (.t 35), none⟩,
    ⟨(some 37), .bin .add (.c (.rv (.one (.dat (.val (.int .i64 (1))))))) (.t 36), none⟩,
    ⟨(some 38), .bin .add (.t 34) (.t 37), none⟩,
    ⟨(some 8), .mov (.t 38), none⟩]) (.exit 1)) (.seq (.reg [
    ⟨(some 40), .bin .eql (.t 23) (.c (.rv (.one (.dat (.val (.int .i64 (6))))))), none⟩,
    ⟨(some 39), .mov (.t 40), none⟩]) (.cond (.t 39) (.seq (.reg [
    ⟨(some 41), .fadr 3 (.t 9), none⟩,
    ⟨(some 42), .load false 1 (.t 41), none⟩,
    ⟨(some 43), .mov (.t 5), none⟩,
    ⟨(some 44), .bin .add (.t 43) (.c (.rv (.one (.dat (.val (.int .i64 (1))))))), none⟩,
    ⟨(some 4), .mov (.t 42), none⟩,
    ⟨(some 5), .mov (.t 44), none⟩]) .ret) (.seq (.reg [
    ⟨(some 46), .bin .eql (.t 23) (.c (.rv (.one (.dat (.val (.int .i64 (2))))))), none⟩,
    ⟨(some 45), .mov (.t 46), none⟩]) (.cond (.t 45) (.reg [
    ⟨(some 47), .mov (.t 7), none⟩,
    ⟨(some 48), .fadr 3 (.t 9), none⟩,
    ⟨(some 49), .load false 1 (.t 48), none⟩,
    ⟨(some 50), .bin .eql (.t 47) (.t 49), none⟩,
    ⟨(some 10), .mov (.t 50), none⟩]) (.seq (.reg [
    ⟨(some 52), .bin .eql (.t 23) (.c (.rv (.one (.dat (.val (.int .i64 (3))))))), none⟩,
    ⟨(some 51), .mov (.t 52), none⟩]) (.cond (.t 51) (.reg [
    ⟨(some 53), .mov (.t 7), none⟩,
    ⟨(some 54), .fadr 3 (.t 9), none⟩,
    ⟨(some 55), .load false 1 (.t 54), none⟩,
    ⟨(some 56), .bin .geq (.t 53) (.t 55), none⟩,
    ⟨(some 10), .mov (.t 56), none⟩]) (.seq (.reg [
    ⟨(some 58), .bin .eql (.t 23) (.c (.rv (.one (.dat (.val (.int .i64 (4))))))), none⟩,
    ⟨(some 57), .mov (.t 58), none⟩]) (.cond (.t 57) (.reg [
    ⟨(some 59), .mov (.t 7), none⟩,
    ⟨(some 60), .fadr 3 (.t 9), none⟩,
    ⟨(some 61), .load false 1 (.t 60), none⟩,
    ⟨(some 62), .bin .and (.t 59) (.t 61), none⟩,
    ⟨(some 63), .bin .neq (.t 62) (.c (.rv (.one (.dat (.val (.int .i64 (0))))))), none⟩,
    ⟨(some 10), .mov (.t 63), none⟩]) .skip)))))))))))))) (.seq (.reg [
    ⟨(some 64), .mov (.t 10), none⟩]) (.cond (.t 64) (.reg [
    ⟨(some 65), .mov (.t 8), none⟩,
    ⟨(some 66), .fadr 1 (.t 9), none⟩,
    ⟨(some 67), .load false 1 (.t 66), none⟩,
    ⟨(some 68), .bin .add (.c (.rv (.one (.dat (.val (.int .i64 (1))))))) (.t 67), none⟩,
    ⟨(some 69), .bin .add (.t 65) (.t 68), none⟩,
    ⟨(some 8), .mov (.t 69), none⟩]) (.reg [
    ⟨(some 70), .mov (.t 8), none⟩,
    ⟨(some 71), .fadr 2 (.t 9), none⟩,
    ⟨(some 72), .load false 1 (.t 71), none⟩,
    ⟨(some 73), .bin .add (.c (.rv (.one (.dat (.val (.int .i64 (1))))))) (.t 72), none⟩,
    ⟨(some 74), .bin .add (.t 70) (.t 73), none⟩,
    ⟨(some 8), .mov (.t 74), none⟩]))))))) (.reg [
    ⟨(some 16), .mov (.t 5), none⟩,
    ⟨(some 17), .bin .add (.t 16) (.c (.rv (.one (.dat (.val (.int .i64 (1))))))), none⟩,
    ⟨(some 5), .mov (.t 17), none⟩]))))))))⟩
structure Rec where
  r0 : Int
  r1 : Int
  r2 : Int
  r3 : Int
  r4 : Int
  r5 : Int
def Rec.enc (r : Rec) : List Dt := [.val (.int .i64 r.r0), .val (.int .i64 r.r1), .val (.int .i64 r.r2), .val (.int .i64 r.r3), .val (.int .i64 r.r4), .val (.int .i64 r.r5)]
def Rec.cv (r : Rec) : CV := .rv (.agg (r.enc.map .dat))
def Rec.get (r : Rec) : Nat → Int
  | 0 => r.r0
  | 1 => r.r1
  | 2 => r.r2
  | 3 => r.r3
  | 4 => r.r4
  | _ => r.r5
theorem Rec.read (r : Rec) {k : Nat} (h : k < 6) : readN (r.enc.map .dat) (0 + k * 1) 1 = some [.dat (.val (.int .i64 (r.get k)))] := by
  rw [show 0 + k * 1 = k by omega]
  apply readN_one
  match k, h with
  | 0, _ => rfl
  | 1, _ => rfl
  | 2, _ => rfl
  | 3, _ => rfl
  | 4, _ => rfl
  | 5, _ => rfl
def andV (a b : Int) : Int := IntKind.i64.wrap ((BitVec.ofInt 64 a &&& BitVec.ofInt 64 b).toNat : Int)
def nxt (i : Ins) (acc : Int) (r : Rec) : Nat × Int :=
  if i.op = 1 then (1, r.get i.k.toNat)
  else if i.op = 5 then (1 + i.k.toNat, acc)
  else if (if i.op = 2 then acc == i.k else if i.op = 3 then decide (acc ≥ i.k) else if i.op = 4 then andV acc i.k != 0 else false) = true then (1 + i.jt.toNat, acc)
  else (1 + i.jf.toNat, acc)
theorem nxt_2 (x y : Nat) (k acc : Int) (r : Rec) : (acc = k → nxt ⟨2, x, y, k⟩ acc r = (1 + x, acc)) ∧ (acc ≠ k → nxt ⟨2, x, y, k⟩ acc r = (1 + y, acc)) :=
  ⟨fun h => by subst h; simp [nxt], fun h => by simp [nxt, h]⟩
theorem nxt_3 (x y : Nat) (k acc : Int) (r : Rec) : (acc ≥ k → nxt ⟨3, x, y, k⟩ acc r = (1 + x, acc)) ∧ (¬ acc ≥ k → nxt ⟨3, x, y, k⟩ acc r = (1 + y, acc)) :=
  ⟨fun h => by simp [nxt]; omega, fun h => by simp [nxt]; omega⟩
theorem nxt_4 (x y : Nat) (k acc : Int) (r : Rec) : (andV acc k ≠ 0 → nxt ⟨4, x, y, k⟩ acc r = (1 + x, acc)) ∧ (andV acc k = 0 → nxt ⟨4, x, y, k⟩ acc r = (1 + y, acc)) :=
  ⟨fun h => by simp [nxt, h], fun h => by simp [nxt, h]⟩
theorem nxt_pos (i : Ins) (acc : Int) (r : Rec) : 1 ≤ (nxt i acc r).1 := by
  unfold nxt
  repeat' split
  all_goals simp
def runW (p : List Ins) (r : Rec) (a : Nat) (acc : Int) : Int × Int :=
  if h : a < p.length then
    if p[a].op = 6 then (p[a].k, 1)
    else ((runW p r (a + (nxt p[a] acc r).1) (nxt p[a] acc r).2).1, (runW p r (a + (nxt p[a] acc r).1) (nxt p[a] acc r).2).2 + 1)
  else (0, 0)
termination_by p.length - a
decreasing_by
  all_goals
    have := nxt_pos p[a] acc r
    omega
theorem runW_back {p : List Ins} {r : Rec} {a : Nat} {acc : Int} {i : Ins} (h : p[a]? = some i) (ho : i.op = 6) : runW p r a acc = (i.k, 1) := by
  obtain ⟨hlt, rfl⟩ := List.getElem?_eq_some_iff.1 h
  rw [runW, dif_pos hlt, if_pos ho]
theorem runW_go {p : List Ins} {r : Rec} {a : Nat} {acc : Int} {i : Ins} (h : p[a]? = some i) (ho : i.op ≠ 6) {d : Nat} {acc2 : Int} (hn : nxt i acc r = (d, acc2)) : runW p r a acc = ((runW p r (a + d) acc2).1, (runW p r (a + d) acc2).2 + 1) := by
  obtain ⟨hlt, rfl⟩ := List.getElem?_eq_some_iff.1 h
  rw [runW, dif_pos hlt, if_neg ho, hn]
theorem chkS_all (s : Int) : ∀ (l : List Ins) (k : Nat), (chkS s k l).1 = 0 → ∀ (j : Nat) i, l[j]? = some i → insE i ((k + j : Nat) : Int) s = 0
  | [], _, _, j, i, h => by simp at h
  | x :: r, k, h, j, i, hi => by
    simp only [chkS] at h
    split at h
    · rename_i h0
      cases j with
      | zero => simp at hi; subst hi; simpa using h0
      | succ j =>
        have := chkS_all s r (k + 1) h j i (by simpa using hi)
        rwa [show k + 1 + j = k + (j + 1) by omega] at this
    · rename_i h0
      exact absurd h h0
theorem check_all {p : List Ins} (h : (checkS p).1 = 0) : 1 ≤ p.length ∧ p.length ≤ 400 ∧ (∀ (j : Nat) i, p[j]? = some i → insE i (j : Int) p.length = 0) ∧ ∃ i, p[p.length - 1]? = some i ∧ i.op = 6 := by
  unfold checkS at h
  split at h
  · simp at h
  · rename_i hl
    split at h
    · rename_i hc
      exact absurd h hc
    · rename_i hc
      have hall := chkS_all p.length p 0 (by simpa using hc)
      refine ⟨by omega, by omega, fun j i hi => by simpa using hall j i hi, ?_⟩
      have hlt : p.length - 1 < p.length := by omega
      rw [List.getElem?_eq_getElem hlt] at h ⊢
      simp only at h
      split at h
      · rename_i h6
        exact ⟨_, rfl, h6⟩
      · simp at h
theorem insE_op {i : Ins} {a s : Int} (h : insE i a s = 0) : i.op = 1 ∨ i.op = 2 ∨ i.op = 3 ∨ i.op = 4 ∨ i.op = 5 ∨ i.op = 6 := by
  by_cases ho : i.op < 1 ∨ i.op > 6
  · have := insE_o i.op i.jt i.jf i.k a s ho
    have e : insE ⟨i.op, i.jt, i.jf, i.k⟩ a s = insE i a s := rfl
    omega
  · omega
/-- what a good instruction does -/
theorem good_step {p : List Ins} (h : (checkS p).1 = 0) {a : Nat} {o jt jf k : Int} (hi : p[a]? = some ⟨o, jt, jf, k⟩) :
    (o = 1 ∧ 0 ≤ k ∧ k < 6 ∧ a + 1 < p.length) ∨ ((o = 2 ∨ o = 3 ∨ o = 4) ∧ 0 ≤ jt ∧ 0 ≤ jf ∧ a + 1 + jt.toNat < p.length ∧ a + 1 + jf.toNat < p.length ∧ jt ≤ 40 ∧ jf ≤ 40) ∨ (o = 5 ∧ 0 ≤ k ∧ a + 1 + k.toNat < p.length) ∨ (o = 6 ∧ (k = 0 ∨ k = 1)) := by
  obtain ⟨h1, h2, h3, i6, h4, h5⟩ := check_all h
  have he := h3 a _ hi
  have hlt := (List.getElem?_eq_some_iff.1 hi).1
  rcases insE_op he with ho | ho | ho | ho | ho | ho <;> simp only at ho <;> subst ho
  · rw [insE_1] at he
    have hne : a ≠ p.length - 1 := fun e => by rw [← e, hi] at h4; cases h4; simp at h5
    split at he
    · simp at he
    · exact .inl ⟨rfl, by omega, by omega, by omega⟩
  · rw [insE_j _ _ _ _ _ _ (by omega)] at he
    split at he
    · simp at he
    · exact .inr (.inl ⟨by omega, by omega, by omega, by omega, by omega, by omega, by omega⟩)
  · rw [insE_j _ _ _ _ _ _ (by omega)] at he
    split at he
    · simp at he
    · exact .inr (.inl ⟨by omega, by omega, by omega, by omega, by omega, by omega, by omega⟩)
  · rw [insE_j _ _ _ _ _ _ (by omega)] at he
    split at he
    · simp at he
    · exact .inr (.inl ⟨by omega, by omega, by omega, by omega, by omega, by omega, by omega⟩)
  · rw [insE_5 _ _ _ _ _ (by omega)] at he
    split at he
    · simp at he
    · exact .inr (.inr (.inl ⟨rfl, by omega, by omega⟩))
  · rw [insE_6] at he
    split at he
    · simp at he
    · exact .inr (.inr (.inr ⟨rfl, by omega⟩))
def runS (p : List Ins) (r : Rec) : Int × Int := if (checkS p).1 = 0 then runW p r 0 0 else (0, 0)
theorem l11 : lowF Try.prog Try.f11 = some c11 := by kernel_rfl
def pairV (x : Int × Int) : CV := .tup [iRV x.1, iRV x.2]
theorem next_s {s : Nat} (h : s < 9223372036854775807) : ((s + 1 : Nat) : Int) = IntKind.i64.wrap ((s : Int) + 1) := by
  rw [show (s : Int) + 1 = ((s + 1 : Nat) : Int) by omega, wrapN (by omega)]
set_option maxRecDepth 100000 in
set_option maxHeartbeats 8000000 in
theorem run_body (p : List Ins) (r : Rec) : body Try.prog c11 [insV p, r.cv] [] (fun x m => x = pairV (runS p r)) := by
  refine check_ok p ?_
  refine bB_bne (fun h => ?_) (fun h => ?_)
  · have e : runS p r = (0, 0) := by rw [runS, if_neg h]
    rw [e]; exact rfl
  · have e : runS p r = runW p r 0 0 := by rw [runS, if_pos h]
    rw [e]
    obtain ⟨g1, g2, g3, _⟩ := check_all h
    refine loop_mem (α := Nat × Int × Nat) (fun x => x.1 < p.length ∧ x.2.2 ≤ x.1 ∧ (runW p r x.1 x.2.1).1 = (runW p r 0 0).1 ∧ (runW p r x.1 x.2.1).2 + x.2.2 = (runW p r 0 0).2)
      (fun x => [(8, vInt .i64 (x.1 : Nat)), (7, vInt .i64 x.2.1), (5, vInt .i64 (x.2.2 : Nat)), (6, .junk), (9, .junk), (10, .junk), (11, .junk), (12, .junk), (13, .junk), (14, .junk), (15, .junk), (16, .junk), (17, .junk), (18, .junk), (19, .junk), (20, .junk), (21, .junk), (22, .junk), (23, .junk), (24, .junk), (25, .junk), (26, .junk), (27, .junk), (28, .junk), (29, .junk), (30, .junk), (31, .junk), (32, .junk), (33, .junk), (34, .junk), (35, .junk), (36, .junk), (37, .junk), (38, .junk), (39, .junk), (40, .junk), (41, .junk), (42, .junk), (43, .junk), (44, .junk), (45, .junk), (46, .junk), (47, .junk), (48, .junk), (49, .junk), (50, .junk), (51, .junk), (52, .junk), (53, .junk), (54, .junk), (55, .junk), (56, .junk), (57, .junk), (58, .junk), (59, .junk), (60, .junk), (61, .junk), (62, .junk), (63, .junk), (64, .junk), (65, .junk), (66, .junk), (67, .junk), (68, .junk), (69, .junk), (70, .junk), (71, .junk), (72, .junk), (73, .junk), (74, .junk)])
      (fun x => [.var (r.enc.map .dat)]) (fun x => p.length - x.1) (0, 0, 0) ⟨by show 0 < p.length; omega, Nat.le_refl 0, rfl, by simp⟩ ?_ (fun x hJ => ?_)
    · refine View.of 2 [0] [] rfl rfl rfl rfl rfl rfl ?_ ?_
      · repeat (first | exact .nil | refine .junk ?_ | refine .eq rfl ?_)
      · exact .put (by simp [memN]) rfl (.eq rfl (by simp)) (.nil _)
    · obtain ⟨a, acc, s⟩ := x
      obtain ⟨hlt, hsa, hr1, hr2⟩ := hJ
      have hlt : a < p.length := hlt
      have hsa : s ≤ a := hsa
      have hr1 : (runW p r a acc).1 = (runW p r 0 0).1 := hr1
      have hr2 : (runW p r a acc).2 + s = (runW p r 0 0).2 := hr2
      have hi := List.getElem?_eq_getElem hlt
      generalize p[a] = i at hi
      obtain ⟨o, jt, jf, k⟩ := i
      have hg : getZ (p.map Ins.enc) (a : Nat) = some [.val (.int .i64 o), .val (.int .i64 jt), .val (.int .i64 jf), .val (.int .i64 k)] := by
        rw [getZ_nat, List.getElem?_map, hi]; rfl
      have next : ∀ (d : Nat) (acc2 : Int), runW p r a acc = ((runW p r (a + d) acc2).1, (runW p r (a + d) acc2).2 + 1) → (1 ≤ d ∧ a + d < p.length) → ∀ {G : Prop},
          (((a + d < p.length) ∧ s + 1 ≤ a + d ∧ (runW p r (a + d) acc2).1 = (runW p r 0 0).1 ∧ (runW p r (a + d) acc2).2 + ((s + 1 : Nat) : Int) = (runW p r 0 0).2) → (p.length - (a + d) < p.length - a) → G) → G := by
        intro d acc2 hw hd G hG
        refine hG ⟨hd.2, by omega, ?_, ?_⟩ (by omega)
        · rw [← hr1, hw]
        · rw [← hr2, hw]; simp only; omega
      refine ok_some hg ?_
      rcases good_step h hi with ⟨rfl, k1, k2, k3⟩ | ⟨ho, j1, j2, j3, j4, j5, j6⟩ | ⟨rfl, k1, k2⟩ | ⟨rfl, k1⟩
      · obtain ⟨n, rfl⟩ : ∃ n : Nat, k = n := ⟨k.toNat, by omega⟩
        refine ok_some (idxZ_nat (by omega)) ?_
        refine ok_some (r.read (by omega)) ?_
        refine next 1 (r.get n) (runW_go hi (by simp) (by simp [nxt])) (by omega) (fun hJ hm => ?_)
        exact ⟨(a + 1, (r.get n), s + 1), hJ, hm, View.of 2 [0] [] rfl rfl rfl rfl rfl rfl (by
          repeat (first | exact .nil | refine .junk ?_ | refine .put (.ren (next_i64 (by omega)).symm) ?_ | refine .eq rfl ?_ | refine .eq (congrArg (fun x => vInt .i64 x) ((by rw [wrapN (n := a + 1) (by omega)] : ((a + 1 : Nat) : Int) = _))) ?_)) (.put (by simp [memN]) rfl (.eq rfl (by simp)) (.nil _))⟩
      · obtain ⟨x, rfl⟩ : ∃ n : Nat, jt = n := ⟨jt.toNat, by omega⟩
        obtain ⟨y, rfl⟩ : ∃ n : Nat, jf = n := ⟨jf.toNat, by omega⟩
        have ex : IntKind.i64.wrap ((a : Int) + IntKind.i64.wrap (1 + (x : Int))) = ((a + (1 + x) : Nat) : Int) := by
          rw [wrapI (n := 1 + (x : Int)) (by omega) (by omega), wrapI (by omega) (by omega)]; omega
        have ey : IntKind.i64.wrap ((a : Int) + IntKind.i64.wrap (1 + (y : Int))) = ((a + (1 + y) : Nat) : Int) := by
          rw [wrapI (n := 1 + (y : Int)) (by omega) (by omega), wrapI (by omega) (by omega)]; omega
        rcases ho with rfl | rfl | rfl
        · refine bB_beq (fun hy => ?_) (fun hy => ?_)
          · skip
            refine next (1 + x) acc (runW_go hi (by simp) ((nxt_2 x y k acc r).1 hy)) (by omega) (fun hJ hm => ?_)
            exact ⟨(a + (1 + x), acc, s + 1), hJ, hm, View.of 2 [0] [] rfl rfl rfl rfl rfl rfl (by
              repeat (first | exact .nil | refine .junk ?_ | refine .put (.ren (next_i64 (by omega)).symm) ?_ | refine .eq rfl ?_ | refine .eq (congrArg (fun x => vInt .i64 x) (ex.symm)) ?_)) (.put (by simp [memN]) rfl (.eq rfl (by simp)) (.nil _))⟩
          · skip
            refine next (1 + y) acc (runW_go hi (by simp) ((nxt_2 x y k acc r).2 hy)) (by omega) (fun hJ hm => ?_)
            exact ⟨(a + (1 + y), acc, s + 1), hJ, hm, View.of 2 [0] [] rfl rfl rfl rfl rfl rfl (by
              repeat (first | exact .nil | refine .junk ?_ | refine .put (.ren (next_i64 (by omega)).symm) ?_ | refine .eq rfl ?_ | refine .eq (congrArg (fun x => vInt .i64 x) (ey.symm)) ?_)) (.put (by simp [memN]) rfl (.eq rfl (by simp)) (.nil _))⟩
        · refine bB_dec (fun hy => ?_) (fun hy => ?_)
          · skip
            refine next (1 + x) acc (runW_go hi (by simp) ((nxt_3 x y k acc r).1 hy)) (by omega) (fun hJ hm => ?_)
            exact ⟨(a + (1 + x), acc, s + 1), hJ, hm, View.of 2 [0] [] rfl rfl rfl rfl rfl rfl (by
              repeat (first | exact .nil | refine .junk ?_ | refine .put (.ren (next_i64 (by omega)).symm) ?_ | refine .eq rfl ?_ | refine .eq (congrArg (fun x => vInt .i64 x) (ex.symm)) ?_)) (.put (by simp [memN]) rfl (.eq rfl (by simp)) (.nil _))⟩
          · skip
            refine next (1 + y) acc (runW_go hi (by simp) ((nxt_3 x y k acc r).2 hy)) (by omega) (fun hJ hm => ?_)
            exact ⟨(a + (1 + y), acc, s + 1), hJ, hm, View.of 2 [0] [] rfl rfl rfl rfl rfl rfl (by
              repeat (first | exact .nil | refine .junk ?_ | refine .put (.ren (next_i64 (by omega)).symm) ?_ | refine .eq rfl ?_ | refine .eq (congrArg (fun x => vInt .i64 x) (ey.symm)) ?_)) (.put (by simp [memN]) rfl (.eq rfl (by simp)) (.nil _))⟩
        · refine bB_bne (fun hy => ?_) (fun hy => ?_)
          · skip
            refine next (1 + x) acc (runW_go hi (by simp) ((nxt_4 x y k acc r).1 hy)) (by omega) (fun hJ hm => ?_)
            exact ⟨(a + (1 + x), acc, s + 1), hJ, hm, View.of 2 [0] [] rfl rfl rfl rfl rfl rfl (by
              repeat (first | exact .nil | refine .junk ?_ | refine .put (.ren (next_i64 (by omega)).symm) ?_ | refine .eq rfl ?_ | refine .eq (congrArg (fun x => vInt .i64 x) (ex.symm)) ?_)) (.put (by simp [memN]) rfl (.eq rfl (by simp)) (.nil _))⟩
          · skip
            refine next (1 + y) acc (runW_go hi (by simp) ((nxt_4 x y k acc r).2 hy)) (by omega) (fun hJ hm => ?_)
            exact ⟨(a + (1 + y), acc, s + 1), hJ, hm, View.of 2 [0] [] rfl rfl rfl rfl rfl rfl (by
              repeat (first | exact .nil | refine .junk ?_ | refine .put (.ren (next_i64 (by omega)).symm) ?_ | refine .eq rfl ?_ | refine .eq (congrArg (fun x => vInt .i64 x) (ey.symm)) ?_)) (.put (by simp [memN]) rfl (.eq rfl (by simp)) (.nil _))⟩
      · obtain ⟨n, rfl⟩ : ∃ n : Nat, k = n := ⟨k.toNat, by omega⟩
        have ex : IntKind.i64.wrap ((a : Int) + IntKind.i64.wrap (1 + (n : Int))) = ((a + (1 + n) : Nat) : Int) := by
          rw [wrapI (n := 1 + (n : Int)) (by omega) (by omega), wrapI (by omega) (by omega)]; omega
        refine next (1 + n) acc (runW_go hi (by simp) (by simp [nxt])) (by omega) (fun hJ hm => ?_)
        exact ⟨(a + (1 + n), acc, s + 1), hJ, hm, View.of 2 [0] [] rfl rfl rfl rfl rfl rfl (by
          repeat (first | exact .nil | refine .junk ?_ | refine .put (.ren (next_i64 (by omega)).symm) ?_ | refine .eq rfl ?_ | refine .eq (congrArg (fun x => vInt .i64 x) (ex.symm)) ?_)) (.put (by simp [memN]) rfl (.eq rfl (by simp)) (.nil _))⟩
      · have hb : runW p r a acc = (k, 1) := runW_back hi rfl
        rw [hb] at hr1 hr2
        show CV.tup [iRV k, iRV (IntKind.i64.wrap ((s : Int) + 1))] = _
        rw [← next_s (s := s) (by omega)]
        have e2 : runW p r 0 0 = (k, ((s + 1 : Nat) : Int)) := Prod.ext hr1.symm (by rw [← hr2]; simp only; omega)
        rw [e2]
        rfl
set_option maxRecDepth 100000 in
theorem run_ok (p : List Ins) (r : Rec) {m : Mem} {K : CV → Mem → Prop} (h : K (pairV (runS p r)) m) : ACall Try.prog 11 [insV p, r.cv] m K :=
  acall_val Try.func11 l11 rfl (Nat.le_of_ble_eq_true rfl) (run_body p r) rfl rfl h

/-! it ends -/
theorem runW_ends {p : List Ins} (h : (checkS p).1 = 0) (r : Rec) : ∀ (n a : Nat) (acc : Int), p.length - a = n → a < p.length → ((runW p r a acc).1 = 1 ∨ (runW p r a acc).1 = 0) ∧ 1 ≤ (runW p r a acc).2 ∧ (runW p r a acc).2 ≤ ((p.length - a : Nat) : Int) := by
  intro n
  induction n using Nat.strongRecOn with
  | _ n ih =>
    intro a acc hn hlt
    have hi := List.getElem?_eq_getElem hlt
    generalize p[a] = i at hi
    obtain ⟨o, jt, jf, k⟩ := i
    have step : ∀ d acc2, nxt ⟨o, jt, jf, k⟩ acc r = (d, acc2) → o ≠ 6 → a + d < p.length → ((runW p r a acc).1 = 1 ∨ (runW p r a acc).1 = 0) ∧ 1 ≤ (runW p r a acc).2 ∧ (runW p r a acc).2 ≤ ((p.length - a : Nat) : Int) := by
      intro d acc2 hd ho hlt2
      have hp := nxt_pos ⟨o, jt, jf, k⟩ acc r
      rw [hd] at hp
      simp only at hp
      obtain ⟨h1, h2, h3⟩ := ih (p.length - (a + d)) (by omega) (a + d) acc2 rfl hlt2
      rw [runW_go hi ho hd]
      exact ⟨h1, by simp only; omega, by simp only; omega⟩
    rcases good_step h hi with ⟨rfl, k1, k2, k3⟩ | ⟨ho, j1, j2, j3, j4, j5, j6⟩ | ⟨rfl, k1, k2⟩ | ⟨rfl, k1⟩
    · exact step 1 _ (by simp [nxt]; rfl) (by decide) (by omega)
    · obtain ⟨x, rfl⟩ : ∃ n : Nat, jt = n := ⟨jt.toNat, by omega⟩
      obtain ⟨y, rfl⟩ : ∃ n : Nat, jf = n := ⟨jf.toNat, by omega⟩
      have : nxt ⟨o, x, y, k⟩ acc r = (1 + x, acc) ∨ nxt ⟨o, x, y, k⟩ acc r = (1 + y, acc) := by
        rcases ho with rfl | rfl | rfl
        · by_cases hy : acc = k
          · exact .inl ((nxt_2 x y k acc r).1 hy)
          · exact .inr ((nxt_2 x y k acc r).2 hy)
        · by_cases hy : acc ≥ k
          · exact .inl ((nxt_3 x y k acc r).1 hy)
          · exact .inr ((nxt_3 x y k acc r).2 hy)
        · by_cases hy : andV acc k ≠ 0
          · exact .inl ((nxt_4 x y k acc r).1 hy)
          · exact .inr ((nxt_4 x y k acc r).2 (by omega))
      rcases this with h | h
      · exact step _ _ h (by omega) (by simp at j3; omega)
      · exact step _ _ h (by omega) (by simp at j4; omega)
    · obtain ⟨x, rfl⟩ : ∃ n : Nat, k = n := ⟨k.toNat, by omega⟩
      exact step (1 + x) acc (by simp [nxt]) (by decide) (by simp at k2; omega)
    · rw [runW_back hi rfl]
      exact ⟨by simp only; omega, by simp, by simp only; omega⟩

end Go.Proofs.Ytjllbjbpdnhceaa
