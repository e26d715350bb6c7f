import Derived.Test.YtjofmgkcllffnaaAmZ2
import Derived.Test.YtjofmgkcllffnaaDvGd
import Derived.Test.YtjofmgkcllffnaaAmY
import Derived.Test.YtjofmgkcllffnaaDvGb
import Derived.Test.YtjofmgkcllffnaaDvGf
set_option linter.unusedVariables false
set_option linter.unusedSimpArgs false
namespace Go.Proofs.Ytjofmgkcllffnaa
open Go.AM Go.ChangeShapes Go.WideShapes Go.ChangeAt Go.RowKit
def c12 : LF := ⟨28, [.cell true 2 4, .tmp 5], (.seq (.reg [
    ⟨(some 4), .alloc [(.dat (.val (.int .i64 (0)))), (.dat (.val (.int .i64 (0))))], none⟩,
    ⟨(some 5), .mov (.c (.rv (.one (.dat (.val (.int .i64 (0))))))), none⟩]) (.seq (.seq (.reg [
    ⟨(some 6), .mov (.t 1), none⟩,
    ⟨(some 7), .bin .lss (.t 6) (.c (.rv (.one (.dat (.val (.int .i64 (0))))))), none⟩,
    ⟨(some 8), .mov (.t 7), none⟩,
    ⟨(some 9), .mov (.t 1), (some (8, false))⟩,
    ⟨(some 10), .mov (.t 0), (some (8, false))⟩,
    ⟨(some 11), .len 1 (.t 10), (some (8, false))⟩,
    ⟨(some 12), .bin .geq (.t 9) (.t 11), (some (8, false))⟩,
    ⟨(some 13), .pick (.t 8) (.c (.rv (.one (.dat (.val (.bool true)))))) (.t 12), none⟩,
    ⟨(some 14), .mov (.t 13), none⟩,
    ⟨(some 15), .mov (.t 0), (some (14, false))⟩,
    ⟨(some 16), .mov (.t 1), (some (14, false))⟩,
    ⟨(some 17), .idx 3 (.t 15) (.t 16), (some (14, false))⟩,
    ⟨(some 18), .fadr 0 (.t 17), (some (14, false))⟩,
    ⟨(some 19), .load false 1 (.t 18), (some (14, false))⟩,
    ⟨(some 20), .un .not (.t 19), (some (14, false))⟩,
    ⟨(some 21), .pick (.t 14) (.c (.rv (.one (.dat (.val (.bool true)))))) (.t 20), none⟩]) (.cond (.t 21) (.seq (.reg [
    ⟨(some 22), .build [(.dat (.val (.int .i64 (0)))), (.dat (.val (.int .i64 (0))))] [], none⟩,
    ⟨none, .store 2 (.t 4) (.t 22), none⟩,
    ⟨(some 5), .mov (.c (.rv (.one (.dat (.val (.int .i64 (6))))))), none⟩]) .ret) .skip)) (.seq (.reg [
    ⟨(some 23), .mov (.t 0), none⟩,
    ⟨(some 24), .mov (.t 1), none⟩,
    ⟨(some 25), .idx 3 (.t 23) (.t 24), none⟩,
    ⟨(some 26), .fadr 1 (.t 25), none⟩,
    ⟨(some 27), .load true 2 (.t 26), none⟩,
    ⟨none, .store 2 (.t 4) (.t 27), none⟩,
    ⟨(some 5), .mov (.c (.rv (.one (.dat (.val (.int .i64 (0))))))), none⟩]) .ret)))⟩
def c14 : LF := ⟨44, [.tmp 4, .tmp 5], (.seq (.reg [
    ⟨(some 4), .mov (.c (.rv (.one .esl))), none⟩,
    ⟨(some 5), .mov (.c (.rv (.one (.dat (.val (.int .i64 (0))))))), none⟩]) (.seq (.seq (.reg [
    ⟨(some 13), .mov (.t 0), none⟩,
    ⟨(some 14), .mov (.t 1), none⟩,
    ⟨(some 15), .call (.c (.rv (.one (.fn 12 [])))) [(.t 13), (.t 14)], none⟩,
    ⟨(some 12), .mov (.t 15), none⟩,
    ⟨(some 16), .ext (.t 12) 0, none⟩,
    ⟨(some 17), .ext (.t 12) 1, none⟩,
    ⟨(some 6), .alloc [(.dat (.val (.int .i64 (0)))), (.dat (.val (.int .i64 (0))))], none⟩,
    ⟨none, .store 2 (.t 6) (.t 16), none⟩,
    ⟨(some 7), .mov (.t 17), none⟩]) (.seq (.reg [
    ⟨(some 18), .mov (.t 7), none⟩,
    ⟨(some 19), .bin .neq (.t 18) (.c (.rv (.one (.dat (.val (.int .i64 (0))))))), none⟩]) (.cond (.t 19) (.seq (.reg [
    ⟨(some 20), .mov (.t 7), none⟩,
    ⟨(some 4), .mov (.c (.rv (.one .esl))), none⟩,
    ⟨(some 5), .mov (.t 20), none⟩]) .ret) .skip))) (.seq (.reg [
    ⟨(some 8), .mov (.c (.rv (.one .esl))), none⟩]) (.seq (.reg [
    ⟨(some 9), .mov (.c (.rv (.one (.dat (.val (.int .i64 (0))))))), none⟩]) (.seq (.seq (.reg [
    ⟨(some 21), .mov (.t 0), none⟩,
    ⟨(some 22), .len 1 (.t 21), none⟩,
    ⟨(some 23), .mov (.c (.rv (.one (.dat (.val (.int .i64 (0))))))), none⟩]) (.block 0 (.loop (.seq (.reg [
    ⟨(some 24), .bin .lss (.t 23) (.t 22), none⟩]) (.seq (.cond (.t 24) .skip (.exit 0)) (.seq (.block 1 (.seq (.reg [
    ⟨(some 25), .mov (.t 23), none⟩,
    ⟨(some 26), .idx 3 (.t 21) (.t 23), none⟩,
    ⟨(some 27), .load true 3 (.t 26), none⟩,
    ⟨(some 11), .alloc [(.dat (.val (.bool false))), (.dat (.val (.int .i64 (0)))), (.dat (.val (.int .i64 (0))))], none⟩,
    ⟨(some 10), .mov (.t 25), none⟩,
    ⟨none, .store 3 (.t 11) (.t 27), none⟩]) (.seq (.seq (.reg [
    ⟨(some 28), .mov (.t 10), none⟩,
    ⟨(some 29), .mov (.t 1), none⟩,
    ⟨(some 30), .bin .eql (.t 28) (.t 29), none⟩]) (.cond (.t 30) (.reg [
    ⟨(some 31), .build [(.dat (.val (.bool false))), (.dat (.val (.int .i64 (0)))), (.dat (.val (.int .i64 (0))))] [], none⟩,
    ⟨none, .store 3 (.t 11) (.t 31), none⟩]) .skip)) (.seq (.reg [
    ⟨(some 32), .mov (.t 8), none⟩,
    ⟨(some 33), .load true 3 (.t 11), none⟩,
    ⟨(some 34), .bsl 3 [(.dat (.val (.bool false))), (.dat (.val (.int .i64 (0)))), (.dat (.val (.int .i64 (0))))] 1 [(0, (.t 33))], none⟩,
    ⟨(some 35), .app 3 24 (.t 32) (.t 34), none⟩,
    ⟨(some 8), .mov (.t 35), none⟩]) (.seq (.reg [
    ⟨(some 36), .fadr 0 (.t 11), none⟩,
    ⟨(some 37), .load false 1 (.t 36), none⟩]) (.cond (.t 37) (.reg [
    ⟨(some 38), .mov (.t 10), none⟩,
    ⟨(some 39), .bin .add (.t 38) (.c (.rv (.one (.dat (.val (.int .i64 (1))))))), none⟩,
    ⟨(some 9), .mov (.t 39), none⟩]) .skip)))))) (.reg [
    ⟨(some 40), .bin .add (.t 23) (.c (.rv (.one (.dat (.val (.int .i64 (1))))))), none⟩,
    ⟨(some 23), .mov (.t 40), none⟩]))))))) (.seq (.reg [
    ⟨(some 41), .mov (.t 8), none⟩,
    ⟨(some 42), .mov (.t 9), none⟩,
    ⟨(some 43), .slc 3 (.t 41) none (some (.t 42)) none, none⟩,
    ⟨(some 4), .mov (.t 43), none⟩,
    ⟨(some 5), .mov (.c (.rv (.one (.dat (.val (.int .i64 (0))))))), none⟩]) .ret))))))⟩
def c39 : LF := ⟨44, [.tmp 4, .tmp 5, .tmp 6], (.seq (.reg [
    ⟨(some 3), .box (.t 1), none⟩,
    ⟨(some 4), .mov (.c (.rv (.one .esl))), none⟩,
    ⟨(some 5), .mov (.c (.rv (.one (.dat (.val (.int .i64 (0))))))), none⟩,
    ⟨(some 6), .mov (.c (.rv (.one (.dat (.val (.int .i64 (0))))))), none⟩]) (.seq (.seq (.reg [
    ⟨(some 9), .fadr 1 (.t 3), none⟩,
    ⟨(some 10), .load false 1 (.t 9), none⟩,
    ⟨(some 11), .call (.c (.rv (.one (.fn 55 [])))) [(.t 10)], none⟩,
    ⟨(some 12), .un .not (.t 11), none⟩,
    ⟨(some 13), .mov (.t 12), none⟩,
    ⟨(some 14), .fadr 0 (.t 3), (some (13, false))⟩,
    ⟨(some 15), .load false 1 (.t 14), (some (13, false))⟩,
    ⟨(some 16), .bin .lss (.t 15) (.c (.rv (.one (.dat (.val (.int .i64 (0))))))), (some (13, false))⟩,
    ⟨(some 17), .pick (.t 13) (.c (.rv (.one (.dat (.val (.bool true)))))) (.t 16), none⟩]) (.cond (.t 17) (.seq (.reg [
    ⟨(some 4), .mov (.c (.rv (.one .esl))), none⟩,
    ⟨(some 5), .mov (.c (.rv (.one (.dat (.val (.int .i64 (0))))))), none⟩,
    ⟨(some 6), .mov (.c (.rv (.one (.dat (.val (.int .i64 (3))))))), none⟩]) .ret) .skip)) (.seq (.reg [
    ⟨(some 18), .mov (.t 0), none⟩,
    ⟨(some 19), .call (.c (.rv (.one (.fn 56 [])))) [(.t 18), (.c (.rv (.one (.fn 57 []))))], none⟩,
    ⟨(some 7), .mov (.t 19), none⟩]) (.seq (.seq (.reg [
    ⟨(some 20), .mov (.t 7), none⟩,
    ⟨(some 21), .bin .lss (.t 20) (.c (.rv (.one (.dat (.val (.int .i64 (0))))))), none⟩]) (.cond (.t 21) (.seq (.seq (.reg [
    ⟨(some 22), .mov (.t 0), none⟩,
    ⟨(some 23), .len 1 (.t 22), none⟩,
    ⟨(some 24), .bin .geq (.t 23) (.c (.rv (.one (.dat (.val (.int .i64 (10))))))), none⟩]) (.cond (.t 24) (.seq (.reg [
    ⟨(some 4), .mov (.c (.rv (.one .esl))), none⟩,
    ⟨(some 5), .mov (.c (.rv (.one (.dat (.val (.int .i64 (0))))))), none⟩,
    ⟨(some 6), .mov (.c (.rv (.one (.dat (.val (.int .i64 (15))))))), none⟩]) .ret) .skip)) (.reg [
    ⟨(some 25), .mov (.t 0), none⟩,
    ⟨(some 26), .len 1 (.t 25), none⟩,
    ⟨(some 7), .mov (.t 26), none⟩])) .skip)) (.seq (.reg [
    ⟨(some 27), .mov (.t 0), none⟩,
    ⟨(some 28), .call (.c (.rv (.one (.fn 34 [])))) [(.t 27)], none⟩,
    ⟨(some 8), .mov (.t 28), none⟩]) (.seq (.seq (.reg [
    ⟨(some 29), .mov (.t 7), none⟩,
    ⟨(some 30), .mov (.t 8), none⟩,
    ⟨(some 31), .len 1 (.t 30), none⟩,
    ⟨(some 32), .bin .eql (.t 29) (.t 31), none⟩]) (.cond (.t 32) (.reg [
    ⟨(some 33), .mov (.t 8), none⟩,
    ⟨(some 34), .build [(.dat (.val (.bool false))), (.dat (.val (.int .i64 (0)))), (.dat (.val (.int .i64 (0))))] [], none⟩,
    ⟨(some 35), .bsl 3 [(.dat (.val (.bool false))), (.dat (.val (.int .i64 (0)))), (.dat (.val (.int .i64 (0))))] 1 [(0, (.t 34))], none⟩,
    ⟨(some 36), .app 3 24 (.t 33) (.t 35), none⟩,
    ⟨(some 8), .mov (.t 36), none⟩]) .skip)) (.seq (.reg [
    ⟨(some 37), .mov (.t 8), none⟩,
    ⟨(some 38), .mov (.t 7), none⟩,
    ⟨(some 39), .load true 2 (.t 3), none⟩,
    ⟨(some 40), .build [(.dat (.val (.bool false))), (.dat (.val (.int .i64 (0)))), (.dat (.val (.int .i64 (0))))] [(0, 1, (.c (.rv (.one (.dat (.val (.bool true))))))), (1, 2, (.t 39))], none⟩,
    ⟨(some 41), .idx 3 (.t 37) (.t 38), none⟩,
    ⟨none, .store 3 (.t 41) (.t 40), none⟩]) (.seq (.reg [
    ⟨(some 42), .mov (.t 8), none⟩,
    ⟨(some 43), .mov (.t 7), none⟩,
    ⟨(some 4), .mov (.t 42), none⟩,
    ⟨(some 5), .mov (.t 43), none⟩,
    ⟨(some 6), .mov (.c (.rv (.one (.dat (.val (.int .i64 (0))))))), none⟩]) .ret))))))))⟩
def c55 : LF := ⟨9, [.tmp 2], (.seq (.reg [
    ⟨(some 2), .mov (.c (.rv (.one (.dat (.val (.bool false)))))), none⟩]) (.seq (.reg [
    ⟨(some 3), .mov (.t 0), none⟩,
    ⟨(some 4), .bin .geq (.t 3) (.c (.rv (.one (.dat (.val (.int .i64 (0))))))), none⟩,
    ⟨(some 5), .mov (.t 4), none⟩,
    ⟨(some 6), .mov (.t 0), (some (5, true))⟩,
    ⟨(some 7), .bin .leq (.t 6) (.c (.rv (.one (.dat (.val (.int .i64 (4095))))))), (some (5, true))⟩,
    ⟨(some 8), .pick (.t 5) (.t 7) (.c (.rv (.one (.dat (.val (.bool false)))))), none⟩,
    ⟨(some 2), .mov (.t 8), none⟩]) .ret))⟩
def c56 : LF := ⟨19, [.tmp 4], (.seq (.reg [
    ⟨(some 4), .mov (.c (.rv (.one (.dat (.val (.int .i64 (0))))))), none⟩]) (.seq (.seq (.reg [
    ⟨(some 6), .mov (.t 0), none⟩,
    ⟨(some 7), .len 1 (.t 6), none⟩,
    ⟨(some 8), .mov (.c (.rv (.one (.dat (.val (.int .i64 (0))))))), none⟩]) (.block 0 (.loop (.seq (.reg [
    ⟨(some 9), .bin .lss (.t 8) (.t 7), none⟩]) (.seq (.cond (.t 9) .skip (.exit 0)) (.seq (.block 1 (.seq (.reg [
    ⟨(some 10), .mov (.t 8), none⟩,
    ⟨(some 5), .mov (.t 10), none⟩]) (.seq (.reg [
    ⟨(some 11), .mov (.t 1), none⟩,
    ⟨(some 12), .mov (.t 0), none⟩,
    ⟨(some 13), .mov (.t 5), none⟩,
    ⟨(some 14), .idx 3 (.t 12) (.t 13), none⟩,
    ⟨(some 15), .load true 3 (.t 14), none⟩,
    ⟨(some 16), .call (.t 11) [(.t 15)], none⟩]) (.cond (.t 16) (.seq (.reg [
    ⟨(some 17), .mov (.t 5), none⟩,
    ⟨(some 4), .mov (.t 17), none⟩]) .ret) .skip)))) (.reg [
    ⟨(some 18), .bin .add (.t 8) (.c (.rv (.one (.dat (.val (.int .i64 (1))))))), none⟩,
    ⟨(some 8), .mov (.t 18), none⟩]))))))) (.seq (.reg [
    ⟨(some 4), .mov (.c (.rv (.one (.dat (.val (.int .i64 (-1))))))), none⟩]) .ret)))⟩
def c57 : LF := ⟨6, [.tmp 2], (.seq (.reg [
    ⟨(some 1), .box (.t 0), none⟩,
    ⟨(some 2), .mov (.c (.rv (.one (.dat (.val (.bool false)))))), none⟩]) (.seq (.reg [
    ⟨(some 3), .fadr 0 (.t 1), none⟩,
    ⟨(some 4), .load false 1 (.t 3), none⟩,
    ⟨(some 5), .un .not (.t 4), none⟩,
    ⟨(some 2), .mov (.t 5), none⟩]) .ret))⟩
namespace Tb
structure Cap where
  opn : Int
  rts : Int
deriving DecidableEq
structure Slot where
  has : Bool
  cap : Cap
deriving DecidableEq
def Slot.enc (s : Slot) : List Dt := [.val (.bool s.has), .val (.int .i64 s.cap.opn), .val (.int .i64 s.cap.rts)]
def slotsD (l : List Slot) : Dt := .sl 3 (l.map Slot.enc)
def slotsV (l : List Slot) : CV := .rv (.one (.dat (slotsD l)))
def Cap.rv (c : Cap) : RV := .agg [.dat (.val (.int .i64 c.opn)), .dat (.val (.int .i64 c.rts))]
def iRV (n : Int) : RV := .one (.dat (.val (.int .i64 n)))

def getS (l : List Slot) (fd : Int) : Cap × Int :=
  match (if 0 ≤ fd then l[fd.toNat]? else none) with
  | some s => if s.has then (s.cap, 0) else (⟨0, 0⟩, 6)
  | none => (⟨0, 0⟩, 6)
theorem l34 : lowF Try.prog Try.f34 = some c34 := by kernel_rfl
set_option maxRecDepth 100000 in
theorem clone_body (l : List Slot) (hb : l.length ≤ 2097152) : body Try.prog c34 [slotsV l] [] (fun r m => FrzV m r (slotsV l)) := by
  have big : ((([] : List (List CC)).length + ((l.map Slot.enc).map fun ds => ds.map CC.dat).length) * 24) ≤ 140737488355328 := by simp; omega
  have fr : ∀ m : Mem, m[1]? = some (.row 3 ([] ++ ((l.map Slot.enc).map fun ds => ds.map CC.dat))) → FrzV m (.rv (.one (.row 1 3 0 none))) (slotsV l) := fun m hm =>
    .rv (.one (FrzC.rowD (by simpa using hm) 0 none))
  refine bB_split (fun h => ?_) (fun h => ?_)
  · have hl : l = [] := List.eq_nil_of_length_eq_zero (by simpa using Nat.eq_of_beq_eq_true h)
    refine ⟨?_, ?_⟩
    · show FrzV _ (.rv (.one .esl)) (slotsV l)
      rw [hl]
      exact .rv (.one (.esl 3))
    · refine ⟨big, ?_⟩
      exact fr _ rfl
  · refine ⟨big, ?_⟩
    exact fr _ rfl
theorem clone_ok (l : List Slot) (hb : l.length ≤ 2097152) {m : Mem} {K : CV → Mem → Prop} (h : K (slotsV l) m) : ACall Try.prog 34 [slotsV l] m K :=
  acall_frame (acall_body Try.func34 l34 rfl (Nat.le_of_ble_eq_true rfl) (clone_body l hb)) (by simp [slotsV, CV.isD, CC.isD]) fun r m1 hf => ⟨_, hf, h⟩

theorem l55 : lowF Try.prog Try.f55 = some c55 := by kernel_rfl
theorem l56 : lowF Try.prog Try.f56 = some c56 := by kernel_rfl
theorem l57 : lowF Try.prog Try.f57 = some c57 := by kernel_rfl
def rightB (n : Int) : Bool := decide (n ≥ 0) && decide (n ≤ 4095)
set_option maxRecDepth 100000 in
theorem right_body (n : Int) : body Try.prog c55 [vInt .i64 n] [] (fun r m => r = vBool (rightB n)) := by
  refine bB_split (fun h => ?_) (fun h => ?_)
  · show vBool _ = vBool _
    unfold rightB; rw [h]; rfl
  · show vBool _ = vBool _
    unfold rightB; rw [h]; rfl
theorem right_ok (n : Int) {m : Mem} {K : CV → Mem → Prop} (h : K (vBool (rightB n)) m) : ACall Try.prog 55 [vInt .i64 n] m K :=
  acall_val Try.func55 l55 rfl (Nat.le_of_ble_eq_true rfl) (right_body n) rfl rfl h
def Slot.cv (s : Slot) : CV := .rv (.agg (s.enc.map .dat))
set_option maxRecDepth 100000 in
theorem free_body (s : Slot) : body Try.prog c57 [s.cv] [] (fun r m => r = vBool (!s.has)) := by
  show vBool _ = vBool _
  rfl
theorem free_ok (s : Slot) {m : Mem} {K : CV → Mem → Prop} (h : K (vBool (!s.has)) m) : ACall Try.prog 57 [s.cv] m K :=
  acall_val Try.func57 l57 rfl (Nat.le_of_ble_eq_true rfl) (free_body s) rfl rfl h
def idxOf {α : Type} (p : α → Bool) (l : List α) : Int := match l.findIdx? p with | some i => (i : Int) | none => -1
set_option maxRecDepth 100000 in
set_option maxHeartbeats 1000000 in
theorem index_body (l : List Slot) (hb : l.length ≤ 2097152) (f : Nat) (p : Slot → Bool) (hf : ∀ (s : Slot) (m : Mem) (K : CV → Mem → Prop), K (vBool (p s)) m → ACall Try.prog f [s.cv] m K) :
    body Try.prog c56 [slotsV l, .rv (.one (.fn f []))] [] (fun r m => r = vInt .i64 (idxOf p l)) := by
  refine loop_upd (fun k => k ≤ l.length ∧ ∀ (i : Nat) s, i < k → l[i]? = some s → p s = false) (fun k => [(8, vInt .i64 (k : Nat)), (5, .junk), (9, .junk), (10, .junk), (11, .junk), (12, .junk), (13, .junk), (14, .junk), (15, .junk), (16, .junk), (17, .junk), (18, .junk)])
    (fun _ => []) (fun k => l.length - k) 0 ⟨Nat.zero_le _, fun i s h => absurd h (Nat.not_lt_zero i)⟩ (weak_env (Nat.zero_le _) ?_) (fun k hk => ?_)
  · repeat (first | exact .nil | refine .junk ?_ | refine .keep ?_)
  · refine bB_split (fun h => ?_) (fun h => ?_)
    · have hlt : k < l.length := by
        have h : (k : Int) < ((l.map Slot.enc).length : Int) := of_decide_eq_true h
        simp at h
        omega
      have hg : getZ (l.map Slot.enc) (k : Nat) = some (l[k].enc) := by
        rw [getZ_nat, List.getElem?_map, List.getElem?_eq_getElem hlt]; rfl
      refine ok_some hg ?_
      refine hf l[k] _ _ ?_
      refine bB_split (fun h3 => ?_) (fun h3 => ?_)
      · show vInt _ _ = vInt _ _
        have : l.findIdx? p = some k := by
          rw [List.findIdx?_eq_some_iff_getElem]
          refine ⟨hlt, h3, fun j hj => ?_⟩
          have := hk.2 j l[j] hj (List.getElem?_eq_getElem (by omega))
          simp [this]
        rw [idxOf, this]
      · refine ⟨k + 1, ⟨hlt, fun i s hi hs => ?_⟩, ?_, weak_env (Nat.zero_le _) ?_⟩
        · rcases Nat.lt_or_ge i k with h5 | h5
          · exact hk.2 i s h5 hs
          · have : i = k := by omega
            subst this
            rw [List.getElem?_eq_getElem hlt] at hs
            cases hs
            exact h3
        · show l.length - (k + 1) < l.length - k
          omega
        · repeat (first | exact .nil | refine .junk ?_ | refine .put (next_i64 (by omega)) ?_ | refine .keep ?_)
    · have hge : ¬ (k : Int) < ((l.map Slot.enc).length : Int) := of_decide_eq_false h
      simp at hge
      show vInt _ _ = vInt _ _
      have : l.findIdx? p = none := by
        rw [List.findIdx?_eq_none_iff]
        intro s hs
        obtain ⟨i, hi⟩ := List.getElem?_of_mem hs
        have := (List.getElem?_eq_some_iff.1 hi).1
        simpa using hk.2 i s (by omega) hi
      rw [idxOf, this]
theorem index_ok (l : List Slot) (hb : l.length ≤ 2097152) (f : Nat) (p : Slot → Bool) (hf : ∀ (s : Slot) (m : Mem) (K : CV → Mem → Prop), K (vBool (p s)) m → ACall Try.prog f [s.cv] m K) {m : Mem} {K : CV → Mem → Prop}
    (h : K (vInt .i64 (idxOf p l)) m) : ACall Try.prog 56 [slotsV l, .rv (.one (.fn f []))] m K :=
  acall_val Try.func56 l56 rfl (Nat.le_of_ble_eq_true rfl) (index_body l hb f p hf) rfl rfl h

def slotRows (l : List Slot) : List (List CC) := (l.map Slot.enc).map fun ds => ds.map CC.dat
set_option maxRecDepth 100000 in
theorem clone_body2 (l : List Slot) (hb : l.length ≤ 2097152) : body Try.prog c34 [slotsV l] [] (fun r m => (l = [] ∧ r = .rv (.one .esl)) ∨ (r = .rv (.one (.row 1 3 0 none)) ∧ m[1]? = some (.row 3 ([] ++ slotRows l)))) := by
  have big : ((([] : List (List CC)).length + ((l.map Slot.enc).map fun ds => ds.map CC.dat).length) * 24) ≤ 140737488355328 := by simp; omega
  refine bB_split (fun h => ?_) (fun h => ?_)
  · have hl : l = [] := List.eq_nil_of_length_eq_zero (by simpa using Nat.eq_of_beq_eq_true h)
    exact ⟨.inl ⟨hl, rfl⟩, big, .inr ⟨rfl, rfl⟩⟩
  · exact ⟨big, .inr ⟨rfl, rfl⟩⟩
theorem clone_row (l : List Slot) (hb : l.length ≤ 2097152) {m : Mem} {K : CV → Mem → Prop} (h1 : l = [] → K (.rv (.one .esl)) m) (h2 : K (.rv (.one (.row m.length 3 0 none))) (m ++ [.row 3 (slotRows l)])) :
    ACall Try.prog 34 [slotsV l] m K := by
  refine acall_row (acall_body Try.func34 l34 rfl (Nat.le_of_ble_eq_true rfl) (clone_body2 l hb)) (by simp [slotsV, CV.isD, CC.isD]) fun r m1 hr => ?_
  rcases hr with ⟨hl, rfl⟩ | ⟨rfl, hm⟩
  · exact .inl ⟨rfl, h1 hl⟩
  · refine .inr ⟨1, 3, slotRows l, rfl, by simpa using hm, fun cs hcs c hc => ?_, fun i cs j d hi hj => ?_, h2⟩
    · simp only [slotRows, List.mem_map] at hcs
      obtain ⟨ds, ⟨s, _, rfl⟩, rfl⟩ := hcs
      obtain ⟨d, _, rfl⟩ := List.mem_map.1 hc
      exact ⟨d, rfl⟩
    · have hcs := List.mem_of_getElem? hi
      simp only [slotRows, List.mem_map] at hcs
      obtain ⟨ds, ⟨s, _, rfl⟩, rfl⟩ := hcs
      have hd := List.mem_of_getElem? hj
      simp only [Slot.enc, List.map_cons, List.map_nil, List.mem_cons, CC.dat.injEq, List.not_mem_nil, or_false] at hd
      rcases hd with rfl | rfl | rfl <;> exact ⟨_, rfl⟩

theorem l39 : lowF Try.prog Try.f39 = some c39 := by kernel_rfl
def putAt (l : List Slot) (c : Cap) (k : Nat) : List Slot := if k < l.length then l.set k ⟨true, c⟩ else l ++ [⟨true, c⟩]
def Cap.cv (c : Cap) : CV := .rv c.rv
set_option maxRecDepth 100000 in
set_option maxHeartbeats 1000000 in
/-- what Put answers -/
def putS (l : List Slot) (c : Cap) : List Slot × Int × Int :=
  if rightB c.rts = false ∨ c.opn < 0 then ([], 0, 3) else
  match l.findIdx? (fun s => !s.has) with
  | some k => (l.set k ⟨true, c⟩, k, 0)
  | none => if l.length ≥ 10 then ([], 0, 15) else (l ++ [⟨true, c⟩], l.length, 0)
def slotsR (l : List Slot) : RV := .one (.dat (slotsD l))
theorem frz3 {m : Mem} {a b : RV} {x y : Int} (h : FrzR m a b) : FrzV m (.tup [a, iRV x, iRV y]) (.tup [b, iRV x, iRV y]) := by
  refine .tup rfl fun i r r' h1 h2 => ?_
  match i, h1, h2 with
  | 0, h1, h2 => cases h1; cases h2; exact h
  | 1, h1, h2 => cases h1; cases h2; exact FrzR.self rfl
  | 2, h1, h2 => cases h1; cases h2; exact FrzR.self rfl
theorem put_bad {l : List Slot} {c : Cap} {m : Mem} (h : rightB c.rts = false ∨ c.opn < 0) : FrzV m (.tup [.one .esl, iRV 0, iRV 3]) (.tup [slotsR (putS l c).1, iRV (putS l c).2.1, iRV (putS l c).2.2]) := by
  rw [putS, if_pos h]; exact frz3 (.one (.esl 3))
theorem put_full {l : List Slot} {c : Cap} {m : Mem} (h : ¬ (rightB c.rts = false ∨ c.opn < 0)) (hk : l.findIdx? (fun s => !s.has) = none) (hl : l.length ≥ 10) :
    FrzV m (.tup [.one .esl, iRV 0, iRV 15]) (.tup [slotsR (putS l c).1, iRV (putS l c).2.1, iRV (putS l c).2.2]) := by
  rw [putS, if_neg h, hk]; simp only; rw [if_pos hl]; exact frz3 (.one (.esl 3))
theorem put_new {l : List Slot} {c : Cap} {m : Mem} {id : Nat} (h : ¬ (rightB c.rts = false ∨ c.opn < 0)) (hk : l.findIdx? (fun s => !s.has) = none) (hl : ¬ l.length ≥ 10) (hm : m[id]? = some (.row 3 (slotRows (l ++ [⟨true, c⟩])))) :
    FrzV m (.tup [.one (.row id 3 0 none), iRV ((l.map Slot.enc).length : Nat), iRV 0]) (.tup [slotsR (putS l c).1, iRV (putS l c).2.1, iRV (putS l c).2.2]) := by
  rw [putS, if_neg h, hk, List.length_map]; simp only; rw [if_neg hl]; exact frz3 (.one (FrzC.rowD hm 0 none))
theorem put_old {l : List Slot} {c : Cap} {m : Mem} {id k : Nat} (h : ¬ (rightB c.rts = false ∨ c.opn < 0)) (hk : l.findIdx? (fun s => !s.has) = some k) (hm : m[id]? = some (.row 3 (slotRows (l.set k ⟨true, c⟩)))) :
    FrzV m (.tup [.one (.row id 3 0 none), iRV k, iRV 0]) (.tup [slotsR (putS l c).1, iRV (putS l c).2.1, iRV (putS l c).2.2]) := by
  rw [putS, if_neg h, hk]; exact frz3 (.one (FrzC.rowD hm 0 none))

set_option maxRecDepth 100000 in
set_option maxHeartbeats 2000000 in
theorem put_body (l : List Slot) (hb : l.length ≤ 2097152) (c : Cap) : body Try.prog c39 [slotsV l, .rv c.rv] [] (fun r m => FrzV m r (.tup [slotsR (putS l c).1, iRV (putS l c).2.1, iRV (putS l c).2.2])) := by
  refine right_ok c.rts ?_
  refine bB_split (fun h => ?_) (fun hr => ?_)
  · exact put_bad (.inl (by simpa using h))
  · refine bB_split (fun h => ?_) (fun ho => ?_)
    · exact put_bad (.inr (of_decide_eq_true h))
    · have hok : ¬ (rightB c.rts = false ∨ c.opn < 0) := by
        have := of_decide_eq_false ho
        simp at hr
        simp [hr]
        omega
      refine index_ok l hb 57 (fun s => !s.has) (fun s m K h => free_ok s h) ?_
      cases hk : l.findIdx? (fun s => !s.has) with
      | none =>
        have hi : idxOf (fun s : Slot => !s.has) l = -1 := by rw [idxOf, hk]
        rw [hi]
        refine bB_split (fun h => ?_) (fun h => ?_)
        · have hge : l.length ≥ 10 := by
            have h := of_decide_eq_true h
            simp at h
            omega
          exact put_full hok hk hge
        · have hlt : ¬ l.length ≥ 10 := by
            have h := of_decide_eq_false h
            simp at h
            omega
          refine clone_row l hb (fun hl => ?_) ?_
          · subst hl
            refine ⟨by decide, ?_⟩
            exact put_new hok hk hlt rfl
          · refine bB_yes (by simp [slotRows, lenOf]) ?_
            refine ⟨by simp [slotRows, subL]; omega, ?_⟩
            have hlen : (slotRows l).length = l.length := by simp [slotRows]
            refine ok_some (idxZ_nat (k := (l.map Slot.enc).length) (by simp [slotRows, lenOf, subL])) ?_
            refine ok_some (x := [CC.dat (.val (.bool false)), CC.dat (.val (.int .i64 0)), CC.dat (.val (.int .i64 0))]) (by simp [nth_eq, slotRows, subL, addN]) ?_
            refine put_new (id := 3) hok hk hlt ?_
            refine congrArg (fun x => some (Bk.row 3 x)) ?_
            show setN (slotRows l ++ [[CC.dat (.val (.bool false)), CC.dat (.val (.int .i64 0)), CC.dat (.val (.int .i64 0))]]) (l.map Slot.enc).length [CC.dat (.val (.bool true)), CC.dat (.val (.int .i64 c.opn)), CC.dat (.val (.int .i64 c.rts))] = _
            rw [setN_eq, List.length_map, ← hlen, List.set_append_right _ _ (Nat.le_refl _), Nat.sub_self]
            simp [slotRows, Slot.enc]
      | some k =>
        have hi : idxOf (fun s : Slot => !s.has) l = (k : Int) := by rw [idxOf, hk]
        have hkl : k < l.length := (List.findIdx?_eq_some_iff_getElem.1 hk).1
        rw [hi]
        refine clone_row l hb (fun hl => ?_) ?_
        · subst hl; simp at hkl
        · have hlen : (slotRows l).length = l.length := by simp [slotRows]
          refine bB_no (by simp [hlen, lenOf]; omega) ?_
          refine ok_some (idxZ_nat (k := k) (by simp [hlen, lenOf]; omega)) ?_
          refine ok_some (x := (l[k].enc).map .dat) (by simp [nth_eq, slotRows, addN, hkl]) ?_
          refine put_old (id := 1) hok hk ?_
          refine congrArg (fun x => some (Bk.row 3 x)) ?_
          show setN (slotRows l) k [CC.dat (.val (.bool true)), CC.dat (.val (.int .i64 c.opn)), CC.dat (.val (.int .i64 c.rts))] = _
          rw [setN_eq]
          simp [slotRows, Slot.enc]
theorem put_ok (l : List Slot) (hb : l.length ≤ 2097152) (c : Cap) {m : Mem} {K : CV → Mem → Prop} (h : K (.tup [slotsR (putS l c).1, iRV (putS l c).2.1, iRV (putS l c).2.2]) m) : ACall Try.prog 39 [slotsV l, .rv c.rv] m K :=
  acall_frame (acall_body Try.func39 l39 rfl (Nat.le_of_ble_eq_true rfl) (put_body l hb c)) (by simp [slotsV, Cap.rv, CV.isD, CC.isD]) fun r m1 hf => ⟨_, hf, h⟩

theorem l12 : lowF Try.prog Try.f12 = some c12 := by kernel_rfl
set_option maxRecDepth 100000 in
theorem rget_body (l : List Slot) (fd : Int) : body Try.prog c12 [slotsV l, vInt .i64 fd] [] (fun r m => r = .tup [(getS l fd).1.rv, iRV (getS l fd).2]) := by
  refine bB_split (fun h => ?_) (fun h => ?_)
  · have h : fd < 0 := of_decide_eq_true h
    show CV.tup _ = CV.tup _
    rw [getS, if_neg (by omega)]; rfl
  · have h : ¬ fd < 0 := of_decide_eq_false h
    refine bB_split (fun h2 => ?_) (fun h2 => ?_)
    · have h2 : fd ≥ ((l.map Slot.enc).length : Int) := of_decide_eq_true h2
      simp at h2
      show CV.tup _ = CV.tup _
      rw [getS, if_pos (by omega), List.getElem?_eq_none (by omega)]; rfl
    · have h2 : ¬ fd ≥ ((l.map Slot.enc).length : Int) := of_decide_eq_false h2
      simp at h2
      have hlt : fd.toNat < l.length := by omega
      have hg : getZ (l.map Slot.enc) fd = some (l[fd.toNat].enc) := by
        rw [getZ_eq, if_pos (by omega), List.getElem?_map, List.getElem?_eq_getElem hlt]; rfl
      have hs : getS l fd = if l[fd.toNat].has then (l[fd.toNat].cap, 0) else (⟨0, 0⟩, 6) := by
        rw [getS, if_pos (by omega), List.getElem?_eq_getElem hlt]
      refine ok_some hg ?_
      refine bB_split (fun h3 => ?_) (fun h3 => ?_)
      · have h3 : l[fd.toNat].has = false := by simpa using h3
        show CV.tup _ = CV.tup _
        rw [hs, h3]; rfl
      · have h3 : l[fd.toNat].has = true := by simpa using h3
        refine ok_some hg ?_
        show CV.tup _ = CV.tup _
        rw [hs, h3]; rfl
theorem rget_ok (l : List Slot) (fd : Int) {m : Mem} {K : CV → Mem → Prop} (h : K (.tup [(getS l fd).1.rv, iRV (getS l fd).2]) m) : ACall Try.prog 12 [slotsV l, vInt .i64 fd] m K :=
  acall_val Try.func12 l12 rfl (Nat.le_of_ble_eq_true rfl) (rget_body l fd) rfl rfl h
/-- what Dup answers -/
def dupS (l : List Slot) (fd : Int) : List Slot × Int × Int := if (getS l fd).2 = 0 then putS l (getS l fd).1 else ([], 0, (getS l fd).2)
end Tb

namespace Tb
def withinB (a b : Int) : Bool := (IntKind.i64.wrap ((BitVec.ofInt 64 a &&& ~~~ BitVec.ofInt 64 b).toNat : Int)) == 0
def withS (l : List Slot) (fd need : Int) : Cap × Int :=
  if (getS l fd).2 = 0 ∧ withinB need (getS l fd).1.rts = false then (⟨0, 0⟩, 10) else getS l fd
/-! All -/
def intsD (l : List Int) : List (List Dt) := l.map fun i => [.val (.int .i64 i)]
def intsV (l : List Int) : CV := .rv (.one (.dat (.sl 1 (intsD l))))
def allS : Nat → List Slot → List Int
  | _, [] => []
  | k, s :: r => if s.has then (k : Int) :: allS (k + 1) r else allS (k + 1) r
theorem allS_len : ∀ (l : List Slot) (k : Nat), (allS k l).length ≤ l.length
  | [], k => by simp [allS]
  | s :: r, k => by
    have := allS_len r (k + 1)
    simp only [allS]
    split <;> simp <;> omega
theorem allS_take (l : List Slot) (k i : Nat) (h : i < l.length) : allS k (l.take (i + 1)) = if l[i].has then allS k (l.take i) ++ [((k + i : Nat) : Int)] else allS k (l.take i) := by
  induction l generalizing k i with
  | nil => simp at h
  | cons s r ih =>
    cases i with
    | zero => simp [allS]
    | succ i =>
      simp at h
      have := ih (k + 1) i h
      rw [show k + 1 + i = k + (i + 1) by omega] at this
      simp only [List.take_succ_cons, allS, this, List.getElem_cons_succ]
      split <;> split <;> simp
/-! SameSlots -/
theorem l11 : lowF Try.prog Try.f11 = some c11 := by kernel_rfl
def eqSlot (a b : Slot) : Bool := a.has == b.has && (a.cap.opn == b.cap.opn && a.cap.rts == b.cap.rts)
def sameS : List Slot → List Slot → Bool
  | [], [] => true
  | a :: r, b :: s => eqSlot a b && sameS r s
  | _, _ => false
theorem sameS_refl : ∀ l, sameS l l = true
  | [] => rfl
  | a :: r => by simp [sameS, eqSlot, sameS_refl r]
theorem sameS_len : ∀ (l k : List Slot), l.length ≠ k.length → sameS l k = false
  | [], [], h => by simp at h
  | [], _ :: _, _ => rfl
  | _ :: _, [], _ => rfl
  | a :: r, b :: s, h => by simp [sameS, sameS_len r s (by simpa using h)]
theorem sameS_of : ∀ (l k : List Slot), l.length = k.length → (∀ (i : Nat) a b, l[i]? = some a → k[i]? = some b → eqSlot a b = true) → sameS l k = true
  | [], [], _, _ => rfl
  | [], _ :: _, h, _ => by simp at h
  | _ :: _, [], h, _ => by simp at h
  | a :: r, b :: s, h, he => by
    simp only [sameS, he 0 a b rfl rfl, Bool.true_and]
    exact sameS_of r s (by simpa using h) fun i x y hx hy => he (i + 1) x y (by simpa using hx) (by simpa using hy)
theorem sameS_not : ∀ (l k : List Slot) (i : Nat) a b, l[i]? = some a → k[i]? = some b → eqSlot a b = false → sameS l k = false
  | [], _, i, a, b, h, _, _ => by simp at h
  | _ :: _, [], i, a, b, _, h, _ => by simp at h
  | x :: r, y :: s, 0, a, b, h1, h2, h => by simp at h1 h2; subst h1; subst h2; simp [sameS, h]
  | x :: r, y :: s, i + 1, a, b, h1, h2, h => by simp [sameS, sameS_not r s i a b (by simpa using h1) (by simpa using h2) h]
set_option maxRecDepth 100000 in
set_option maxHeartbeats 1000000 in
theorem same_body (l k : List Slot) (hb : l.length ≤ 2097153) : body Try.prog c11 [slotsV l, slotsV k] [] (fun r m => r = vBool (sameS l k)) := by
  refine bB_split (fun h => ?_) (fun h => ?_)
  · have h : ¬ l.length = k.length := by
      have := h
      simp at this
      omega
    show vBool _ = vBool _
    rw [sameS_len l k h]
  · have hlk : l.length = k.length := by
      have := h
      simp at this
      omega
    refine loop_mem (fun i => i ≤ l.length ∧ ∀ (j : Nat) a b, j < i → l[j]? = some a → k[j]? = some b → eqSlot a b = true) (fun i => [(13, vInt .i64 (i : Nat)), (5, .junk), (14, .junk), (15, .junk), (16, .junk), (17, .junk), (18, .junk), (19, .junk), (20, .junk), (21, .junk), (22, .junk), (23, .junk), (24, .junk), (25, .junk)])
      (fun i => []) (fun i => l.length - i) 0 ⟨Nat.zero_le _, fun j a b h => absurd h (Nat.not_lt_zero j)⟩ (weak_env (Nat.zero_le _) ?_) (fun i hi => ?_)
    · repeat (first | exact .nil | refine .junk ?_ | refine .keep ?_)
    · refine bB_split (fun h => ?_) (fun h => ?_)
      · have hlt : i < l.length := by
          have h : (i : Int) < ((l.map Slot.enc).length : Int) := of_decide_eq_true h
          simp at h
          omega
        have hg : getZ (l.map Slot.enc) (i : Nat) = some (l[i].enc) := by
          rw [getZ_nat, List.getElem?_map, List.getElem?_eq_getElem hlt]; rfl
        have hg2 : getZ (k.map Slot.enc) (i : Nat) = some ((k[i]'(by omega)).enc) := by
          rw [getZ_nat, List.getElem?_map, List.getElem?_eq_getElem (by omega)]; rfl
        refine ok_some hg ?_
        refine ok_some hg2 ?_
        refine bB_split (fun h3 => ?_) (fun h3 => ?_)
        · show vBool _ = vBool _
          rw [sameS_not l k i _ _ (List.getElem?_eq_getElem hlt) (List.getElem?_eq_getElem (by omega)) ?_]
          have h3 : (!(l[i].has == (k[i]'(by omega)).has && (l[i].cap.opn == (k[i]'(by omega)).cap.opn && (l[i].cap.rts == (k[i]'(by omega)).cap.rts && true)))) = true := h3
          cases he : eqSlot l[i] (k[i]'(by omega))
          · rfl
          · unfold eqSlot at he
            rw [Bool.and_true, he] at h3
            cases h3
        · refine ⟨i + 1, ⟨hlt, fun j a b hj ha hb => ?_⟩, ?_, weak_env (Nat.zero_le _) ?_⟩
          · rcases Nat.lt_or_ge j i with h5 | h5
            · exact hi.2 j a b h5 ha hb
            · have : j = i := by omega
              subst this
              rw [List.getElem?_eq_getElem hlt] at ha
              rw [List.getElem?_eq_getElem (by omega)] at hb
              cases ha; cases hb
              have h3 : (!(l[j].has == (k[j]'(by omega)).has && (l[j].cap.opn == (k[j]'(by omega)).cap.opn && (l[j].cap.rts == (k[j]'(by omega)).cap.rts && true)))) = false := h3
              simpa [eqSlot] using h3
          · show l.length - (i + 1) < l.length - i
            omega
          · repeat (first | exact .nil | refine .junk ?_ | refine .put (next_i64 (by omega)) ?_ | refine .keep ?_)
      · have hge : ¬ (i : Int) < ((l.map Slot.enc).length : Int) := of_decide_eq_false h
        simp at hge
        show vBool _ = vBool _
        rw [sameS_of l k hlk fun j a b ha hb => hi.2 j a b (by have := (List.getElem?_eq_some_iff.1 ha).1; omega) ha hb]
theorem same_ok (l k : List Slot) (hb : l.length ≤ 2097153) {m : Mem} {K : CV → Mem → Prop} (h : K (vBool (sameS l k)) m) : ACall Try.prog 11 [slotsV l, slotsV k] m K :=
  acall_val Try.func11 l11 rfl (Nat.le_of_ble_eq_true rfl) (same_body l k hb) rfl rfl h

/-! Close -/
def lastG : Nat → Nat → List Slot → Nat
  | _, b, [] => b
  | k, b, s :: r => lastG (k + 1) (if s.has then k + 1 else b) r
theorem lastG_take (l : List Slot) (k b i : Nat) (h : i < l.length) : lastG k b (l.take (i + 1)) = if l[i].has then k + i + 1 else lastG k b (l.take i) := by
  induction l generalizing k b i with
  | nil => simp at h
  | cons s r ih =>
    cases i with
    | zero => simp [lastG]
    | succ i =>
      simp at h
      have := ih (k + 1) (if s.has then k + 1 else b) i h
      rw [show k + 1 + i = k + (i + 1) by omega] at this
      simp only [List.take_succ_cons, lastG, this, List.getElem_cons_succ]
def lastN (l : List Slot) : Nat := lastG 0 0 l
theorem lastN_take (l : List Slot) (i : Nat) (h : i < l.length) : lastN (l.take (i + 1)) = if l[i].has then i + 1 else lastN (l.take i) := by
  rw [lastN, lastG_take l 0 0 i h]; simp [lastN]
theorem lastN_take' {l : List Slot} {i : Nat} {s : Slot} (h : l[i]? = some s) : lastN (l.take (i + 1)) = if s.has then i + 1 else lastN (l.take i) := by
  obtain ⟨hi, rfl⟩ := List.getElem?_eq_some_iff.1 h
  exact lastN_take l i hi
theorem takeS {α : Type} {l : List α} {i : Nat} {s : α} (h : l[i]? = some s) : l.take (i + 1) = l.take i ++ [s] := by
  rw [List.take_add_one, h]; rfl
theorem lastG_le : ∀ (l : List Slot) (k b : Nat), b ≤ k → lastG k b l ≤ k + l.length
  | [], k, b, h => by simp [lastG]; exact h
  | s :: r, k, b, h => by
    have := lastG_le r (k + 1) (if s.has then k + 1 else b) (by split <;> omega)
    simp only [lastG, List.length_cons]
    omega
theorem lastN_le (l : List Slot) : lastN l ≤ l.length := by
  have := lastG_le l 0 0 (Nat.le_refl 0)
  simpa [lastN] using this
def noSlot : Slot := ⟨false, ⟨0, 0⟩⟩
def closeS (l : List Slot) (fd : Int) : List Slot × Int :=
  if (getS l fd).2 = 0 then ((l.set fd.toNat noSlot).take (lastN (l.set fd.toNat noSlot)), 0) else ([], (getS l fd).2)
theorem getS_ok {l : List Slot} {fd : Int} (h : (getS l fd).2 = 0) : ∃ k : Nat, fd = k ∧ ∃ hk : k < l.length, l[k].has = true ∧ (getS l fd).1 = l[k].cap := by
  unfold getS at h
  split at h
  · rename_i s hs
    split at hs
    · refine ⟨fd.toNat, by omega, (List.getElem?_eq_some_iff.1 hs).1, ?_⟩
      have e := (List.getElem?_eq_some_iff.1 hs).2
      split at h
      · rename_i h0 hh
        rw [e]
        refine ⟨hh, ?_⟩
        rw [getS, if_pos h0, hs]; simp [hh]
      · simp at h
    · cases hs
  · simp at h
theorem frz2 {m : Mem} {a b : RV} {x : Int} (h : FrzR m a b) : FrzV m (.tup [a, iRV x]) (.tup [b, iRV x]) := by
  refine .tup rfl fun i r r' h1 h2 => ?_
  match i, h1, h2 with
  | 0, h1, h2 => cases h1; cases h2; exact h
  | 1, h1, h2 => cases h1; cases h2; exact FrzR.self rfl
theorem slotRows_eq (l : List Slot) : slotRows l = dRows (l.map Slot.enc) := rfl
theorem frz_take {m : Mem} {id h : Nat} {l : List Slot} (hm : m[id]? = some (.row 3 (dRows (l.map Slot.enc)))) : FrzC m (.row id 3 0 (some h)) (.dat (slotsD (l.take h))) := by
  have h1 : FrzC m (.row id 3 0 (some h)) (.dat (.sl 3 (subL (l.map Slot.enc) 0 (some h)))) := FrzC.rowD hm 0 (some h)
  have h2 : subL (l.map Slot.enc) 0 (some h) = (l.take h).map Slot.enc := by simp [subL, List.map_take]
  rw [h2] at h1
  exact h1
/-! the document's Close -/
theorem l14 : lowF Try.prog Try.f14 = some c14 := by kernel_rfl
def cut1 (l : List Slot) (fd : Nat) (k : Nat) : List Slot := (l.take k).set fd noSlot
theorem set_take {α : Type} (l : List α) (fd k : Nat) (x : α) : (l.take k).set fd x = (l.set fd x).take k := by
  rw [List.take_set]
set_option maxRecDepth 100000 in
set_option maxHeartbeats 2000000 in
theorem rclose_body (l : List Slot) (hb : l.length ≤ 2097152) (fd : Int) : body Try.prog c14 [slotsV l, vInt .i64 fd] [] (fun r m => FrzV m r (.tup [slotsR (closeS l fd).1, iRV (closeS l fd).2])) := by
  refine rget_ok l fd ?_
  refine bB_split (fun h => ?_) (fun h => ?_)
  · have h : ¬ (getS l fd).2 = 0 := by simpa using h
    rw [closeS, if_neg h]
    exact frz2 (.one (.esl 3))
  · have h : (getS l fd).2 = 0 := by simpa using h
    rw [closeS, if_pos h]
    obtain ⟨d, rfl, hd, hhas, _⟩ := getS_ok h
    rw [show ((d : Nat) : Int).toNat = d from rfl]
    have hl2 : (l.set d noSlot).length = l.length := by simp
    have hl3 : ∀ k (hk : k < l.length), (l.set d noSlot)[k]? = some (if k = d then noSlot else l[k]) := by
      intro k hk
      rw [List.getElem?_set]
      by_cases e : d = k
      · rw [if_pos e, if_pos hd, if_pos e.symm]
      · rw [if_neg e, if_neg (fun h => e h.symm), List.getElem?_eq_getElem hk]
    generalize l.set d noSlot = l2 at hl2 hl3
    refine loop_mem (fun k => k ≤ l.length) (fun k => [(23, vInt .i64 (k : Nat)), (8, .rv (.one (.row 1 3 0 none))), (9, vInt .i64 (lastN (l2.take k) : Nat)), (10, .junk), (11, .junk), (24, .junk), (25, .junk), (26, .junk), (27, .junk), (28, .junk), (29, .junk), (30, .junk), (31, .junk), (32, .junk), (33, .junk), (34, .junk), (35, .junk), (36, .junk), (37, .junk), (38, .junk), (39, .junk), (40, .junk), (6, .junk)])
      (fun k => [.dead, .row 3 (dRows ((l2.take k).map Slot.enc))]) (fun k => l.length - k) 0 (Nat.zero_le _) ?_ (fun k hk => ?_)
    · refine View.trans (View.esl 8 3 1 rfl rfl rfl) (View.of 2 [0, 1] [] rfl rfl rfl rfl rfl rfl ?_ ?_)
      · repeat (first | exact .nil | refine .junk ?_ | refine .eq rfl ?_)
      · exact .dead (.put (by simp [memN]) rfl (.rowDE rfl) (.nil _))
    · refine bB_split (fun h => ?_) (fun h => ?_)
      · have hlt : k < l.length := by
          have h : (k : Int) < ((l.map Slot.enc).length : Int) := of_decide_eq_true h
          simp at h
          omega
        have hg : getZ (l.map Slot.enc) (k : Nat) = some (l[k].enc) := by
          rw [getZ_nat, List.getElem?_map, List.getElem?_eq_getElem hlt]; rfl
        have ht := lastN_take' (hl3 k hlt)
        have htk := takeS (hl3 k hlt)
        have hbig : ((dRows ((l2.take k).map Slot.enc)).length + 1) * 24 ≤ 140737488355328 := by simp [dRows]; omega
        refine ok_some hg ?_
        refine bB_split (fun h3 => ?_) (fun h3 => ?_)
        · have h3 : k = d := by
            have h3 : ((k : Int) == (d : Int)) = true := h3
            simp at h3
            omega
          rw [if_pos h3] at ht htk
          refine ⟨hbig, ?_⟩
          refine ⟨k + 1, hlt, ?_, View.of 5 [0, 4] [] rfl rfl rfl rfl rfl rfl ?_ ?_⟩
          · show l.length - (k + 1) < l.length - k
            omega
          · repeat (first | exact .nil | refine .junk ?_ | refine .put (.ren (next_i64 (by omega)).symm) ?_ | refine .eq rfl ?_ | refine .eq (congrArg (fun x : Nat => vInt .i64 (x : Int)) ht) ?_)
          · refine .dead (.put (by simp [memN]) rfl (.rowDE ?_) (.nil _))
            rw [htk]
            simp [dRows, subL, Slot.enc, noSlot]
        · have h3 : ¬ k = d := by
            have h3 : ((k : Int) == (d : Int)) = false := h3
            simp at h3
            omega
          rw [if_neg h3] at ht htk
          refine ⟨hbig, ?_⟩
          refine bB_split (fun h4 => ?_) (fun h4 => ?_)
          · rw [if_pos h4] at ht
            refine ⟨k + 1, hlt, ?_, View.of 5 [0, 4] [] rfl rfl rfl rfl rfl rfl ?_ ?_⟩
            · show l.length - (k + 1) < l.length - k
              omega
            · repeat (first | exact .nil | refine .junk ?_ | refine .put (.ren (next_i64 (by omega)).symm) ?_ | refine .eq rfl ?_ | refine .eq ((congrArg (fun x : Nat => vInt .i64 (x : Int)) ht).trans (next_i64 (by omega)).symm) ?_)
            · refine .dead (.put (by simp [memN]) rfl (.rowDE ?_) (.nil _))
              rw [htk]
              simp [dRows, subL, Slot.enc]
          · rw [if_neg (by simp [h4])] at ht
            refine ⟨k + 1, hlt, ?_, View.of 5 [0, 4] [] rfl rfl rfl rfl rfl rfl ?_ ?_⟩
            · show l.length - (k + 1) < l.length - k
              omega
            · repeat (first | exact .nil | refine .junk ?_ | refine .put (.ren (next_i64 (by omega)).symm) ?_ | refine .eq rfl ?_ | refine .eq (congrArg (fun x : Nat => vInt .i64 (x : Int)) ht) ?_)
            · refine .dead (.put (by simp [memN]) rfl (.rowDE ?_) (.nil _))
              rw [htk]
              simp [dRows, subL, Slot.enc]
      · have hge : ¬ (k : Int) < ((l.map Slot.enc).length : Int) := of_decide_eq_false h
        simp at hge
        have e : l2.take k = l2 := List.take_of_length_le (by omega)
        rw [e]
        have hle := lastN_le l2
        refine bB_yes ?_ ?_
        · simp [lenOf, dRows, Nat.ble_eq]; exact hle
        exact frz2 (.one (frz_take rfl))
theorem rclose_ok (l : List Slot) (hb : l.length ≤ 2097152) (fd : Int) {m : Mem} {K : CV → Mem → Prop} (h : K (.tup [slotsR (closeS l fd).1, iRV (closeS l fd).2]) m) : ACall Try.prog 14 [slotsV l, vInt .i64 fd] m K :=
  acall_frame (acall_body Try.func14 l14 rfl (Nat.le_of_ble_eq_true rfl) (rclose_body l hb fd)) (by simp [slotsV, vInt, CV.isD, CC.isD]) fun r m1 hf => ⟨_, hf, h⟩
end Tb

def c16 : LF := ⟨22, [.tmp 4], (.seq (.reg [
    ⟨(some 2), .box (.t 0), none⟩,
    ⟨(some 4), .mov (.c (.rv (.one (.dat (.val (.bool false)))))), none⟩]) (.seq (.reg [
    ⟨(some 5), .mov (.t 1), none⟩,
    ⟨(some 6), .bin .geq (.t 5) (.c (.rv (.one (.dat (.val (.int .i64 (0))))))), none⟩,
    ⟨(some 7), .mov (.t 6), none⟩,
    ⟨(some 8), .mov (.t 1), (some (7, true))⟩,
    ⟨(some 9), .fadr 2 (.t 2), (some (7, true))⟩,
    ⟨(some 10), .load false 1 (.t 9), (some (7, true))⟩,
    ⟨(some 11), .len 1 (.t 10), (some (7, true))⟩,
    ⟨(some 12), .bin .lss (.t 8) (.t 11), (some (7, true))⟩,
    ⟨(some 13), .pick (.t 7) (.t 12) (.c (.rv (.one (.dat (.val (.bool false)))))), none⟩,
    ⟨(some 14), .mov (.t 13), none⟩,
    ⟨(some 15), .fadr 2 (.t 2), (some (14, true))⟩,
    ⟨(some 16), .load false 1 (.t 15), (some (14, true))⟩,
    ⟨(some 17), .mov (.t 1), (some (14, true))⟩,
    ⟨(some 18), .idx 4 (.t 16) (.t 17), (some (14, true))⟩,
    ⟨(some 19), .fadr 0 (.t 18), (some (14, true))⟩,
    ⟨(some 20), .load false 1 (.t 19), (some (14, true))⟩,
    ⟨(some 21), .pick (.t 14) (.t 20) (.c (.rv (.one (.dat (.val (.bool false)))))), none⟩,
    ⟨(some 4), .mov (.t 21), none⟩]) .ret))⟩
def c33 : LF := ⟨37, [.tmp 2], (.seq (.reg [
    ⟨(some 2), .mov (.c (.rv (.one (.dat (.val (.int .i64 (0))))))), none⟩]) (.seq (.seq (.reg [
    ⟨(some 5), .mov (.c (.rv (.one (.dat (.val (.int .i64 (0))))))), none⟩]) (.block 0 (.loop (.seq (.reg [
    ⟨(some 6), .bin .lss (.t 5) (.c (.rv (.one (.dat (.val (.int .i64 (8))))))), none⟩]) (.seq (.cond (.t 6) .skip (.exit 0)) (.seq (.block 1 (.seq (.reg [
    ⟨(some 7), .mov (.t 5), none⟩,
    ⟨(some 3), .alloc [(.dat (.val (.int .i64 (0))))], none⟩,
    ⟨none, .store 1 (.t 3) (.t 7), none⟩]) (.seq (.seq (.draw [
    ⟨(some 8), .load false 1 (.t 3), none⟩,
    ⟨(some 9), .mov (.t 0), none⟩,
    ⟨(some 10), .nilc (.t 9), none⟩,
    ⟨(some 11), .fadr 2 (.t 10), none⟩,
    ⟨(some 12), .load false 1 (.t 11), none⟩,
    ⟨(some 13), .len 1 (.t 12), none⟩,
    ⟨(some 14), .bin .eql (.t 8) (.t 13), none⟩]
    [(.cons 0 none (.cons 1 none (.cons 2 none (.cons 3 none (.cons 4 none (.cons 5 none (.cons 6 none .nil)))))))]) (.cond (.t 14) (.seq (.reg [
    ⟨(some 15), .load false 1 (.t 3), none⟩,
    ⟨(some 2), .mov (.t 15), none⟩]) .ret) .skip)) (.seq (.reg [
    ⟨(some 16), .mov (.t 0), none⟩,
    ⟨(some 17), .nilc (.t 16), none⟩,
    ⟨(some 18), .fadr 0 (.t 17), none⟩,
    ⟨(some 19), .load false 1 (.t 18), none⟩,
    ⟨(some 20), .fn 52 [(.t 3)], none⟩,
    ⟨(some 21), .call (.c (.rv (.one (.fn 46 [])))) [(.t 19), (.t 20)], none⟩,
    ⟨(some 4), .mov (.t 21), none⟩]) (.seq (.draw [
    ⟨(some 22), .mov (.t 0), none⟩,
    ⟨(some 23), .nilc (.t 22), none⟩,
    ⟨(some 24), .fadr 2 (.t 23), none⟩,
    ⟨(some 25), .load false 1 (.t 24), none⟩,
    ⟨(some 26), .load false 1 (.t 3), none⟩,
    ⟨(some 27), .idx 4 (.t 25) (.t 26), none⟩,
    ⟨(some 28), .fadr 0 (.t 27), none⟩,
    ⟨(some 29), .load false 1 (.t 28), none⟩,
    ⟨(some 30), .un .not (.t 29), none⟩,
    ⟨(some 31), .mov (.t 30), none⟩,
    ⟨(some 32), .mov (.t 4), (some (31, true))⟩,
    ⟨(some 33), .un .not (.t 32), (some (31, true))⟩,
    ⟨(some 34), .pick (.t 31) (.t 33) (.c (.rv (.one (.dat (.val (.bool false)))))), none⟩]
    [(.cons 0 none (.cons 1 none (.cons 2 none (.cons 3 none (.cons 4 none (.cons 5 none (.cons 6 none (.cons 7 none (.cons 8 none (.cons 9 none (.cons 10 none (.cons 11 none (.cons 12 none .nil)))))))))))))]) (.cond (.t 34) (.seq (.reg [
    ⟨(some 35), .load false 1 (.t 3), none⟩,
    ⟨(some 2), .mov (.t 35), none⟩]) .ret) .skip)))))) (.reg [
    ⟨(some 36), .bin .add (.t 5) (.c (.rv (.one (.dat (.val (.int .i64 (1))))))), none⟩,
    ⟨(some 5), .mov (.t 36), none⟩]))))))) (.seq (.reg [
    ⟨(some 2), .mov (.c (.rv (.one (.dat (.val (.int .i64 (-1))))))), none⟩]) .ret)))⟩
def c37 : LF := ⟨19, [.tmp 4], (.seq (.reg [
    ⟨(some 4), .mov (.c (.rv (.one (.dat (.val (.int .i64 (0))))))), none⟩]) (.seq (.seq (.reg [
    ⟨(some 6), .mov (.t 0), none⟩,
    ⟨(some 7), .len 1 (.t 6), none⟩,
    ⟨(some 8), .mov (.c (.rv (.one (.dat (.val (.int .i64 (0))))))), none⟩]) (.block 0 (.loop (.seq (.reg [
    ⟨(some 9), .bin .lss (.t 8) (.t 7), none⟩]) (.seq (.cond (.t 9) .skip (.exit 0)) (.seq (.block 1 (.seq (.reg [
    ⟨(some 10), .mov (.t 8), none⟩,
    ⟨(some 5), .mov (.t 10), none⟩]) (.seq (.reg [
    ⟨(some 11), .mov (.t 1), none⟩,
    ⟨(some 12), .mov (.t 0), none⟩,
    ⟨(some 13), .mov (.t 5), none⟩,
    ⟨(some 14), .idx 2 (.t 12) (.t 13), none⟩,
    ⟨(some 15), .load true 2 (.t 14), none⟩,
    ⟨(some 16), .call (.t 11) [(.t 15)], none⟩]) (.cond (.t 16) (.seq (.reg [
    ⟨(some 17), .mov (.t 5), none⟩,
    ⟨(some 4), .mov (.t 17), none⟩]) .ret) .skip)))) (.reg [
    ⟨(some 18), .bin .add (.t 8) (.c (.rv (.one (.dat (.val (.int .i64 (1))))))), none⟩,
    ⟨(some 8), .mov (.t 18), none⟩]))))))) (.seq (.reg [
    ⟨(some 4), .mov (.c (.rv (.one (.dat (.val (.int .i64 (-1))))))), none⟩]) .ret)))⟩
def c38 : LF := ⟨6, [.tmp 2], (.seq (.reg [
    ⟨(some 1), .box (.t 0), none⟩,
    ⟨(some 2), .mov (.c (.rv (.one (.dat (.val (.bool false)))))), none⟩]) (.seq (.reg [
    ⟨(some 3), .fadr 0 (.t 1), none⟩,
    ⟨(some 4), .load false 1 (.t 3), none⟩,
    ⟨(some 5), .bin .lss (.t 4) (.c (.rv (.one (.dat (.val (.int .i64 (0))))))), none⟩,
    ⟨(some 2), .mov (.t 5), none⟩]) .ret))⟩
def c52 : LF := ⟨13, [.tmp 3], (.seq (.reg [
    ⟨(some 2), .box (.t 0), none⟩,
    ⟨(some 3), .mov (.c (.rv (.one (.dat (.val (.bool false)))))), none⟩]) (.seq (.reg [
    ⟨(some 4), .fadr 0 (.t 2), none⟩,
    ⟨(some 5), .load false 1 (.t 4), none⟩,
    ⟨(some 6), .bin .eql (.t 5) (.c (.rv (.one (.dat (.val (.int .i64 (5))))))), none⟩,
    ⟨(some 7), .mov (.t 6), none⟩,
    ⟨(some 8), .fadr 6 (.t 2), (some (7, true))⟩,
    ⟨(some 9), .load false 1 (.t 8), (some (7, true))⟩,
    ⟨(some 10), .load false 1 (.t 1), (some (7, true))⟩,
    ⟨(some 11), .bin .eql (.t 9) (.t 10), (some (7, true))⟩,
    ⟨(some 12), .pick (.t 7) (.t 11) (.c (.rv (.one (.dat (.val (.bool false)))))), none⟩,
    ⟨(some 3), .mov (.t 12), none⟩]) .ret))⟩
/-! procs: Live, free, the search for an open file that is free -/
theorem l16 : lowF Try.prog Try.f16 = some c16 := by kernel_rfl
def liveB (ps : List Prc) (p : Int) : Bool := decide (p ≥ 0) && (decide (p < ps.length) && match ps[p.toNat]? with | some x => x.live | none => false)
set_option maxRecDepth 100000 in
set_option maxHeartbeats 4000000 in
theorem plive_body (l : List Obj) (ops : List Opn) (ps : List Prc) (p : Int) : body Try.prog c16 [kernV l ops ps, vInt .i64 p] [] (fun r m => r = vBool (liveB ps p)) := by
  refine bB_dec (fun h0 => ?_) (fun h0 => ?_)
  · obtain ⟨n, rfl⟩ : ∃ n : Nat, p = n := ⟨p.toNat, by omega⟩
    refine bB_dec (fun h => ?_) (fun h => ?_)
    · have hlt : n < ps.length := by
        have h : (n : Int) < ((ps.map Prc.enc).length : Int) := h
        rw [List.length_map] at h
        omega
      refine ok_some (prc_get hlt) ?_
      have hS : liveB ps (n : Int) = ps[n].live := by simp [liveB, hlt]
      show vBool _ = vBool _
      rw [hS]
    · have hge : ¬ n < ps.length := by
        have h : ¬ (n : Int) < ((ps.map Prc.enc).length : Int) := h
        rw [List.length_map] at h
        omega
      have hS : liveB ps (n : Int) = false := by simp [liveB, hge]
      show vBool _ = vBool _
      rw [hS]
  · have hS : liveB ps p = false := by
      have : decide (p ≥ 0) = false := decide_eq_false h0
      simp [liveB, this]
    show vBool _ = vBool _
    rw [hS]
set_option maxRecDepth 100000 in
theorem plive_ok (l : List Obj) (ops : List Opn) (ps : List Prc) (p : Int) {m : Mem} {K : CV → Mem → Prop} (h : K (vBool (liveB ps p)) m) : ACall Try.prog 16 [kernV l ops ps, vInt .i64 p] m K :=
  acall_val Try.func16 l16 rfl (Nat.le_of_ble_eq_true rfl) (plive_body l ops ps p) (by simp [kernV, objsD, opnD, prcD, vInt, CV.isD, CC.isD, RV.isD]) rfl h
theorem live_yes {ps : List Prc} {p : Int} (h : liveB ps p = true) : ∃ n : Nat, p = n ∧ ∃ hn : n < ps.length, ps[n].live = true := by
  unfold liveB at h
  by_cases h0 : p ≥ 0
  · obtain ⟨n, rfl⟩ : ∃ n : Nat, p = n := ⟨p.toNat, by omega⟩
    by_cases hn : n < ps.length
    · refine ⟨n, rfl, hn, ?_⟩
      simpa [hn] using h
    · simp [hn] at h
  · simp [h0] at h
theorem live_of {ps : List Prc} {n : Nat} (hn : n < ps.length) (h : ps[n].live = true) : liveB ps (n : Int) = true := by simp [liveB, hn, h]
/-! free -/
theorem l33 : lowF Try.prog Try.f33 = some c33 := by kernel_rfl
theorem l52 : lowF Try.prog Try.f52 = some c52 := by kernel_rfl
set_option maxRecDepth 100000 in
theorem clo52_body (o : Obj) (p : Int) : body Try.prog c52 [o.cv, .rv (.one (.ptr 0 0))] [.var ([Dt.val (.int .i64 p)].map .dat)] (fun r m => r = vBool (heldB p o) ∧ ∃ ex, m = .var ([Dt.val (.int .i64 p)].map .dat) :: ex) := by
  refine bB_split (fun h => ?_) (fun h => ?_)
  · refine ⟨?_, _, rfl⟩
    show vBool _ = vBool _
    rw [heldB, h]; rfl
  · refine ⟨?_, _, rfl⟩
    show vBool _ = vBool _
    rw [heldB, h]; rfl
set_option maxRecDepth 100000 in
theorem clo52 (o : Obj) (p : Int) (K : CV → Mem → Prop) (h : K (vBool (heldB p o)) [.var ([Dt.val (.int .i64 p)].map .dat)]) : ACall Try.prog 52 [o.cv, .rv (.one (.ptr 0 0))] [.var ([Dt.val (.int .i64 p)].map .dat)] K :=
  acall_trim rfl (acall_body Try.func52 l52 rfl (Nat.le_of_ble_eq_true rfl) (clo52_body o p)) h
def pdead (l : List Obj) (ps : List Prc) (p : Nat) : Bool := match ps[p]? with
  | some x => !x.live && !(l.any (heldB (p : Nat)))
  | none => false
def pfreeG (l : List Obj) (ps : List Prc) : Nat → Nat → Int
  | 0, _ => -1
  | n + 1, p => if p = ps.length then (p : Nat) else if pdead l ps p = true then (p : Nat) else pfreeG l ps n (p + 1)
def pfreeS (l : List Obj) (ps : List Prc) : Int := pfreeG l ps 8 0
def kC (l : List Obj) (ops : List Opn) (ps : List Prc) : List Dt := [objsD l, opnD ops, prcD ps]
set_option maxRecDepth 100000 in
set_option maxHeartbeats 8000000 in
theorem free_body (l : List Obj) (hl : l.length ≤ 4194304) (ops : List Opn) (ps : List Prc) : body Try.prog c33 [.rv (.one (.ptr 0 0))] [.var ((kC l ops ps).map .dat)] (fun r m => r = vInt .i64 (pfreeS l ps) ∧ ∃ ex, m = .var ((kC l ops ps).map .dat) :: ex) := by
  refine loop_keep (fun p => p ≤ 8 ∧ p ≤ ps.length ∧ pfreeG l ps (8 - p) p = pfreeS l ps) [0] (fun p => [(5, vInt .i64 (p : Nat))]) (fun _ => [.var ((kC l ops ps).map .dat)]) (fun p => 8 - p) 0 ⟨by omega, Nat.zero_le _, rfl⟩ ?_ (fun p hp => ?_)
  · refine View.of 1 [0] [] rfl rfl rfl rfl rfl rfl ?_ ?_
    · repeat (first | exact .nil | refine .junk ?_ | refine .eq rfl ?_)
    · exact .put (notF rfl) rfl (.eq rfl (by simp [kC])) (.nil _)
  obtain ⟨hp8, hpl, hpf⟩ := hp
  have hp8 : p ≤ 8 := hp8
  have hpl : p ≤ ps.length := hpl
  have hpf : pfreeG l ps (8 - p) p = pfreeS l ps := hpf
  refine bB_dec (fun h => ?_) (fun h => ?_)
  · have hlt : p < 8 := by
      have h : (p : Int) < 8 := h
      omega
    rw [show 8 - p = (8 - (p + 1)) + 1 by omega, pfreeG] at hpf
    refine bB_beq (fun he => ?_) (fun he => ?_)
    · have he : p = ps.length := by
        have he : (p : Int) = ((ps.map Prc.enc).length : Int) := he
        rw [List.length_map] at he
        omega
      rw [if_pos he] at hpf
      rw [← hpf]
      exact ⟨rfl, _, rfl⟩
    · have hne : ¬ p = ps.length := by
        intro hh
        apply he
        show (p : Int) = ((ps.map Prc.enc).length : Int)
        rw [List.length_map]
        omega
      rw [if_neg hne] at hpf
      have hlt2 : p < ps.length := by omega
      have hdd : pdead l ps p = (!ps[p].live && !(l.any (heldB (p : Nat)))) := by rw [pdead, List.getElem?_eq_getElem hlt2]
      refine acall_look (args0 := [objsV l, .rv (.one (.fn 52 [0]))]) (cs := [.val (.int .i64 (p : Nat))]) 1 rfl rfl (r0 := vBool (l.any (heldB (p : Int)))) rfl (fun K hK => contDc_ok l hl 52 _ _ (fun s K hK => clo52 s _ K hK) K hK) ?_
      refine ok_some (prc_get hlt2) ?_
      rw [hdd] at hpf
      have go : (!ps[p].live && !(l.any (heldB (p : Nat)))) = false → pfreeG l ps (8 - (p + 1)) (p + 1) = pfreeS l ps := fun hh => by
        rw [if_neg (by rw [hh]; simp)] at hpf; exact hpf
      refine bB_split (fun h1 => ?_) (fun h1 => ?_)
      · refine bB_split (fun h2 => ?_) (fun h2 => ?_)
        · rw [if_pos (by rw [h1, h2]; rfl)] at hpf
          rw [← hpf]
          exact ⟨rfl, _, rfl⟩
        · refine ⟨p + 1, ⟨by omega, by omega, go (by rw [h2, Bool.and_false])⟩, (show 8 - (p + 1) < 8 - p by omega), View.of 2 [0] [] rfl rfl rfl rfl rfl rfl ?_ ?_⟩
          · repeat (first | exact .nil | refine .junk ?_ | refine .put (.ren (next_i64 (by omega)).symm) ?_ | refine .eq rfl ?_)
          · exact .put (notF rfl) rfl (.eq rfl (by simp [kC])) (.nil _)
      · refine ⟨p + 1, ⟨by omega, by omega, go (by rw [h1, Bool.false_and])⟩, (show 8 - (p + 1) < 8 - p by omega), View.of 2 [0] [] rfl rfl rfl rfl rfl rfl ?_ ?_⟩
        · repeat (first | exact .nil | refine .junk ?_ | refine .put (.ren (next_i64 (by omega)).symm) ?_ | refine .eq rfl ?_)
        · exact .put (notF rfl) rfl (.eq rfl (by simp [kC])) (.nil _)
  · have hp : p = 8 := by
      have h : ¬ (p : Int) < 8 := h
      omega
    subst hp
    rw [show pfreeS l ps = -1 from hpf.symm]
    exact ⟨rfl, _, rfl⟩
set_option maxRecDepth 100000 in
theorem free_ok (l : List Obj) (hl : l.length ≤ 4194304) (ops : List Opn) (ps : List Prc) (K : CV → Mem → Prop) (h : K (vInt .i64 (pfreeS l ps)) [.var ((kC l ops ps).map .dat)]) : ACall Try.prog 33 [.rv (.one (.ptr 0 0))] [.var ((kC l ops ps).map .dat)] K :=
  acall_trim rfl (acall_body Try.func33 l33 rfl (Nat.le_of_ble_eq_true rfl) (free_body l hl ops ps)) h
/-! the search for an open file that is free -/
theorem l37 : lowF Try.prog Try.f37 = some c37 := by kernel_rfl
theorem l38 : lowF Try.prog Try.f38 = some c38 := by kernel_rfl
def Opn.cv (o : Opn) : CV := .rv (.agg (o.enc.map .dat))
set_option maxRecDepth 100000 in
theorem clo38_body (o : Opn) : body Try.prog c38 [o.cv] [] (fun r m => r = vBool (decide (o.obj < 0))) := by
  show vBool _ = vBool _
  rfl
theorem clo38 (o : Opn) {m : Mem} {K : CV → Mem → Prop} (h : K (vBool (decide (o.obj < 0))) m) : ACall Try.prog 38 [o.cv] m K :=
  acall_val Try.func38 l38 rfl (Nat.le_of_ble_eq_true rfl) (clo38_body o) rfl rfl h
def opF (l : List Opn) : Option Nat := l.findIdx? fun o => decide (o.obj < 0)
def opI (l : List Opn) : Int := match opF l with | some i => (i : Nat) | none => -1
set_option maxRecDepth 100000 in
set_option maxHeartbeats 4000000 in
theorem oidx_body (l : List Opn) (hb : l.length ≤ 4194304) : body Try.prog c37 [.rv (.one (.dat (opnD l))), .rv (.one (.fn 38 []))] [] (fun r m => r = vInt .i64 (opI l)) := by
  refine loop_keep (fun k => k ≤ l.length ∧ ∀ (i : Nat) s, i < k → l[i]? = some s → ¬ s.obj < 0) [0, 1, 7] (fun k => [(8, vInt .i64 (k : Nat))]) (fun _ => []) (fun k => l.length - k) 0 ⟨Nat.zero_le _, fun i s h => absurd h (Nat.not_lt_zero i)⟩ ?_ (fun k hk => ?_)
  · refine View.of 0 [] [] rfl rfl rfl rfl rfl rfl ?_ (.nil _)
    repeat (first | exact .nil | refine .junk ?_ | refine .eq rfl ?_)
  obtain ⟨hkl, hkb⟩ := hk
  have hkl : k ≤ l.length := hkl
  refine bB_dec (fun h => ?_) (fun h => ?_)
  · have hlt : k < l.length := by
      have h : (k : Int) < ((l.map Opn.enc).length : Int) := h
      rw [List.length_map] at h
      omega
    refine ok_some (opn_get hlt) ?_
    refine clo38 l[k] ?_
    refine bB_dec (fun h3 => ?_) (fun h3 => ?_)
    · show vInt _ _ = vInt _ _
      have : opF l = some k := by
        rw [opF, List.findIdx?_eq_some_iff_getElem]
        exact ⟨hlt, by simpa using h3, fun j hj => by simpa using hkb j _ hj (List.getElem?_eq_getElem (by omega))⟩
      rw [opI, this]
    · refine ⟨k + 1, ⟨hlt, fun i s hi hs => ?_⟩, (show l.length - (k + 1) < l.length - k by omega), View.of 0 [] [] rfl rfl rfl rfl rfl rfl ?_ (.nil _)⟩
      · rcases Nat.lt_or_ge i k with h5 | h5
        · exact hkb i s h5 hs
        · have : i = k := by omega
          subst this
          rw [List.getElem?_eq_getElem hlt] at hs
          cases hs
          exact h3
      · repeat (first | exact .nil | refine .junk ?_ | refine .put (.ren (next_i64 (by omega)).symm) ?_ | refine .eq rfl ?_)
  · have hge : k = l.length := by
      have h : ¬ (k : Int) < ((l.map Opn.enc).length : Int) := h
      rw [List.length_map] at h
      omega
    show vInt _ _ = vInt _ _
    have : opF l = none := by
      rw [opF, List.findIdx?_eq_none_iff]
      intro s hs
      obtain ⟨i, hi⟩ := List.getElem?_of_mem hs
      have := (List.getElem?_eq_some_iff.1 hi).1
      simpa using hkb i s (by omega) hi
    rw [opI, this]
set_option maxRecDepth 100000 in
theorem oidx_ok (l : List Opn) (hb : l.length ≤ 4194304) {m : Mem} {K : CV → Mem → Prop} (h : K (vInt .i64 (opI l)) m) : ACall Try.prog 37 [.rv (.one (.dat (opnD l))), .rv (.one (.fn 38 []))] m K :=
  acall_val Try.func37 l37 rfl (Nat.le_of_ble_eq_true rfl) (oidx_body l hb) (by simp [opnD, CV.isD, CC.isD, RV.isD]) rfl h

def c15 : LF := ⟨36, [.cell true 3 6, .tmp 7], (.seq (.reg [
    ⟨(some 3), .box (.t 0), none⟩,
    ⟨(some 6), .alloc [.esl, .esl, .esl], none⟩,
    ⟨(some 7), .mov (.c (.rv (.one (.dat (.val (.int .i64 (0))))))), none⟩]) (.seq (.seq (.reg [
    ⟨(some 9), .load true 3 (.t 3), none⟩,
    ⟨(some 10), .mov (.t 1), none⟩,
    ⟨(some 11), .call (.c (.rv (.one (.fn 16 [])))) [(.t 9), (.t 10)], none⟩,
    ⟨(some 12), .un .not (.t 11), none⟩]) (.cond (.t 12) (.seq (.reg [
    ⟨(some 13), .build [.esl, .esl, .esl] [], none⟩,
    ⟨none, .store 3 (.t 6) (.t 13), none⟩,
    ⟨(some 7), .mov (.c (.rv (.one (.dat (.val (.int .i64 (6))))))), none⟩]) .ret) .skip)) (.seq (.seq (.reg [
    ⟨(some 14), .mov (.t 2), none⟩,
    ⟨(some 15), .bin .lss (.t 14) (.c (.rv (.one (.dat (.val (.int .i64 (0))))))), none⟩,
    ⟨(some 16), .mov (.t 15), none⟩,
    ⟨(some 17), .mov (.t 2), (some (16, false))⟩,
    ⟨(some 18), .bin .gtr (.t 17) (.c (.rv (.one (.dat (.val (.int .i64 (255))))))), (some (16, false))⟩,
    ⟨(some 19), .pick (.t 16) (.c (.rv (.one (.dat (.val (.bool true)))))) (.t 18), none⟩]) (.cond (.t 19) (.seq (.reg [
    ⟨(some 20), .build [.esl, .esl, .esl] [], none⟩,
    ⟨none, .store 3 (.t 6) (.t 20), none⟩,
    ⟨(some 7), .mov (.c (.rv (.one (.dat (.val (.int .i64 (3))))))), none⟩]) .ret) .skip)) (.seq (.reg [
    ⟨(some 21), .load true 3 (.t 3), none⟩,
    ⟨(some 22), .call (.c (.rv (.one (.fn 22 [])))) [(.t 21)], none⟩,
    ⟨(some 8), .alloc [.esl, .esl, .esl], none⟩,
    ⟨none, .store 3 (.t 8) (.t 22), none⟩]) (.seq (.draw [
    ⟨(some 23), .fadr 2 (.t 8), none⟩,
    ⟨(some 24), .load false 1 (.t 23), none⟩,
    ⟨(some 25), .mov (.t 1), none⟩,
    ⟨(some 26), .fadr 2 (.t 3), none⟩,
    ⟨(some 27), .load false 1 (.t 26), none⟩,
    ⟨(some 28), .mov (.t 1), none⟩,
    ⟨(some 29), .idx 4 (.t 27) (.t 28), none⟩,
    ⟨(some 30), .fadr 1 (.t 29), none⟩,
    ⟨(some 31), .load false 1 (.t 30), none⟩,
    ⟨(some 32), .mov (.t 2), none⟩,
    ⟨(some 33), .build [(.dat (.val (.bool false))), (.dat (.val (.bool false))), (.dat (.val (.int .i64 (0)))), .esl] [(1, 1, (.t 31)), (2, 1, (.t 32))], none⟩,
    ⟨(some 34), .idx 4 (.t 24) (.t 25), none⟩,
    ⟨none, .store 4 (.t 34) (.t 33), none⟩]
    [(.cons 0 none (.cons 1 none (.cons 2 none (.cons 3 none (.cons 4 none (.cons 5 none (.cons 6 none (.cons 7 none (.cons 8 none (.cons 9 none (.cons 10 none (.cons 11 none (.cons 12 (some []) .nil)))))))))))))]) (.ghost (.seq (.reg [
    ⟨(some 35), .load true 3 (.t 8), none⟩,
    ⟨none, .store 3 (.t 6) (.t 35), none⟩,
    ⟨(some 7), .mov (.c (.rv (.one (.dat (.val (.int .i64 (0))))))), none⟩]) .ret)))))))⟩
/-! procs: Exit -/
theorem l15 : lowF Try.prog Try.f15 = some c15.er := by kernel_rfl
def kernR (k : Kr) : RV := .agg [.dat (objsD k.l), .dat (opnD k.ops), .dat (prcD k.ps)]
def nilK : Kr := ⟨[], [], []⟩
def exitS (k : Kr) (p code : Int) : Kr × Int :=
  if liveB k.ps p = false then (nilK, 6) else if code < 0 ∨ code > 255 then (nilK, 3)
  else (⟨k.l, k.ops, k.ps.set p.toNat ⟨false, (match k.ps[p.toNat]? with | some x => x.fenced | none => false), code, []⟩⟩, 0)
theorem nilK_frz {m : Mem} : FrzR m (.agg [.esl, .esl, .esl]) (kernR nilK) := by
  refine .agg rfl fun i c c' h1 h2 => ?_
  match i, h1, h2 with
  | 0, h1, h2 => cases h1; cases h2; exact .esl 9
  | 1, h1, h2 => cases h1; cases h2; exact .esl 2
  | 2, h1, h2 => cases h1; cases h2; exact .esl 4
  | n + 3, h1, h2 => simp at h1
theorem kernR_D (k : Kr) : (kernR k).isD = true := by simp [kernR, objsD, opnD, prcD, CV.isD, CC.isD, RV.isD]
/-- a row of processes, one of which is said anew, as data -/
theorem frzSet {m : Mem} {Z : Nat → Prop} {p : Option Nat} {id : Nat} {ps : List Prc} {k : Nat} {c : List CC} {x : Prc} (hc : CcsFz m Z (some id) c x.enc) (hz : Z id) (hm : m[id]? = some (.row 4 (setN (dRows (ps.map Prc.enc)) k c))) :
    FrzD m Z p (.row id 4 0 none) (prcD (ps.set k x)) := by
  rw [setN_eq] at hm
  refine FrzD.row id 4 0 none _ _ hz hm (by simp [dRows]) (fun i cs es h1 h2 => ?_) (fun i cs es j c' d h1 h2 h3 h4 => ?_)
  · rw [List.getElem?_set] at h1
    rw [List.getElem?_map, List.getElem?_set] at h2
    by_cases e : k = i
    · subst e
      rw [if_pos rfl] at h1 h2
      split at h1
      · cases h1
        split at h2
        · cases h2; exact hc.len
        · cases h2
      · cases h1
    · rw [if_neg e] at h1 h2
      rw [dRows, List.getElem?_map, List.getElem?_map] at h1
      cases hi : ps[i]? with
      | none => rw [hi] at h1; cases h1
      | some y => rw [hi] at h1 h2; cases h1; cases h2; simp
  · rw [List.getElem?_set] at h1
    rw [List.getElem?_map, List.getElem?_set] at h2
    by_cases e : k = i
    · subst e
      rw [if_pos rfl] at h1 h2
      split at h1
      · cases h1
        split at h2
        · cases h2; exact hc.get j _ _ h3 h4
        · cases h2
      · cases h1
    · rw [if_neg e] at h1 h2
      rw [dRows, List.getElem?_map, List.getElem?_map] at h1
      cases hi : ps[i]? with
      | none => rw [hi] at h1; cases h1
      | some y =>
        rw [hi] at h1 h2; cases h1; cases h2
        have h4 : y.enc[j]? = some d := h4
        rw [List.getElem?_map, h4] at h3
        cases h3
        exact .dat d
theorem set_idx {R : List (List CC)} {k : Nat} {c : List CC} {n : Nat} (h : n < R.length) : idxZ (n : Int) (lenOf (setN R k c).length 0 none) = some n := idxZ_nat (by show n < (setN R k c).length; rw [setN_eq, List.length_set]; exact h)
def G15 : LC := unG (sndS (sndS (sndS (sndS (sndS c15.code)))))
set_option maxRecDepth 100000 in
set_option maxHeartbeats 8000000 in
theorem exit_body (k : Kr) (hk : KrOK k.l k.ops k.ps) (p code : Int) : body Try.prog c15 [kernV k.l k.ops k.ps, vInt .i64 p, vInt .i64 code] [] (fun r m => FrzV m r (.tup [kernR (exitS k p code).1, iRV (exitS k p code).2])) := by
  refine plive_ok k.l k.ops k.ps p ?_
  refine bB_split (fun h1 => ?_) (fun h1 => ?_)
  · have h1 : liveB k.ps p = false := by simpa using h1
    rw [exitS, if_pos h1]
    exact frz2 nilK_frz
  have h1 : liveB k.ps p = true := by simpa using h1
  obtain ⟨n, rfl, hn, hlv⟩ := live_yes h1
  rw [exitS, if_neg (by rw [h1]; simp)]
  refine bB_dec (fun h2 => ?_) (fun h2 => ?_)
  · rw [if_pos (.inl h2)]
    exact frz2 nilK_frz
  refine bB_dec (fun h3 => ?_) (fun h3 => ?_)
  · rw [if_pos (.inr h3)]
    exact frz2 nilK_frz
  rw [if_neg (fun h => h.elim h2 h3)]
  refine sown_ok k.l k.ops k.ps ⟨hk.ll, fun o ho => (hk.sm o ho).fit⟩ hk.lo hk.lp hk.sl hk.ne ?_
  have hg := prc_get hn
  have hr := dRows_nth' Prc.enc k.ps hn
  have hx : (match k.ps[((n : Nat) : Int).toNat]? with | some x => x.fenced | none => false) = k.ps[n].fenced := by
    rw [show ((n : Nat) : Int).toNat = n from rfl, List.getElem?_eq_getElem hn]
  rw [hx, show ((n : Nat) : Int).toNat = n from rfl]
  generalize k.ps[n] = y at hg hr
  obtain ⟨live, fenced, cd, slots⟩ := y
  refine ok_some hg ?_
  refine ok_some (pr_idx hn) ?_
  refine ok_some hr ?_
  have hfin : aw Try.prog 0 G15 (endK Try.prog c15.res (fun r m => FrzV m r (.tup [kernR ⟨k.l, k.ops, k.ps.set n ⟨false, fenced, code, []⟩⟩, iRV 0]))) ⟨mkE 36 [(6, .rv (.one (.ptr 1 0))), (8, .rv (.one (.ptr 2 0)))], [.var ((kC k.l k.ops k.ps).map .dat), .var [.esl, .esl, .esl], .var ((kC k.l k.ops (k.ps.set n ⟨false, fenced, code, []⟩)).map .dat)]⟩ := by
    exact frz2 (FrzR.self (kernR_D _))
  refine ⟨?_, _, View.of 6 [0, 1, 5] [2, 3, 4] rfl rfl rfl rfl rfl rfl ?_ ?_, hfin⟩
  · exact trivial
  · repeat (first | exact .nil | refine .junk ?_ | refine .eq rfl ?_)
  · refine .put (notF rfl) rfl (.eq rfl (by simp [kC])) (.put (notF rfl) rfl (.eq rfl (by simp)) (.put (notF rfl) rfl (CcsVp.var (.cons (.frz (FrzD.rowD (Z := fun k => memN [2, 3, 4] k = true) rfl rfl 0 none)) (.cons (.frz (FrzD.rowD (Z := fun k => memN [2, 3, 4] k = true) rfl rfl 0 none)) (.cons (.frz (frzSet (Z := fun k => memN [2, 3, 4] k = true) ?_ rfl rfl)) .nil)))) (.nil _)))
    exact .cons (.dat _) (.cons (.dat _) (.cons (.dat _) (.cons (.esl 3) .nil)))
theorem exit_ok (k : Kr) (hk : KrOK k.l k.ops k.ps) (p code : Int) {m : Mem} {K : CV → Mem → Prop} (h : K (.tup [kernR (exitS k p code).1, iRV (exitS k p code).2]) m) : ACall Try.prog 15 [kernV k.l k.ops k.ps, vInt .i64 p, vInt .i64 code] m K :=
  acall_frame (acall_body_g Try.func15 l15 rfl (Nat.le_of_ble_eq_true rfl) (exit_body k hk p code)) (by simp [kernV, objsD, opnD, prcD, vInt, CV.isD, CC.isD, RV.isD]) fun r m1 hf => ⟨_, hf, h⟩

def c18 : LF := ⟨74, [.cell true 3 8, .tmp 9, .tmp 10], (.seq (.reg [
    ⟨(some 4), .box (.t 0), none⟩,
    ⟨(some 8), .alloc [.esl, .esl, .esl], none⟩,
    ⟨(some 9), .mov (.c (.rv (.one (.dat (.val (.int .i64 (0))))))), none⟩,
    ⟨(some 10), .mov (.c (.rv (.one (.dat (.val (.int .i64 (0))))))), none⟩]) (.seq (.reg [
    ⟨(some 16), .fadr 1 (.t 4), none⟩,
    ⟨(some 17), .load false 1 (.t 16), none⟩,
    ⟨(some 18), .call (.c (.rv (.one (.fn 37 [])))) [(.t 17), (.c (.rv (.one (.fn 38 []))))], none⟩,
    ⟨(some 11), .mov (.t 18), none⟩]) (.seq (.seq (.reg [
    ⟨(some 19), .mov (.t 11), none⟩,
    ⟨(some 20), .bin .lss (.t 19) (.c (.rv (.one (.dat (.val (.int .i64 (0))))))), none⟩]) (.cond (.t 20) (.seq (.seq (.reg [
    ⟨(some 21), .fadr 1 (.t 4), none⟩,
    ⟨(some 22), .load false 1 (.t 21), none⟩,
    ⟨(some 23), .len 1 (.t 22), none⟩,
    ⟨(some 24), .bin .geq (.t 23) (.c (.rv (.one (.dat (.val (.int .i64 (60))))))), none⟩]) (.cond (.t 24) (.seq (.reg [
    ⟨(some 25), .build [.esl, .esl, .esl] [], none⟩,
    ⟨none, .store 3 (.t 8) (.t 25), none⟩,
    ⟨(some 9), .mov (.c (.rv (.one (.dat (.val (.int .i64 (0))))))), none⟩,
    ⟨(some 10), .mov (.c (.rv (.one (.dat (.val (.int .i64 (15))))))), none⟩]) .ret) .skip)) (.reg [
    ⟨(some 26), .fadr 1 (.t 4), none⟩,
    ⟨(some 27), .load false 1 (.t 26), none⟩,
    ⟨(some 28), .len 1 (.t 27), none⟩,
    ⟨(some 11), .mov (.t 28), none⟩])) .skip)) (.ghost (.seq (.reg [
    ⟨(some 30), .fadr 2 (.t 4), none⟩,
    ⟨(some 31), .load false 1 (.t 30), none⟩,
    ⟨(some 32), .mov (.t 1), none⟩,
    ⟨(some 33), .idx 4 (.t 31) (.t 32), none⟩,
    ⟨(some 34), .fadr 3 (.t 33), none⟩,
    ⟨(some 35), .load false 1 (.t 34), none⟩,
    ⟨(some 36), .mov (.t 11), none⟩,
    ⟨(some 37), .mov (.t 3), none⟩,
    ⟨(some 38), .build [(.dat (.val (.int .i64 (0)))), (.dat (.val (.int .i64 (0))))] [(0, 1, (.t 36)), (1, 1, (.t 37))], none⟩,
    ⟨(some 39), .call (.c (.rv (.one (.fn 39 [])))) [(.t 35), (.t 38)], none⟩,
    ⟨(some 29), .mov (.t 39), none⟩,
    ⟨(some 40), .ext (.t 29) 0, none⟩,
    ⟨(some 41), .ext (.t 29) 1, none⟩,
    ⟨(some 42), .ext (.t 29) 2, none⟩,
    ⟨(some 12), .mov (.t 40), none⟩,
    ⟨(some 13), .mov (.t 41), none⟩,
    ⟨(some 14), .mov (.t 42), none⟩]) (.seq (.seq (.reg [
    ⟨(some 43), .mov (.t 14), none⟩,
    ⟨(some 44), .bin .neq (.t 43) (.c (.rv (.one (.dat (.val (.int .i64 (0))))))), none⟩]) (.cond (.t 44) (.seq (.reg [
    ⟨(some 45), .build [.esl, .esl, .esl] [], none⟩,
    ⟨(some 46), .mov (.t 14), none⟩,
    ⟨none, .store 3 (.t 8) (.t 45), none⟩,
    ⟨(some 9), .mov (.c (.rv (.one (.dat (.val (.int .i64 (0))))))), none⟩,
    ⟨(some 10), .mov (.t 46), none⟩]) .ret) .skip)) (.seq (.reg [
    ⟨(some 47), .load true 3 (.t 4), none⟩,
    ⟨(some 48), .call (.c (.rv (.one (.fn 22 [])))) [(.t 47)], none⟩,
    ⟨(some 15), .alloc [.esl, .esl, .esl], none⟩,
    ⟨none, .store 3 (.t 15) (.t 48), none⟩]) (.seq (.seq (.reg [
    ⟨(some 49), .mov (.t 11), none⟩,
    ⟨(some 50), .fadr 1 (.t 15), none⟩,
    ⟨(some 51), .load false 1 (.t 50), none⟩,
    ⟨(some 52), .len 1 (.t 51), none⟩,
    ⟨(some 53), .bin .eql (.t 49) (.t 52), none⟩]) (.cond (.t 53) (.reg [
    ⟨(some 54), .fadr 1 (.t 15), none⟩,
    ⟨(some 55), .load false 1 (.t 54), none⟩,
    ⟨(some 56), .build [(.dat (.val (.int .i64 (0)))), (.dat (.val (.int .i64 (0))))] [], none⟩,
    ⟨(some 57), .bsl 2 [(.dat (.val (.int .i64 (0)))), (.dat (.val (.int .i64 (0))))] 1 [(0, (.t 56))], none⟩,
    ⟨(some 58), .app 2 16 (.t 55) (.t 57), none⟩,
    ⟨(some 59), .fadr 1 (.t 15), none⟩,
    ⟨none, .store 1 (.t 59) (.t 58), none⟩]) .skip)) (.ghost (.seq (.reg [
    ⟨(some 60), .fadr 1 (.t 15), none⟩,
    ⟨(some 61), .load false 1 (.t 60), none⟩,
    ⟨(some 62), .mov (.t 11), none⟩,
    ⟨(some 63), .mov (.t 2), none⟩,
    ⟨(some 64), .build [(.dat (.val (.int .i64 (0)))), (.dat (.val (.int .i64 (0))))] [(0, 1, (.t 63))], none⟩,
    ⟨(some 65), .idx 2 (.t 61) (.t 62), none⟩,
    ⟨none, .store 2 (.t 65) (.t 64), none⟩]) (.seq (.reg [
    ⟨(some 66), .fadr 2 (.t 15), none⟩,
    ⟨(some 67), .load false 1 (.t 66), none⟩,
    ⟨(some 68), .mov (.t 1), none⟩,
    ⟨(some 69), .mov (.t 12), none⟩,
    ⟨(some 70), .idx 4 (.t 67) (.t 68), none⟩,
    ⟨(some 71), .fadr 3 (.t 70), none⟩,
    ⟨none, .store 1 (.t 71) (.t 69), none⟩]) (.seq (.reg [
    ⟨(some 72), .load true 3 (.t 15), none⟩,
    ⟨(some 73), .mov (.t 13), none⟩,
    ⟨none, .store 3 (.t 8) (.t 72), none⟩,
    ⟨(some 9), .mov (.t 73), none⟩,
    ⟨(some 10), .mov (.c (.rv (.one (.dat (.val (.int .i64 (0))))))), none⟩]) .ret))))))))))))⟩
/-! procs: Opened -/
theorem l18 : lowF Try.prog Try.f18 = some c18.er := by kernel_rfl
def toT (s : Sl3) : Tb.Slot := ⟨s.has, ⟨s.opn, s.rts⟩⟩
def ofT (s : Tb.Slot) : Sl3 := ⟨s.has, s.cap.opn, s.cap.rts⟩
theorem toT_enc (l : List Sl3) : (l.map toT).map Tb.Slot.enc = l.map Sl3.enc := by rw [List.map_map]; rfl
theorem ofT_enc (l : List Tb.Slot) : (l.map ofT).map Sl3.enc = l.map Tb.Slot.enc := by rw [List.map_map]; rfl
theorem slotsD_eq (l : List Sl3) : Tb.slotsD (l.map toT) = sl3D l := by rw [Tb.slotsD, toT_enc]; rfl
theorem slotsR_eq (l : List Tb.Slot) : Tb.slotsR l = sl3R (l.map ofT) := by
  show RV.one (.dat (.sl 3 (l.map Tb.Slot.enc))) = .one (.dat (.sl 3 ((l.map ofT).map Sl3.enc)))
  rw [ofT_enc]
/-- what table.Put answers, over these slots -/
def putL (l : List Sl3) (opn rts : Int) : List Sl3 × Int × Int := ((Tb.putS (l.map toT) ⟨opn, rts⟩).1.map ofT, (Tb.putS (l.map toT) ⟨opn, rts⟩).2.1, (Tb.putS (l.map toT) ⟨opn, rts⟩).2.2)
theorem tput_ok (l : List Sl3) (hb : l.length ≤ 2097152) (opn rts : Int) {m : Mem} {K : CV → Mem → Prop} (h : K (.tup [sl3R (putL l opn rts).1, iRV (putL l opn rts).2.1, iRV (putL l opn rts).2.2]) m) :
    ACall Try.prog 39 [sl3V l, .rv (.agg [.dat (.val (.int .i64 opn)), .dat (.val (.int .i64 rts))])] m K := by
  have := Tb.put_ok (l.map toT) (by simpa using hb) ⟨opn, rts⟩ (m := m) (K := K) (by
    rw [slotsR_eq]
    exact h)
  have e : Tb.slotsV (l.map toT) = sl3V l := by
    show CV.rv (.one (.dat (Tb.slotsD (l.map toT)))) = _
    rw [slotsD_eq]; rfl
  rw [e] at this
  exact this
def openI (ops : List Opn) : Nat := (opF ops).getD ops.length
def slotsAt (ps : List Prc) (n : Nat) : List Sl3 := match ps[n]? with | some x => x.slots | none => []
def setOp (ops : List Opn) (i : Nat) (o : Opn) : List Opn := if i = ops.length then ops ++ [o] else ops.set i o
def setSl (ps : List Prc) (n : Nat) (l : List Sl3) : List Prc := match ps[n]? with | some x => ps.set n { x with slots := l } | none => ps
def openedS (k : Kr) (n : Nat) (obj rts : Int) : Kr × Int × Int :=
  if opF k.ops = none ∧ k.ops.length ≥ 60 then (nilK, 0, 15)
  else if (putL (slotsAt k.ps n) (openI k.ops) rts).2.2 ≠ 0 then (nilK, 0, (putL (slotsAt k.ps n) (openI k.ops) rts).2.2)
  else (⟨k.l, setOp k.ops (openI k.ops) ⟨obj, 0⟩, setSl k.ps n (putL (slotsAt k.ps n) (openI k.ops) rts).1⟩, (putL (slotsAt k.ps n) (openI k.ops) rts).2.1, 0)
theorem opF_lt {ops : List Opn} {i : Nat} (h : opF ops = some i) : i < ops.length := (List.findIdx?_eq_some_iff_getElem.1 h).1
def C30 : LC := sndS (sndS (sndS c18.code))
def G30 : LC := unG C30
def C60 : LC := sndS (sndS (sndS (sndS G30)))
def G60 : LC := unG C60
def M60 (l : List Obj) (O : List Opn) (ps : List Prc) : Mem := [.var [.esl, .esl, .esl], .row 9 (dRows (l.map Obj.enc)), .row 2 (dRows (O.map Opn.enc)), .row 4 (dRows (ps.map Prc.enc)), .var [.row 1 9 0 none, .row 2 2 0 none, .row 3 4 0 none]]
theorem frzK {m : Mem} {a b c : Nat} {l : List Obj} {ops : List Opn} {ps : List Prc} (h1 : m[a]? = some (.row 9 (dRows (l.map Obj.enc)))) (h2 : m[b]? = some (.row 2 (dRows (ops.map Opn.enc)))) (h3 : m[c]? = some (.row 4 (dRows (ps.map Prc.enc)))) :
    FrzR m (.agg [.row a 9 0 none, .row b 2 0 none, .row c 4 0 none]) (kernR ⟨l, ops, ps⟩) := by
  refine .agg rfl fun i c c' e1 e2 => ?_
  match i, e1, e2 with
  | 0, e1, e2 => cases e1; cases e2; exact FrzC.rowD h1 0 none
  | 1, e1, e2 => cases e1; cases e2; exact FrzC.rowD h2 0 none
  | 2, e1, e2 => cases e1; cases e2; exact FrzC.rowD h3 0 none
  | n + 3, e1, e2 => simp at e1
set_option maxRecDepth 100000 in
set_option maxHeartbeats 16000000 in
theorem seg60 (l : List Obj) (O : List Opn) (ps : List Prc) (n i : Nat) (hn : n < ps.length) (hi : i < O.length) (obj fd : Int) (y : List Sl3) :
    aw Try.prog 0 G60 (endK Try.prog c18.res (fun r m => FrzV m r (.tup [kernR ⟨l, O.set i ⟨obj, 0⟩, setSl ps n y⟩, iRV fd, iRV 0])))
      ⟨mkE 74 [(1, vInt .i64 (n : Nat)), (2, vInt .i64 obj), (8, .rv (.one (.ptr 0 0))), (11, vInt .i64 (i : Nat)), (12, sl3V y), (13, vInt .i64 fd), (15, .rv (.one (.ptr 4 0)))], M60 l O ps⟩ := by
  refine ok_some (op_idx hi) ?_
  have ho := dRows_nth' Opn.enc O hi
  generalize O[i] = x at ho
  obtain ⟨xo, xa⟩ := x
  refine ok_some ho ?_
  refine ok_some (pr_idx hn) ?_
  have hp := dRows_nth' Prc.enc ps hn
  have hps : setSl ps n y = ps.set n { ps[n] with slots := y } := by rw [setSl, List.getElem?_eq_getElem hn]
  rw [hps]
  generalize ps[n] = z at hp
  obtain ⟨live, fenced, cd, slots⟩ := z
  refine ok_some hp ?_
  refine frz3 (frzK ?_ ?_ ?_) (FrzR.self rfl)
  · rfl
  · refine congrArg (fun x => some (Bk.row 2 x)) ?_
    show setN (dRows (O.map Opn.enc)) i ((Opn.enc ⟨obj, 0⟩).map .dat) = _
    rw [setN_eq, dRows, dRows, List.map_set, List.map_set]
  · refine congrArg (fun x => some (Bk.row 4 x)) ?_
    show setN (dRows (ps.map Prc.enc)) n ((Prc.enc ⟨live, fenced, cd, y⟩).map .dat) = _
    rw [setN_eq, dRows, dRows, List.map_set, List.map_set]
set_option maxRecDepth 100000 in
set_option maxHeartbeats 16000000 in
theorem seg30 (k : Kr) (hk : KrOK k.l k.ops k.ps) (n : Nat) (hn : n < k.ps.length) (obj rts : Int) (i : Nat) (hi : i = openI k.ops) (hil : i ≤ k.ops.length) (hno : ¬ (opF k.ops = none ∧ k.ops.length ≥ 60)) :
    aw Try.prog 0 G30 (endK Try.prog c18.res (fun r m => FrzV m r (.tup [kernR (openedS k n obj rts).1, iRV (openedS k n obj rts).2.1, iRV (openedS k n obj rts).2.2])))
      ⟨mkE 74 [(1, vInt .i64 (n : Nat)), (2, vInt .i64 obj), (3, vInt .i64 rts), (4, .rv (.one (.ptr 0 0))), (8, .rv (.one (.ptr 1 0))), (11, vInt .i64 (i : Nat))], [.var ((kC k.l k.ops k.ps).map .dat), .var [.esl, .esl, .esl]]⟩ := by
  have hsa : slotsAt k.ps n = k.ps[n].slots := by rw [slotsAt, List.getElem?_eq_getElem hn]
  have hsl := hk.sl _ (List.getElem_mem hn)
  have hlop : k.ops.length ≤ 4194304 := hk.lo
  rw [openedS, if_neg hno, hsa, ← hi]
  refine ok_some (prc_get hn) ?_
  generalize k.ps[n].slots = S at hsl
  refine tput_ok S (by omega) (i : Nat) rts ?_
  generalize putL S (i : Nat) rts = A
  obtain ⟨y, fd, e⟩ := A
  refine bB_bne (fun he => ?_) (fun he => ?_)
  · rw [if_pos he]
    exact frz3 nilK_frz (FrzR.self rfl)
  have he : e = 0 := he
  subst he
  rw [if_neg (by simp)]
  refine sown_ok k.l k.ops k.ps ⟨hk.ll, fun o ho => (hk.sm o ho).fit⟩ hk.lo hk.lp hk.sl hk.ne ?_
  refine bB_beq (fun hie => ?_) (fun hie => ?_)
  · have hie : i = k.ops.length := by
      have hie : (i : Int) = ((dRows (k.ops.map Opn.enc)).length : Int) := hie
      rw [dRows_len, List.length_map] at hie
      omega
    have hset : setOp k.ops i ⟨obj, 0⟩ = (k.ops ++ [Opn.mk 0 0]).set i ⟨obj, 0⟩ := by rw [setOp, if_pos hie, hie]; simp
    rw [hset]
    refine ⟨by simp only [subL, dRows_len, List.length_map, List.length_cons, List.length_nil]; omega, ?_⟩
    refine ⟨_, View.of 8 [1, 2, 7, 4, 5] [] rfl rfl rfl rfl rfl rfl ?_ ?_, seg60 k.l (k.ops ++ [Opn.mk 0 0]) k.ps n i hn (by simp; omega) obj fd y⟩
    · repeat (first | exact .nil | refine .junk ?_ | refine .eq rfl ?_)
    · exact .put (notF rfl) rfl (.eq rfl (by simp)) (.put (notF rfl) rfl (.rowDE rfl) (.put (notF rfl) rfl (.rowDE (by simp [subL, dRows, Opn.enc])) (.put (notF rfl) rfl (.rowDE rfl) (.put (notF rfl) rfl (.eq rfl (by simp)) (.nil _)))))
  · have hlt : i < k.ops.length := by
      have hie : ¬ (i : Int) = ((dRows (k.ops.map Opn.enc)).length : Int) := hie
      rw [dRows_len, List.length_map] at hie
      omega
    have hset : setOp k.ops i ⟨obj, 0⟩ = k.ops.set i ⟨obj, 0⟩ := by rw [setOp, if_neg (by omega)]
    rw [hset]
    refine ⟨_, View.of 6 [1, 2, 3, 4, 5] [] rfl rfl rfl rfl rfl rfl ?_ ?_, seg60 k.l k.ops k.ps n i hn hlt obj fd y⟩
    · repeat (first | exact .nil | refine .junk ?_ | refine .eq rfl ?_)
    · exact .put (notF rfl) rfl (.eq rfl (by simp)) (.put (notF rfl) rfl (.rowDE rfl) (.put (notF rfl) rfl (.rowDE rfl) (.put (notF rfl) rfl (.rowDE rfl) (.put (notF rfl) rfl (.eq rfl (by simp)) (.nil _)))))
set_option maxRecDepth 100000 in
set_option maxHeartbeats 16000000 in
theorem opened_body (k : Kr) (hk : KrOK k.l k.ops k.ps) (n : Nat) (hn : n < k.ps.length) (obj rts : Int) : body Try.prog c18 [kernV k.l k.ops k.ps, vInt .i64 (n : Nat), vInt .i64 obj, vInt .i64 rts] []
    (fun r m => FrzV m r (.tup [kernR (openedS k n obj rts).1, iRV (openedS k n obj rts).2.1, iRV (openedS k n obj rts).2.2])) := by
  refine oidx_ok k.ops hk.lo ?_
  have hlop : k.ops.length ≤ 4194304 := hk.lo
  cases ho : opF k.ops with
  | none =>
    have hoI : opI k.ops = -1 := by rw [opI, ho]
    have hoi : openI k.ops = k.ops.length := by rw [openI, ho]; rfl
    rw [hoI]
    refine bB_dec (fun h60 => ?_) (fun h60 => ?_)
    · have h60 : k.ops.length ≥ 60 := by
        have h60 : ((k.ops.map Opn.enc).length : Int) ≥ 60 := h60
        rw [List.length_map] at h60
        omega
      rw [openedS, if_pos ⟨ho, h60⟩]
      exact frz3 nilK_frz (FrzR.self rfl)
    · have h60 : ¬ k.ops.length ≥ 60 := by
        have h60 : ¬ ((k.ops.map Opn.enc).length : Int) ≥ 60 := h60
        rw [List.length_map] at h60
        omega
      refine ⟨_, View.of 2 [0, 1] [] rfl rfl rfl rfl rfl rfl ?_ ?_, seg30 k hk n hn obj rts k.ops.length hoi.symm (Nat.le_refl _) (fun h => h60 h.2)⟩
      · have hlen : vInt .i64 (((k.ops.map Opn.enc).length : Nat) : Int) = vInt .i64 ((k.ops.length : Nat) : Int) := by rw [List.length_map]
        repeat (first | exact .nil | refine .junk ?_ | refine .eq rfl ?_)
        refine .eq hlen.symm ?_
        repeat (first | exact .nil | refine .junk ?_ | refine .eq rfl ?_)
      · exact .put (notF rfl) rfl (.eq rfl (by simp [kC])) (.put (notF rfl) rfl (.eq rfl (by simp)) (.nil _))
  | some i =>
    have hoI : opI k.ops = (i : Nat) := by rw [opI, ho]
    have hoi : openI k.ops = i := by rw [openI, ho]; rfl
    have hil := opF_lt ho
    rw [hoI]
    refine ⟨_, View.of 2 [0, 1] [] rfl rfl rfl rfl rfl rfl ?_ ?_, seg30 k hk n hn obj rts i hoi.symm (by omega) (fun h => by rw [ho] at h; cases h.1)⟩
    · repeat (first | exact .nil | refine .junk ?_ | refine .eq rfl ?_)
    · exact .put (notF rfl) rfl (.eq rfl (by simp [kC])) (.put (notF rfl) rfl (.eq rfl (by simp)) (.nil _))
set_option maxRecDepth 100000 in
/-- procs.Opened -/
theorem opened_ok (k : Kr) (hk : KrOK k.l k.ops k.ps) (n : Nat) (hn : n < k.ps.length) (obj rts : Int) {m : Mem} {K : CV → Mem → Prop}
    (h : K (.tup [kernR (openedS k n obj rts).1, iRV (openedS k n obj rts).2.1, iRV (openedS k n obj rts).2.2]) m) : ACall Try.prog 18 [kernV k.l k.ops k.ps, vInt .i64 (n : Nat), vInt .i64 obj, vInt .i64 rts] m K :=
  acall_frame (acall_body_g Try.func18 l18 rfl (Nat.le_of_ble_eq_true rfl) (opened_body k hk n hn obj rts)) (by simp [kernV, objsD, opnD, prcD, vInt, CV.isD, CC.isD, RV.isD]) fun r m1 hf => ⟨_, hf, h⟩

def c10 : LF := ⟨84, [.cell true 3 4, .tmp 5, .tmp 6, .tmp 7], (.seq (.reg [
    ⟨(some 2), .box (.t 0), none⟩,
    ⟨(some 4), .alloc [.esl, .esl, .esl], none⟩,
    ⟨(some 5), .mov (.c (.rv (.one (.dat (.val (.int .i64 (0))))))), none⟩,
    ⟨(some 6), .mov (.c (.rv (.one (.dat (.val (.int .i64 (0))))))), none⟩,
    ⟨(some 7), .mov (.c (.rv (.one (.dat (.val (.int .i64 (0))))))), none⟩]) (.seq (.seq (.reg [
    ⟨(some 14), .load true 3 (.t 2), none⟩,
    ⟨(some 15), .mov (.t 1), none⟩,
    ⟨(some 16), .call (.c (.rv (.one (.fn 16 [])))) [(.t 14), (.t 15)], none⟩,
    ⟨(some 17), .un .not (.t 16), none⟩]) (.cond (.t 17) (.seq (.reg [
    ⟨(some 18), .build [.esl, .esl, .esl] [], none⟩,
    ⟨none, .store 3 (.t 4) (.t 18), none⟩,
    ⟨(some 5), .mov (.c (.rv (.one (.dat (.val (.int .i64 (0))))))), none⟩,
    ⟨(some 6), .mov (.c (.rv (.one (.dat (.val (.int .i64 (0))))))), none⟩,
    ⟨(some 7), .mov (.c (.rv (.one (.dat (.val (.int .i64 (6))))))), none⟩]) .ret) .skip)) (.seq (.reg [
    ⟨(some 19), .call (.c (.rv (.one (.fn 33 [])))) [(.t 2)], none⟩,
    ⟨(some 8), .mov (.t 19), none⟩]) (.seq (.seq (.reg [
    ⟨(some 20), .mov (.t 8), none⟩,
    ⟨(some 21), .bin .lss (.t 20) (.c (.rv (.one (.dat (.val (.int .i64 (0))))))), none⟩]) (.cond (.t 21) (.seq (.reg [
    ⟨(some 22), .build [.esl, .esl, .esl] [], none⟩,
    ⟨none, .store 3 (.t 4) (.t 22), none⟩,
    ⟨(some 5), .mov (.c (.rv (.one (.dat (.val (.int .i64 (0))))))), none⟩,
    ⟨(some 6), .mov (.c (.rv (.one (.dat (.val (.int .i64 (0))))))), none⟩,
    ⟨(some 7), .mov (.c (.rv (.one (.dat (.val (.int .i64 (15))))))), none⟩]) .ret) .skip)) (.seq (.reg [
    ⟨(some 23), .load true 3 (.t 2), none⟩,
    ⟨(some 24), .call (.c (.rv (.one (.fn 22 [])))) [(.t 23)], none⟩,
    ⟨(some 9), .alloc [.esl, .esl, .esl], none⟩,
    ⟨none, .store 3 (.t 9) (.t 24), none⟩]) (.seq (.seq (.reg [
    ⟨(some 25), .mov (.t 8), none⟩,
    ⟨(some 26), .fadr 2 (.t 9), none⟩,
    ⟨(some 27), .load false 1 (.t 26), none⟩,
    ⟨(some 28), .len 1 (.t 27), none⟩,
    ⟨(some 29), .bin .eql (.t 25) (.t 28), none⟩]) (.cond (.t 29) (.reg [
    ⟨(some 30), .fadr 2 (.t 9), none⟩,
    ⟨(some 31), .load false 1 (.t 30), none⟩,
    ⟨(some 32), .build [(.dat (.val (.bool false))), (.dat (.val (.bool false))), (.dat (.val (.int .i64 (0)))), .esl] [], none⟩,
    ⟨(some 33), .bsl 4 [(.dat (.val (.bool false))), (.dat (.val (.bool false))), (.dat (.val (.int .i64 (0)))), .esl] 1 [(0, (.t 32))], none⟩,
    ⟨(some 34), .app 4 40 (.t 31) (.t 33), none⟩,
    ⟨(some 35), .fadr 2 (.t 9), none⟩,
    ⟨none, .store 1 (.t 35) (.t 34), none⟩]) .skip)) (.ghost (.seq (.draw [
    ⟨(some 36), .fadr 2 (.t 9), none⟩,
    ⟨(some 37), .load false 1 (.t 36), none⟩,
    ⟨(some 38), .mov (.t 8), none⟩,
    ⟨(some 39), .fadr 2 (.t 2), none⟩,
    ⟨(some 40), .load false 1 (.t 39), none⟩,
    ⟨(some 41), .mov (.t 1), none⟩,
    ⟨(some 42), .idx 4 (.t 40) (.t 41), none⟩,
    ⟨(some 43), .fadr 1 (.t 42), none⟩,
    ⟨(some 44), .load false 1 (.t 43), none⟩,
    ⟨(some 45), .fadr 2 (.t 2), none⟩,
    ⟨(some 46), .load false 1 (.t 45), none⟩,
    ⟨(some 47), .mov (.t 1), none⟩,
    ⟨(some 48), .idx 4 (.t 46) (.t 47), none⟩,
    ⟨(some 49), .fadr 3 (.t 48), none⟩,
    ⟨(some 50), .load false 1 (.t 49), none⟩,
    ⟨(some 51), .call (.c (.rv (.one (.fn 34 [])))) [(.t 50)], none⟩,
    ⟨(some 52), .build [(.dat (.val (.bool false))), (.dat (.val (.bool false))), (.dat (.val (.int .i64 (0)))), .esl] [(0, 1, (.c (.rv (.one (.dat (.val (.bool true))))))), (1, 1, (.t 44)), (3, 1, (.t 51))], none⟩,
    ⟨(some 53), .idx 4 (.t 37) (.t 38), none⟩,
    ⟨none, .store 4 (.t 53) (.t 52), none⟩]
    [(.cons 0 none (.cons 1 none (.cons 2 none (.cons 3 none (.cons 4 none (.cons 5 none (.cons 6 none (.cons 7 none (.cons 8 none (.cons 9 none (.cons 10 none (.cons 11 none (.cons 12 none (.cons 13 none (.cons 14 none (.cons 15 (some [8, 6, 4, 1]) (.cons 16 none (.cons 17 none (.cons 18 (some []) .nil)))))))))))))))))))]) (.ghost (.seq (.reg [
    ⟨(some 55), .fadr 0 (.t 9), none⟩,
    ⟨(some 56), .load false 1 (.t 55), none⟩,
    ⟨(some 57), .mov (.t 8), none⟩,
    ⟨(some 58), .build [(.dat (.val (.int .i64 (0)))), .esl, .esl, (.dat (.val (.string ⟨#[]⟩))), (.dat (.val (.int .i64 (0)))), .esl, (.dat (.val (.int .i64 (0)))), (.dat (.val (.int .i64 (0)))), (.dat (.val (.int .i64 (0))))] [(0, 1, (.c (.rv (.one (.dat (.val (.int .i64 (5)))))))), (4, 1, (.c (.rv (.one (.dat (.val (.int .i64 (-1)))))))), (6, 1, (.t 57))], none⟩,
    ⟨(some 59), .call (.c (.rv (.one (.fn 35 [])))) [(.t 56), (.t 58)], none⟩,
    ⟨(some 54), .mov (.t 59), none⟩,
    ⟨(some 60), .ext (.t 54) 0, none⟩,
    ⟨(some 61), .ext (.t 54) 1, none⟩,
    ⟨(some 62), .ext (.t 54) 2, none⟩,
    ⟨(some 10), .mov (.t 60), none⟩,
    ⟨(some 11), .mov (.t 61), none⟩,
    ⟨(some 12), .mov (.t 62), none⟩]) (.seq (.seq (.reg [
    ⟨(some 63), .mov (.t 12), none⟩,
    ⟨(some 64), .bin .neq (.t 63) (.c (.rv (.one (.dat (.val (.int .i64 (0))))))), none⟩]) (.cond (.t 64) (.seq (.reg [
    ⟨(some 65), .build [.esl, .esl, .esl] [], none⟩,
    ⟨(some 66), .mov (.t 12), none⟩,
    ⟨none, .store 3 (.t 4) (.t 65), none⟩,
    ⟨(some 5), .mov (.c (.rv (.one (.dat (.val (.int .i64 (0))))))), none⟩,
    ⟨(some 6), .mov (.c (.rv (.one (.dat (.val (.int .i64 (0))))))), none⟩,
    ⟨(some 7), .mov (.t 66), none⟩]) .ret) .skip)) (.seq (.reg [
    ⟨(some 67), .mov (.t 10), none⟩,
    ⟨(some 68), .fadr 0 (.t 9), none⟩,
    ⟨none, .store 1 (.t 68) (.t 67), none⟩]) (.seq (.reg [
    ⟨(some 70), .load true 3 (.t 9), none⟩,
    ⟨(some 71), .mov (.t 1), none⟩,
    ⟨(some 72), .mov (.t 11), none⟩,
    ⟨(some 73), .call (.c (.rv (.one (.fn 18 [])))) [(.t 70), (.t 71), (.t 72), (.c (.rv (.one (.dat (.val (.int .i64 (3200)))))))], none⟩,
    ⟨(some 69), .mov (.t 73), none⟩,
    ⟨(some 74), .ext (.t 69) 0, none⟩,
    ⟨(some 75), .ext (.t 69) 1, none⟩,
    ⟨(some 76), .ext (.t 69) 2, none⟩,
    ⟨none, .store 3 (.t 9) (.t 74), none⟩,
    ⟨(some 13), .mov (.t 75), none⟩,
    ⟨(some 12), .mov (.t 76), none⟩]) (.seq (.seq (.reg [
    ⟨(some 77), .mov (.t 12), none⟩,
    ⟨(some 78), .bin .neq (.t 77) (.c (.rv (.one (.dat (.val (.int .i64 (0))))))), none⟩]) (.cond (.t 78) (.seq (.reg [
    ⟨(some 79), .build [.esl, .esl, .esl] [], none⟩,
    ⟨(some 80), .mov (.t 12), none⟩,
    ⟨none, .store 3 (.t 4) (.t 79), none⟩,
    ⟨(some 5), .mov (.c (.rv (.one (.dat (.val (.int .i64 (0))))))), none⟩,
    ⟨(some 6), .mov (.c (.rv (.one (.dat (.val (.int .i64 (0))))))), none⟩,
    ⟨(some 7), .mov (.t 80), none⟩]) .ret) .skip)) (.seq (.reg [
    ⟨(some 81), .load true 3 (.t 9), none⟩,
    ⟨(some 82), .mov (.t 8), none⟩,
    ⟨(some 83), .mov (.t 13), none⟩,
    ⟨none, .store 3 (.t 4) (.t 81), none⟩,
    ⟨(some 5), .mov (.t 82), none⟩,
    ⟨(some 6), .mov (.t 83), none⟩,
    ⟨(some 7), .mov (.c (.rv (.one (.dat (.val (.int .i64 (0))))))), none⟩]) .ret)))))))))))))))⟩
/-! procs: Fork -/
theorem l10 : lowF Try.prog Try.f10 = some c10.er := by kernel_rfl
def procO (c : Int) : Obj := ⟨5, [], [], ⟨#[]⟩, -1, [], c, 0, 0⟩
theorem procO_sm (c : Int) : (procO c).sm := ⟨⟨⟨[], rfl⟩, ⟨[], rfl⟩, fun q hq => by simp [procO] at hq⟩, by simp [procO], by simp [procO], by simp [procO], fun q hq => by simp [procO] at hq⟩
theorem procArgs (a : CV) (c : Int) : ArgsL [a, .rv (.agg [.dat (.val (.int .i64 5)), .esl, .esl, .dat (.val (.string ⟨#[]⟩)), .dat (.val (.int .i64 (-1))), .esl, .dat (.val (.int .i64 c)), .dat (.val (.int .i64 0)), .dat (.val (.int .i64 0))])] [a, (procO c).cv] :=
  .same _ (.agg (.cons (.same _) (.cons (.esl 1) (.cons (.esl 2) (.cons (.same _) (.cons (.same _) (.cons (.esl 4) (.cons (.same _) (.cons (.same _) (.cons (.same _) .nil))))))))) .nil)
theorem makeS_mem {l : List Obj} {o x : Obj} (h : x ∈ (makeS l o).1) : x ∈ l ∨ x = o := by
  unfold makeS at h
  split at h
  · exact List.mem_or_eq_of_mem_set h
  · split at h
    · simp at h
    · simpa using h
theorem makeS_len (l : List Obj) (o : Obj) : (makeS l o).1.length ≤ l.length + 1 := by
  unfold makeS
  split
  · simp
  · split <;> simp
theorem frz4 {m : Mem} {a b : RV} {x y z : Int} (h : FrzR m a b) : FrzV m (.tup [a, iRV x, iRV y, iRV z]) (.tup [b, iRV x, iRV y, iRV z]) := by
  refine .tup rfl fun i r r' h1 h2 => ?_
  match i, h1, h2 with
  | 0, h1, h2 => cases h1; cases h2; exact h
  | 1, h1, h2 => cases h1; cases h2; exact FrzR.self rfl
  | 2, h1, h2 => cases h1; cases h2; exact FrzR.self rfl
  | 3, h1, h2 => cases h1; cases h2; exact FrzR.self rfl
  | n + 4, h1, h2 => simp at h1
/-- the end of Fork: the descriptor -/
def forkE (l : List Obj) (ops : List Opn) (P : List Prc) (n : Nat) (c : Int) : Kr × Int × Int × Int :=
  if (makeS l (procO c)).2.2 ≠ 0 then (nilK, 0, 0, (makeS l (procO c)).2.2)
  else if (openedS ⟨(makeS l (procO c)).1, ops, P⟩ n (makeS l (procO c)).2.1 3200).2.2 ≠ 0 then (nilK, 0, 0, (openedS ⟨(makeS l (procO c)).1, ops, P⟩ n (makeS l (procO c)).2.1 3200).2.2)
  else ((openedS ⟨(makeS l (procO c)).1, ops, P⟩ n (makeS l (procO c)).2.1 3200).1, c, (openedS ⟨(makeS l (procO c)).1, ops, P⟩ n (makeS l (procO c)).2.1 3200).2.1, 0)
def forkP (ps : List Prc) (n c : Nat) : List Prc := match ps[n]? with
  | some x => if c = ps.length then ps ++ [⟨true, x.fenced, 0, x.slots⟩] else ps.set c ⟨true, x.fenced, 0, x.slots⟩
  | none => ps
def forkS (k : Kr) (p : Int) : Kr × Int × Int × Int :=
  if liveB k.ps p = false then (nilK, 0, 0, 6) else if pfreeS k.l k.ps < 0 then (nilK, 0, 0, 15)
  else forkE k.l k.ops (forkP k.ps p.toNat (pfreeS k.l k.ps).toNat) p.toNat (pfreeS k.l k.ps)
def forkR (a : Kr × Int × Int × Int) : CV := .tup [kernR a.1, iRV a.2.1, iRV a.2.2.1, iRV a.2.2.2]
def C36 : LC := sndS (sndS (sndS (sndS (sndS (sndS c10.code)))))
def G36 : LC := unG C36
def C55 : LC := sndS G36
def G55 : LC := unG C55
set_option maxRecDepth 100000 in
set_option maxHeartbeats 16000000 in
theorem seg55 (l : List Obj) (ops : List Opn) (P : List Prc) (hk : KrOK l ops P) (hl40 : l.length ≤ 4194303) (n : Nat) (hn : n < P.length) (c : Int) :
    aw Try.prog 0 G55 (endK Try.prog c10.res (fun r m => FrzV m r (forkR (forkE l ops P n c))))
      ⟨mkE 84 [(1, vInt .i64 (n : Nat)), (4, .rv (.one (.ptr 0 0))), (8, vInt .i64 c), (9, .rv (.one (.ptr 1 0)))], [.var [.esl, .esl, .esl], .var ((kC l ops P).map .dat)]⟩ := by
  have hA1 : ∀ x, x ∈ (makeS l (procO c)).1 → x.sm := fun x hx => by
    rcases makeS_mem hx with hx | rfl
    · exact hk.sm x hx
    · exact procO_sm c
  have hA2 := makeS_len l (procO c)
  refine acall_le (procArgs _ _) (make_ok l ⟨hk.ll, fun o ho => (hk.sm o ho).fit⟩ (procO c) ?_)
  unfold forkE
  generalize makeS l (procO c) = A at hA1 hA2
  obtain ⟨A1, k, e⟩ := A
  refine bB_bne (fun he => ?_) (fun he => ?_)
  · rw [if_pos he]
    exact frz4 nilK_frz
  have he : e = 0 := he
  subst he
  rw [if_neg (by simp)]
  refine opened_ok ⟨A1, ops, P⟩ ⟨hA1, by have hA2 : A1.length ≤ l.length + 1 := hA2; show A1.length ≤ 4194304; omega, hk.lo, hk.lp, hk.sl, hk.ne⟩ n hn k 3200 ?_
  generalize openedS ⟨A1, ops, P⟩ n k 3200 = B
  obtain ⟨B1, fd, e2⟩ := B
  refine bB_bne (fun he2 => ?_) (fun he2 => ?_)
  · rw [if_pos he2]
    exact frz4 nilK_frz
  have he2 : e2 = 0 := he2
  subst he2
  rw [if_neg (by simp)]
  exact frz4 (FrzR.self (kernR_D _))
theorem pfreeG_spec (l : List Obj) (ps : List Prc) : ∀ (n p c : Nat), pfreeG l ps n p = (c : Nat) → p ≤ ps.length → c ≤ ps.length ∧ p ≤ c ∧ c < p + n ∧ (c < ps.length → pdead l ps c = true)
  | 0, p, c, h, _ => by
    have h : (-1 : Int) = (c : Nat) := h
    omega
  | n + 1, p, c, h, hp => by
    rw [pfreeG] at h
    by_cases h1 : p = ps.length
    · rw [if_pos h1] at h
      have : p = c := by omega
      subst this
      exact ⟨by omega, by omega, by omega, fun h2 => by omega⟩
    · rw [if_neg h1] at h
      by_cases h2 : pdead l ps p = true
      · rw [if_pos h2] at h
        have : p = c := by omega
        subst this
        exact ⟨by omega, by omega, by omega, fun _ => h2⟩
      · rw [if_neg h2] at h
        obtain ⟨a, b, c1, d⟩ := pfreeG_spec l ps n (p + 1) c h (by omega)
        exact ⟨a, by omega, by omega, d⟩
set_option maxRecDepth 100000 in
set_option maxHeartbeats 16000000 in
theorem seg36 (k : Kr) (hk : KrOK k.l k.ops k.ps) (hl40 : k.l.length ≤ 4194303) (P : List Prc) (hP : ∀ p, p ∈ P → p.slots.length ≤ 10) (hPl : P.length ≤ 4194304) (n : Nat) (hn : n < k.ps.length) (hnP : n < P.length) (c : Nat) (hc : c < P.length) :
    aw Try.prog 0 G36 (endK Try.prog c10.res (fun r m => FrzV m r (forkR (forkE k.l k.ops (P.set c ⟨true, k.ps[n].fenced, 0, k.ps[n].slots⟩) n (c : Nat)))))
      ⟨mkE 84 [(1, vInt .i64 (n : Nat)), (2, .rv (.one (.ptr 0 0))), (4, .rv (.one (.ptr 1 0))), (8, vInt .i64 (c : Nat)), (9, .rv (.one (.ptr 5 0)))],
        [.var ((kC k.l k.ops k.ps).map .dat), .var [.esl, .esl, .esl], .row 9 (dRows (k.l.map Obj.enc)), .row 2 (dRows (k.ops.map Opn.enc)), .row 4 (dRows (P.map Prc.enc)), .var [.row 2 9 0 none, .row 3 2 0 none, .row 4 4 0 none]]⟩ := by
  have hg := prc_get hn
  have hsl := hk.sl _ (List.getElem_mem hn)
  have hr := dRows_nth' Prc.enc P hc
  generalize k.ps[n] = z at hg hsl
  obtain ⟨live, fenced, cd, slots⟩ := z
  have hsl : slots.length ≤ 10 := hsl
  generalize P[c] = w at hr
  obtain ⟨wl, wf, wc, ws⟩ := w
  refine ok_some hg ?_
  refine ok_some hg ?_
  refine sclone_ok slots (by omega) ?_
  refine ⟨⟨rfl, ok_some hg rfl, rfl, rfl, trivial⟩, ?_⟩
  refine ok_some (pr_idx hc) ?_
  refine ok_some hr ?_
  refine ⟨trivial, ?_⟩
  have hset : ∀ x, x ∈ P.set c ⟨true, fenced, 0, slots⟩ → x.slots.length ≤ 10 := fun x hx => by
    rcases List.mem_or_eq_of_mem_set hx with hx | rfl
    · exact hP x hx
    · exact hsl
  have hfin := seg55 k.l k.ops (P.set c ⟨true, fenced, 0, slots⟩) ⟨hk.sm, hk.ll, hk.lo, by rw [List.length_set]; exact hPl, hset, fun h => by have := congrArg List.length h; rw [List.length_set, List.length_nil] at this; omega⟩ hl40 n (by rw [List.length_set]; exact hnP) (c : Nat)
  refine ⟨_, View.of 6 [1, 5] [2, 3, 4] rfl rfl rfl rfl rfl rfl ?_ ?_, hfin⟩
  · repeat (first | exact .nil | refine .junk ?_ | refine .eq rfl ?_)
  · refine .put (notF rfl) rfl (.eq rfl (by simp)) (.put (notF rfl) rfl (CcsVp.var (.cons (.frz (FrzD.rowD (Z := fun k => memN [2, 3, 4] k = true) rfl rfl 0 none)) (.cons (.frz (FrzD.rowD (Z := fun k => memN [2, 3, 4] k = true) rfl rfl 0 none)) (.cons (.frz (frzSet (Z := fun k => memN [2, 3, 4] k = true) (c := (Prc.enc ⟨true, fenced, 0, slots⟩).map .dat) ?_ rfl rfl)) .nil)))) (.nil _))
    exact .cons (.dat _) (.cons (.dat _) (.cons (.dat _) (.cons (.dat _) .nil)))
set_option maxRecDepth 100000 in
set_option maxHeartbeats 16000000 in
theorem fork_body (k : Kr) (hk : KrOK k.l k.ops k.ps) (hl40 : k.l.length ≤ 4194303) (p : Int) : body Try.prog c10 [kernV k.l k.ops k.ps, vInt .i64 p] [] (fun r m => FrzV m r (forkR (forkS k p))) := by
  refine plive_ok k.l k.ops k.ps p ?_
  have h2 := hk.lp
  refine bB_split (fun h1 => ?_) (fun h1 => ?_)
  · have h1 : liveB k.ps p = false := by simpa using h1
    rw [forkS, if_pos h1]
    exact frz4 nilK_frz
  have h1 : liveB k.ps p = true := by simpa using h1
  obtain ⟨n, rfl, hn, hlv⟩ := live_yes h1
  rw [forkS, if_neg (by rw [h1]; simp)]
  refine acall_look (args0 := [.rv (.one (.ptr 0 0))]) (cs := kC k.l k.ops k.ps) 0 rfl rfl (r0 := vInt .i64 (pfreeS k.l k.ps)) rfl (fun K hK => free_ok k.l hk.ll k.ops k.ps K hK) ?_
  refine bB_dec (fun h3 => ?_) (fun h3 => ?_)
  · rw [if_pos h3]
    exact frz4 nilK_frz
  rw [if_neg h3]
  obtain ⟨c, hc⟩ : ∃ c : Nat, pfreeS k.l k.ps = (c : Int) := ⟨(pfreeS k.l k.ps).toNat, by omega⟩
  obtain ⟨hcs, _, hc8, _⟩ := pfreeG_spec k.l k.ps 8 0 c hc (Nat.zero_le _)
  rw [hc, show ((n : Nat) : Int).toNat = n from rfl, show ((c : Nat) : Int).toNat = c from rfl]
  refine sown_ok k.l k.ops k.ps ⟨hk.ll, fun o ho => (hk.sm o ho).fit⟩ hk.lo hk.lp hk.sl hk.ne ?_
  refine bB_beq (fun hie => ?_) (fun hie => ?_)
  · have hie : c = k.ps.length := by
      have hie : (c : Int) = ((dRows (k.ps.map Prc.enc)).length : Int) := hie
      rw [dRows_len, List.length_map] at hie
      omega
    have hfp : forkP k.ps n c = (k.ps ++ [zeroP]).set c ⟨true, k.ps[n].fenced, 0, k.ps[n].slots⟩ := by
      rw [forkP, List.getElem?_eq_getElem hn]
      simp only []
      rw [if_pos hie, hie]; simp
    rw [hfp]
    refine ⟨by simp only [subL, dRows_len, List.length_map, List.length_cons, List.length_nil]; omega, ?_⟩
    have hfin := seg36 k hk hl40 (k.ps ++ [zeroP]) (fun x hx => by
      rcases List.mem_append.1 hx with hx | hx
      · exact hk.sl x hx
      · simp at hx; subst hx; simp [zeroP]) (by simp; omega) n hn (by simp; omega) c (by simp; omega)
    refine ⟨_, View.of 8 [0, 1, 2, 3, 7, 5] [] rfl rfl rfl rfl rfl rfl ?_ ?_, hfin⟩
    · repeat (first | exact .nil | refine .junk ?_ | refine .eq rfl ?_)
    · exact .put (notF rfl) rfl (.eq rfl (by simp [kC])) (.put (notF rfl) rfl (.eq rfl (by simp)) (.put (notF rfl) rfl (.rowDE rfl) (.put (notF rfl) rfl (.rowDE rfl) (.put (notF rfl) rfl (snocP k.ps zeroP (.frz (.esl 3)) (by simp [subL, dRows, CC.ren, zeroP])) (.put (notF rfl) rfl (.eq rfl (by simp)) (.nil _))))))
  · have hlt : c < k.ps.length := by
      have hie : ¬ (c : Int) = ((dRows (k.ps.map Prc.enc)).length : Int) := hie
      rw [dRows_len, List.length_map] at hie
      omega
    have hfp : forkP k.ps n c = k.ps.set c ⟨true, k.ps[n].fenced, 0, k.ps[n].slots⟩ := by
      rw [forkP, List.getElem?_eq_getElem hn]
      simp only []
      rw [if_neg (by omega)]
    rw [hfp]
    have hfin := seg36 k hk hl40 k.ps hk.sl hk.lp n hn hn c hlt
    refine ⟨_, View.of 6 [0, 1, 2, 3, 4, 5] [] rfl rfl rfl rfl rfl rfl ?_ ?_, hfin⟩
    · repeat (first | exact .nil | refine .junk ?_ | refine .eq rfl ?_)
    · exact .put (notF rfl) rfl (.eq rfl (by simp [kC])) (.put (notF rfl) rfl (.eq rfl (by simp)) (.put (notF rfl) rfl (.rowDE rfl) (.put (notF rfl) rfl (.rowDE rfl) (.put (notF rfl) rfl (.rowDE rfl) (.put (notF rfl) rfl (.eq rfl (by simp)) (.nil _))))))
set_option maxRecDepth 100000 in
/-- procs.Fork -/
theorem fork_ok (k : Kr) (hk : KrOK k.l k.ops k.ps) (hl40 : k.l.length ≤ 4194303) (p : Int) {m : Mem} {K : CV → Mem → Prop} (h : K (forkR (forkS k p)) m) : ACall Try.prog 10 [kernV k.l k.ops k.ps, vInt .i64 p] m K :=
  acall_frame (acall_body_g Try.func10 l10 rfl (Nat.le_of_ble_eq_true rfl) (fork_body k hk hl40 p)) (by simp [kernV, objsD, opnD, prcD, vInt, CV.isD, CC.isD, RV.isD]) fun r m1 hf => ⟨_, hf, h⟩

def c7 : LF := ⟨85, [.tmp 0], (.seq (.reg [
    ⟨(some 0), .mov (.c (.rv (.one (.dat (.val (.bool false)))))), none⟩]) (.seq (.reg [
    ⟨(some 11), .call (.c (.rv (.one (.fn 24 [])))) [], none⟩,
    ⟨(some 1), .alloc [.esl, .esl, .esl], none⟩,
    ⟨none, .store 3 (.t 1) (.t 11), none⟩]) (.seq (.reg [
    ⟨(some 13), .load true 3 (.t 1), none⟩,
    ⟨(some 14), .call (.c (.rv (.one (.fn 10 [])))) [(.t 13), (.c (.rv (.one (.dat (.val (.int .i64 (0)))))))], none⟩,
    ⟨(some 12), .mov (.t 14), none⟩,
    ⟨(some 15), .ext (.t 12) 0, none⟩,
    ⟨(some 16), .ext (.t 12) 1, none⟩,
    ⟨(some 17), .ext (.t 12) 2, none⟩,
    ⟨(some 18), .ext (.t 12) 3, none⟩,
    ⟨(some 2), .alloc [.esl, .esl, .esl], none⟩,
    ⟨none, .store 3 (.t 2) (.t 15), none⟩,
    ⟨(some 3), .mov (.t 16), none⟩,
    ⟨(some 4), .mov (.t 17), none⟩,
    ⟨(some 5), .mov (.t 18), none⟩]) (.seq (.seq (.reg [
    ⟨(some 19), .mov (.t 5), none⟩,
    ⟨(some 20), .bin .neq (.t 19) (.c (.rv (.one (.dat (.val (.int .i64 (0))))))), none⟩,
    ⟨(some 21), .mov (.t 20), none⟩,
    ⟨(some 22), .mov (.t 3), (some (21, false))⟩,
    ⟨(some 23), .bin .neq (.t 22) (.c (.rv (.one (.dat (.val (.int .i64 (1))))))), (some (21, false))⟩,
    ⟨(some 24), .pick (.t 21) (.c (.rv (.one (.dat (.val (.bool true)))))) (.t 23), none⟩,
    ⟨(some 25), .mov (.t 24), none⟩,
    ⟨(some 26), .mov (.t 4), (some (25, false))⟩,
    ⟨(some 27), .bin .neq (.t 26) (.c (.rv (.one (.dat (.val (.int .i64 (1))))))), (some (25, false))⟩,
    ⟨(some 28), .pick (.t 25) (.c (.rv (.one (.dat (.val (.bool true)))))) (.t 27), none⟩,
    ⟨(some 29), .mov (.t 28), none⟩,
    ⟨(some 30), .fadr 2 (.t 2), (some (29, false))⟩,
    ⟨(some 31), .load false 1 (.t 30), (some (29, false))⟩,
    ⟨(some 32), .len 1 (.t 31), (some (29, false))⟩,
    ⟨(some 33), .bin .neq (.t 32) (.c (.rv (.one (.dat (.val (.int .i64 (2))))))), (some (29, false))⟩,
    ⟨(some 34), .pick (.t 29) (.c (.rv (.one (.dat (.val (.bool true)))))) (.t 33), none⟩]) (.cond (.t 34) (.seq (.reg [
    ⟨(some 0), .mov (.c (.rv (.one (.dat (.val (.bool false)))))), none⟩]) .ret) .skip)) (.seq (.reg [
    ⟨(some 36), .load true 3 (.t 2), none⟩,
    ⟨(some 37), .call (.c (.rv (.one (.fn 15 [])))) [(.t 36), (.c (.rv (.one (.dat (.val (.int .i64 (1))))))), (.c (.rv (.one (.dat (.val (.int .i64 (7)))))))], none⟩,
    ⟨(some 35), .mov (.t 37), none⟩,
    ⟨(some 38), .ext (.t 35) 0, none⟩,
    ⟨(some 39), .ext (.t 35) 1, none⟩,
    ⟨(some 6), .alloc [.esl, .esl, .esl], none⟩,
    ⟨none, .store 3 (.t 6) (.t 38), none⟩,
    ⟨(some 7), .mov (.t 39), none⟩]) (.seq (.reg [
    ⟨(some 41), .load true 3 (.t 1), none⟩,
    ⟨(some 42), .call (.c (.rv (.one (.fn 18 [])))) [(.t 41), (.c (.rv (.one (.dat (.val (.int .i64 (0))))))), (.c (.rv (.one (.dat (.val (.int .i64 (0))))))), (.c (.rv (.one (.dat (.val (.int .i64 (5)))))))], none⟩,
    ⟨(some 40), .mov (.t 42), none⟩,
    ⟨(some 43), .ext (.t 40) 0, none⟩,
    ⟨(some 44), .ext (.t 40) 1, none⟩,
    ⟨(some 45), .ext (.t 40) 2, none⟩,
    ⟨(some 8), .alloc [.esl, .esl, .esl], none⟩,
    ⟨none, .store 3 (.t 8) (.t 43), none⟩,
    ⟨(some 9), .mov (.t 44), none⟩,
    ⟨(some 10), .mov (.t 45), none⟩]) (.seq (.reg [
    ⟨(some 46), .mov (.t 7), none⟩,
    ⟨(some 47), .bin .eql (.t 46) (.c (.rv (.one (.dat (.val (.int .i64 (0))))))), none⟩,
    ⟨(some 48), .mov (.t 47), none⟩,
    ⟨(some 49), .mov (.t 10), (some (48, true))⟩,
    ⟨(some 50), .bin .eql (.t 49) (.c (.rv (.one (.dat (.val (.int .i64 (0))))))), (some (48, true))⟩,
    ⟨(some 51), .pick (.t 48) (.t 50) (.c (.rv (.one (.dat (.val (.bool false)))))), none⟩,
    ⟨(some 52), .mov (.t 51), none⟩,
    ⟨(some 53), .load true 3 (.t 6), (some (52, true))⟩,
    ⟨(some 54), .call (.c (.rv (.one (.fn 16 [])))) [(.t 53), (.c (.rv (.one (.dat (.val (.int .i64 (1)))))))], (some (52, true))⟩,
    ⟨(some 55), .un .not (.t 54), (some (52, true))⟩,
    ⟨(some 56), .pick (.t 52) (.t 55) (.c (.rv (.one (.dat (.val (.bool false)))))), none⟩,
    ⟨(some 57), .mov (.t 56), none⟩,
    ⟨(some 58), .load true 3 (.t 2), (some (57, true))⟩,
    ⟨(some 59), .call (.c (.rv (.one (.fn 16 [])))) [(.t 58), (.c (.rv (.one (.dat (.val (.int .i64 (1)))))))], (some (57, true))⟩,
    ⟨(some 60), .pick (.t 57) (.t 59) (.c (.rv (.one (.dat (.val (.bool false)))))), none⟩,
    ⟨(some 61), .mov (.t 60), none⟩,
    ⟨(some 62), .fadr 2 (.t 6), (some (61, true))⟩,
    ⟨(some 63), .load false 1 (.t 62), (some (61, true))⟩,
    ⟨(some 64), .len 1 (.t 63), (some (61, true))⟩,
    ⟨(some 65), .bin .eql (.t 64) (.c (.rv (.one (.dat (.val (.int .i64 (2))))))), (some (61, true))⟩,
    ⟨(some 66), .pick (.t 61) (.t 65) (.c (.rv (.one (.dat (.val (.bool false)))))), none⟩,
    ⟨(some 67), .mov (.t 66), none⟩,
    ⟨(some 68), .fadr 2 (.t 6), (some (67, true))⟩,
    ⟨(some 69), .load false 1 (.t 68), (some (67, true))⟩,
    ⟨(some 70), .idx 4 (.t 69) (.c (.rv (.one (.dat (.val (.int .i64 (1))))))), (some (67, true))⟩,
    ⟨(some 71), .fadr 2 (.t 70), (some (67, true))⟩,
    ⟨(some 72), .load false 1 (.t 71), (some (67, true))⟩,
    ⟨(some 73), .bin .eql (.t 72) (.c (.rv (.one (.dat (.val (.int .i64 (7))))))), (some (67, true))⟩,
    ⟨(some 74), .pick (.t 67) (.t 73) (.c (.rv (.one (.dat (.val (.bool false)))))), none⟩,
    ⟨(some 75), .mov (.t 74), none⟩,
    ⟨(some 76), .mov (.t 9), (some (75, true))⟩,
    ⟨(some 77), .bin .eql (.t 76) (.c (.rv (.one (.dat (.val (.int .i64 (1))))))), (some (75, true))⟩,
    ⟨(some 78), .pick (.t 75) (.t 77) (.c (.rv (.one (.dat (.val (.bool false)))))), none⟩,
    ⟨(some 79), .mov (.t 78), none⟩,
    ⟨(some 80), .fadr 1 (.t 8), (some (79, true))⟩,
    ⟨(some 81), .load false 1 (.t 80), (some (79, true))⟩,
    ⟨(some 82), .len 1 (.t 81), (some (79, true))⟩,
    ⟨(some 83), .bin .eql (.t 82) (.c (.rv (.one (.dat (.val (.int .i64 (2))))))), (some (79, true))⟩,
    ⟨(some 84), .pick (.t 79) (.t 83) (.c (.rv (.one (.dat (.val (.bool false)))))), none⟩,
    ⟨(some 0), .mov (.t 84), none⟩]) .ret)))))))⟩
def c24 : LF := ⟨10, [.cell true 3 0], (.seq (.reg [
    ⟨(some 0), .alloc [.esl, .esl, .esl], none⟩]) (.seq (.reg [
    ⟨(some 1), .call (.c (.rv (.one (.fn 49 [])))) [], none⟩,
    ⟨(some 2), .build [(.dat (.val (.int .i64 (0)))), (.dat (.val (.int .i64 (0))))] [], none⟩,
    ⟨(some 3), .bsl 2 [(.dat (.val (.int .i64 (0)))), (.dat (.val (.int .i64 (0))))] 1 [(0, (.t 2))], none⟩,
    ⟨(some 4), .build [(.dat (.val (.int .i64 (0)))), (.dat (.val (.int .i64 (0))))] [(1, 1, (.c (.rv (.one (.dat (.val (.int .i64 (4095))))))))], none⟩,
    ⟨(some 5), .build [(.dat (.val (.bool false))), (.dat (.val (.int .i64 (0)))), (.dat (.val (.int .i64 (0))))] [(0, 1, (.c (.rv (.one (.dat (.val (.bool true))))))), (1, 2, (.t 4))], none⟩,
    ⟨(some 6), .bsl 3 [(.dat (.val (.bool false))), (.dat (.val (.int .i64 (0)))), (.dat (.val (.int .i64 (0))))] 1 [(0, (.t 5))], none⟩,
    ⟨(some 7), .build [(.dat (.val (.bool false))), (.dat (.val (.bool false))), (.dat (.val (.int .i64 (0)))), .esl] [(0, 1, (.c (.rv (.one (.dat (.val (.bool true))))))), (3, 1, (.t 6))], none⟩,
    ⟨(some 8), .bsl 4 [(.dat (.val (.bool false))), (.dat (.val (.bool false))), (.dat (.val (.int .i64 (0)))), .esl] 1 [(0, (.t 7))], none⟩,
    ⟨(some 9), .build [.esl, .esl, .esl] [(0, 1, (.t 1)), (1, 1, (.t 3)), (2, 1, (.t 8))], none⟩,
    ⟨none, .store 3 (.t 0) (.t 9), none⟩]) .ret))⟩
def c49 : LF := ⟨3, [.tmp 0], (.seq (.reg [
    ⟨(some 0), .mov (.c (.rv (.one .esl))), none⟩]) (.seq (.reg [
    ⟨(some 1), .build [(.dat (.val (.int .i64 (0)))), .esl, .esl, (.dat (.val (.string ⟨#[]⟩))), (.dat (.val (.int .i64 (0)))), .esl, (.dat (.val (.int .i64 (0)))), (.dat (.val (.int .i64 (0)))), (.dat (.val (.int .i64 (0))))] [(0, 1, (.c (.rv (.one (.dat (.val (.int .i64 (2)))))))), (7, 1, (.c (.rv (.one (.dat (.val (.int .i64 (1)))))))), (4, 1, (.c (.rv (.one (.dat (.val (.int .i64 (-1)))))))), (6, 1, (.c (.rv (.one (.dat (.val (.int .i64 (-1))))))))], none⟩,
    ⟨(some 2), .bsl 9 [(.dat (.val (.int .i64 (0)))), .esl, .esl, (.dat (.val (.string ⟨#[]⟩))), (.dat (.val (.int .i64 (0)))), .esl, (.dat (.val (.int .i64 (0)))), (.dat (.val (.int .i64 (0)))), (.dat (.val (.int .i64 (0))))] 1 [(0, (.t 1))], none⟩,
    ⟨(some 0), .mov (.t 2), none⟩]) .ret))⟩
/-! procs.Boot; the closed fact -/
theorem l49 : lowF Try.prog Try.f49 = some c49 := by kernel_rfl
theorem l24 : lowF Try.prog Try.f24 = some c24 := by kernel_rfl
theorem l7 : lowF Try.prog Try.f7 = some c7 := by kernel_rfl
def bootO : Obj := ⟨2, [], [], ⟨#[]⟩, -1, [], -1, 1, 0⟩
def bootK : Kr := ⟨[bootO], [⟨0, 0⟩], [⟨true, false, 0, [⟨true, 0, 4095⟩]⟩]⟩
theorem bootFz {m : Mem} {Z : Nat → Prop} {p : Option Nat} : CcsFz m Z p [.dat (.val (.int .i64 2)), .esl, .esl, .dat (.val (.string ⟨#[]⟩)), .dat (.val (.int .i64 (-1))), .esl, .dat (.val (.int .i64 (-1))), .dat (.val (.int .i64 1)), .dat (.val (.int .i64 0))] bootO.enc :=
  .cons (.dat _) (.cons (.esl 1) (.cons (.esl 2) (.cons (.dat _) (.cons (.dat _) (.cons (.esl 4) (.cons (.dat _) (.cons (.dat _) (.cons (.dat _) .nil))))))))
set_option maxRecDepth 100000 in
theorem new_body : body Try.prog c49 [] [] (fun r m => ∃ r' m', View 0 ⟨[r], m⟩ ⟨[r'], m'⟩ ∧ r' = objsV [bootO] ∧ m' = []) :=
  ⟨_, [], View.of 1 [] [0] rfl rfl rfl rfl rfl rfl (.put (.rv (.one (.frz (RowsFz.frz (Z := fun k => memN [0] k = true) (.cons bootFz .nil) rfl rfl)))) .nil) (.nil _), rfl, rfl⟩
set_option maxRecDepth 100000 in
theorem new_ok {m : Mem} {K : CV → Mem → Prop} (h : K (objsV [bootO]) m) : ACall Try.prog 49 [] m K := by
  refine acall_frame (K0 := fun r m => r = objsV [bootO] ∧ m = []) (acall_view (acall_body Try.func49 l49 rfl (Nat.le_of_ble_eq_true rfl) new_body) fun r m1 h => h) (by simp) fun r m1 hr => ?_
  obtain ⟨rfl, rfl⟩ := hr
  exact ⟨_, FrzV.self rfl, h⟩
set_option maxRecDepth 100000 in
theorem boot_body : body Try.prog c24 [] [] (fun r m => ∃ r' m', View 0 ⟨[r], m⟩ ⟨[r'], m'⟩ ∧ r' = kernV bootK.l bootK.ops bootK.ps ∧ m' = []) := by
  refine new_ok ?_
  refine ⟨_, [], View.of 4 [] [1, 2, 3] rfl rfl rfl rfl rfl rfl (.put (CcsVw.agg (.cons (.ren (.dat _)) (.cons (.frz (RowsFz.frz (Z := fun k => memN [1, 2, 3] k = true) (.cons (.cons (.dat _) (.cons (.dat _) .nil)) .nil) rfl rfl))
    (.cons (.frz (RowsFz.frz (Z := fun k => memN [1, 2, 3] k = true) (.cons (.cons (.dat _) (.cons (.dat _) (.cons (.dat _) (.cons (RowsFz.frz (.cons (.cons (.dat _) (.cons (.dat _) (.cons (.dat _) .nil))) .nil) rfl rfl) .nil)))) .nil) rfl rfl)) .nil)))) .nil) (.nil _), rfl, rfl⟩
set_option maxRecDepth 100000 in
theorem boot_ok {m : Mem} {K : CV → Mem → Prop} (h : K (kernV bootK.l bootK.ops bootK.ps) m) : ACall Try.prog 24 [] m K := by
  refine acall_frame (K0 := fun r m => r = kernV bootK.l bootK.ops bootK.ps ∧ m = []) (acall_view (acall_body Try.func24 l24 rfl (Nat.le_of_ble_eq_true rfl) boot_body) fun r m1 h => h) (by simp) fun r m1 hr => ?_
  obtain ⟨rfl, rfl⟩ := hr
  exact ⟨_, FrzV.self rfl, h⟩
theorem bootK_ok : KrOK bootK.l bootK.ops bootK.ps :=
  ⟨fun o ho => by simp [bootK] at ho; subst ho; exact ⟨⟨⟨[], rfl⟩, ⟨[], rfl⟩, fun q hq => by simp [bootO] at hq⟩, by simp [bootO], by simp [bootO], by simp [bootO], fun q hq => by simp [bootO] at hq⟩, by simp [bootK], by simp [bootK], by simp [bootK], fun p hp => by simp [bootK] at hp; subst hp; simp, by simp [bootK]⟩
def xK : Kr := ⟨[bootO, procO 1], [⟨0, 0⟩, ⟨1, 0⟩], [⟨true, false, 0, [⟨true, 0, 4095⟩, ⟨true, 1, 3200⟩]⟩, ⟨true, false, 0, [⟨true, 0, 4095⟩]⟩]⟩
theorem boot_fork : forkS bootK 0 = (xK, 1, 1, 0) := by rfl
theorem xK_ok : KrOK xK.l xK.ops xK.ps :=
  ⟨fun o ho => by
    simp [xK] at ho
    rcases ho with rfl | rfl
    · exact bootK_ok.sm _ (by simp [bootK])
    · exact procO_sm 1, by simp [xK], by simp [xK], by simp [xK], fun p hp => by simp [xK] at hp; rcases hp with rfl | rfl <;> simp, by simp [xK]⟩
def yK : Kr := ⟨[bootO, procO 1], [⟨0, 0⟩, ⟨1, 0⟩], [⟨true, false, 0, [⟨true, 0, 4095⟩, ⟨true, 1, 3200⟩]⟩, ⟨false, false, 7, []⟩]⟩
theorem x_exit : exitS xK 1 7 = (yK, 0) := by rfl
def zK : Kr := ⟨[bootO], [⟨0, 0⟩, ⟨0, 0⟩], [⟨true, false, 0, [⟨true, 0, 4095⟩, ⟨true, 1, 5⟩]⟩]⟩
theorem boot_opened : openedS bootK 0 0 5 = (zK, 1, 0) := by rfl
set_option maxRecDepth 100000 in
set_option maxHeartbeats 16000000 in
theorem alive10_body : body Try.prog c7 [] [] (fun r m => r = vBool true) := by
  refine boot_ok ?_
  refine fork_ok bootK bootK_ok (by simp [bootK]) 0 ?_
  rw [boot_fork]
  refine exit_ok xK xK_ok 1 7 ?_
  rw [x_exit]
  refine opened_ok bootK bootK_ok 0 (by simp [bootK]) 0 5 ?_
  rw [boot_opened]
  refine plive_ok yK.l yK.ops yK.ps 1 ?_
  refine plive_ok xK.l xK.ops xK.ps 1 ?_
  rfl
set_option maxRecDepth 100000 in
theorem alive10_ok {m : Mem} {K : CV → Mem → Prop} (h : K (vBool true) m) : ACall Try.prog 7 [] m K :=
  acall_val Try.func7 l7 rfl (Nat.le_of_ble_eq_true rfl) alive10_body rfl rfl h

/-! what the document's Sweep leaves of a kernel that was built -/
theorem GoodK.kr {l : List Obj} {op : List Opn} {ps : List Prc} (hk : GoodK l op ps) : KrOK l op ps :=
  ⟨hk.objs.sm, by have := hk.objs.len; omega, by have := hk.opns.1; omega, by have := hk.prcs.1; omega, hk.prcs.2, fun e => by obtain ⟨p, hp, _⟩ := hk.first; rw [e] at hp; simp at hp⟩
theorem GoodK.sz {l : List Obj} {op : List Opn} {ps : List Prc} (hk : GoodK l op ps) : KSz ⟨l, op, ps⟩ :=
  ⟨hk.kr.sm, hk.kr.ll, hk.kr.lo, hk.kr.lp, fun p hp => by have := hk.kr.sl p hp; omega⟩
structure Swp (k : Kr) : Prop where
  kr : KrOK k.l k.ops k.ps
  l40 : k.l.length ≤ 40
  has : ∀ p, p ∈ k.ps → ∀ s, s ∈ p.slots → s.has = true
  first : ∃ p, k.ps[0]? = some p ∧ p.live = true
structure QK (l : List Obj) (ps : List Prc) : Prop where
  l40 : l.length ≤ 40
  sl : ∀ p, p ∈ ps → p.slots.length ≤ 10 ∧ ∀ s, s ∈ p.slots → s.has = true
  first : ∃ p, ps[0]? = some p ∧ p.live = true
theorem QK.step {a b : Kx} {m : Bool} (h : QK a.l a.ps) (s : RStep a b m) : QK b.l b.ps := by
  obtain ⟨⟨L, Q, _, _, e1, e2⟩, e3, _⟩ := s
  refine ⟨by rw [e1, rlS, List.length_mapIdx]; exact h.l40, fun p hp => ?_, ?_⟩
  · rw [e3] at hp
    obtain ⟨i, x, hx, rfl⟩ := mem_mapIdx hp
    unfold rpF
    split
    · exact ⟨by simp [zeroP], by simp [zeroP]⟩
    · exact h.sl x (List.mem_of_getElem? hx)
  · obtain ⟨p, hp, hl⟩ := h.first
    refine ⟨p, ?_, hl⟩
    rw [e3, rpS, List.getElem?_mapIdx, hp]
    rfl
theorem QK.to {a b : Kx} (h : QK a.l a.ps) (s : RTo a b) : QK b.l b.ps := by
  induction s with
  | refl => exact h
  | step _ s ih => exact ih.step s
theorem cutN_pF (l : List Obj) (xs : List Prc) : ∀ k, 1 ≤ cutN (pF l) 1 xs k
  | 0 => Nat.le_refl 1
  | k + 1 => by
    have ih := cutN_pF l xs k
    rw [cutN]
    generalize cutN (pF l) 1 xs k = n at ih ⊢
    split
    · unfold pF; split <;> omega
    · exact ih
theorem take_getElem?0 {α : Type} {l : List α} {n : Nat} (h : 1 ≤ n) : (l.take n)[0]? = l[0]? := by
  rw [List.getElem?_take, if_pos (by omega)]
theorem swk_ok {l : List Obj} {op : List Opn} {ps : List Prc} (hk : GoodK l op ps) {b : Kx} (hx : RFin ⟨l, op, ps⟩ b) (hz : KSz b) : ∃ k : Kr, swK b = kernV k.l k.ops k.ps ∧ Swp k := by
  obtain ⟨a, ha, hb⟩ := hx
  have q0 : QK l ps := ⟨hk.objs.len, fun p hp => ⟨hk.prcs.2 p hp, hk.has p hp⟩, hk.first⟩
  have q1 : QK b.l b.ps := (QK.to (a := ⟨l, op, ps⟩) q0 ha).step hb
  have hsl : ∀ p, p ∈ (clK b).ps → p.slots.length ≤ 10 ∧ ∀ s, s ∈ p.slots → s.has = true := fun p hp => by
    obtain ⟨i, x, hx, rfl⟩ := mem_mapIdx hp
    unfold clF
    split
    · exact ⟨by simp [zeroP], by simp [zeroP]⟩
    · exact q1.sl x (List.mem_of_getElem? hx)
  obtain ⟨p0, hp0, hl0⟩ := q1.first
  have hc0 : (clK b).ps[0]? = some p0 := by
    show (b.ps.mapIdx (clF b.l))[0]? = _
    rw [List.getElem?_mapIdx, hp0]
    rfl
  have hlen : 1 ≤ (clK b).ps.length := (List.getElem?_eq_some_iff.1 hc0).1
  have hpos := cutN_pF b.l (clK b).ps (clK b).ps.length
  have hm1 : 1 ≤ minNat (cutN (pF b.l) 1 (clK b).ps (clK b).ps.length) (clK b).ps.length := by unfold minNat; split <;> omega
  refine ⟨⟨b.l.take (minNat (cutN nF 1 b.l b.l.length) b.l.length), b.ops.take (cutN oF 0 b.ops b.ops.length), (clK b).ps.take (minNat (cutN (pF b.l) 1 (clK b).ps (clK b).ps.length) (clK b).ps.length)⟩, rfl, ?_⟩
  have hl40 := q1.l40
  refine ⟨⟨fun o ho => hz.g o (List.mem_of_mem_take ho), ?_, ?_, ?_, fun p hp => (hsl p (List.mem_of_mem_take hp)).1, fun e => ?_⟩, ?_, fun p hp => (hsl p (List.mem_of_mem_take hp)).2, ⟨p0, ?_, hl0⟩⟩
  · rw [List.length_take]; omega
  · have := hz.ho; rw [List.length_take]; omega
  · have := hz.cl.hp; rw [List.length_take]; omega
  · have := congrArg List.length e
    rw [List.length_take, List.length_nil] at this
    omega
  · rw [List.length_take]; omega
  · rw [take_getElem?0 hm1]; exact hc0


end Go.Proofs.Ytjofmgkcllffnaa
