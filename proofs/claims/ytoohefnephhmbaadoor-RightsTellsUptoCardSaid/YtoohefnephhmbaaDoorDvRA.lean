import Derived.Test.YtoohefnephhmbaaDoorAmZ2
import Derived.Test.YtoohefnephhmbaaDoorDvPRjo
import Derived.Test.YtoohefnephhmbaaDoorAmY
set_option linter.unusedVariables false
set_option linter.unusedSimpArgs false
namespace Go.Proofs.YtoohefnephhmbaaDoor
open Go.AM Go.ChangeShapes Go.WideShapes Go.ChangeAt Go.RowKit
def c41 : LF := ⟨17, [.tmp 2], (.seq (.reg [
    ⟨(some 1), .box (.t 0), none⟩,
    ⟨(some 2), .mov (.c (.rv (.one (.dat (.val (.int .i64 (0))))))), none⟩]) (.seq (.reg [
    ⟨(some 3), .mov (.c (.rv (.one (.dat (.val (.int .i64 (0))))))), none⟩]) (.seq (.seq (.reg [
    ⟨(some 4), .mov (.c (.rv (.one (.dat (.val (.int .i64 (11))))))), none⟩]) (.block 0 (.loop (.seq (.seq (.reg [
    ⟨(some 5), .mov (.t 4), none⟩,
    ⟨(some 6), .bin .geq (.t 5) (.c (.rv (.one (.dat (.val (.int .i64 (0))))))), none⟩]) (.cond (.t 6) .skip (.exit 0))) (.seq (.block 1 (.seq (.reg [
    ⟨(some 9), .mov (.t 3), none⟩,
    ⟨(some 10), .bin .mul (.c (.rv (.one (.dat (.val (.int .i64 (2))))))) (.t 9), none⟩,
    ⟨(some 3), .mov (.t 10), none⟩]) (.seq (.reg [
    ⟨(some 11), .mov (.t 4), none⟩,
    ⟨(some 12), .idxa 12 1 (.t 1) (.t 11), none⟩,
    ⟨(some 13), .load false 1 (.t 12), none⟩]) (.cond (.t 13) (.reg [
    ⟨(some 14), .mov (.t 3), none⟩,
    ⟨(some 15), .bin .add (.t 14) (.c (.rv (.one (.dat (.val (.int .i64 (1))))))), none⟩,
    ⟨(some 3), .mov (.t 15), none⟩]) .skip)))) (.reg [
    ⟨(some 7), .mov (.t 4), none⟩,
    ⟨(some 8), .bin .sub (.t 7) (.c (.rv (.one (.dat (.val (.int .i64 (1))))))), none⟩,
    ⟨(some 4), .mov (.t 8), none⟩])))))) (.seq (.reg [
    ⟨(some 16), .mov (.t 3), none⟩,
    ⟨(some 2), .mov (.t 16), none⟩]) .ret))))⟩
theorem l41 : lowF Tryd.prog Tryd.f41 = some c41 := by kernel_rfl
/-- bits, lowest first, as a number -/
def numL : List Bool → Nat
  | [] => 0
  | b :: r => 2 * numL r + (if b then 1 else 0)
theorem numL_lt : ∀ bs : List Bool, numL bs < 2 ^ bs.length
  | [] => by simp [numL]
  | b :: r => by
    have := numL_lt r
    simp only [numL, List.length_cons, Nat.pow_succ]
    split <;> omega
theorem numL_bit : ∀ (bs : List Bool) (j : Nat), (numL bs).testBit j = (bs[j]?).getD false
  | [], j => by simp [numL]
  | b :: r, 0 => by
    simp only [numL, Nat.testBit_zero, List.getElem?_cons_zero, Option.getD_some]
    cases b
    · have : (2 * numL r + 0) % 2 = 0 := by omega
      simp [this]
    · have : (2 * numL r + 1) % 2 = 1 := by omega
      simp [this]
  | b :: r, j + 1 => by
    simp only [numL, Nat.testBit_succ, List.getElem?_cons_succ]
    rw [← numL_bit r j]
    congr 1
    split <;> omega
def boolD (bs : List Bool) : List Dt := bs.map fun b => .val (.bool b)
def boolV (bs : List Bool) : CV := .rv (.agg ((boolD bs).map CC.dat))
theorem boolD_get {bs : List Bool} {k : Nat} (h : k < bs.length) : readN ((boolD bs).map CC.dat) (0 + k * 1) 1 = some [.dat (.val (.bool bs[k]))] := by
  rw [show 0 + k * 1 = k by omega]
  apply readN_one
  simp [boolD, h]
set_option maxRecDepth 100000 in
set_option maxHeartbeats 4000000 in
theorem num_body (bs : List Bool) (hl : bs.length = 12) : body Tryd.prog c41 [boolV bs] [] (fun r m => r = vInt .i64 (numL bs : Nat)) := by
  refine loop_keep (fun j => j ≤ 12) [] (fun j => [(1, .rv (.one (.ptr 0 0))), (3, vInt .i64 (numL (bs.drop j) : Nat)), (4, vInt .i64 ((j : Int) - 1))]) (fun _ => [.var ((boolD bs).map CC.dat)]) (fun j => j) 12 (Nat.le_refl _) ?_ (fun j hj => ?_)
  · have h0 : bs.drop 12 = [] := List.drop_of_length_le (by omega)
    rw [h0]
    refine View.of 1 [0] [] rfl rfl rfl rfl rfl rfl ?_ ?_
    · repeat (first | exact .nil | refine .junk ?_ | refine .eq rfl ?_)
    · exact .put (by simp [memN]) rfl (.varDE rfl) (.nil _)
  have hj : j ≤ 12 := hj
  refine bB_dec (fun h => ?_) (fun h => ?_)
  · obtain ⟨i, rfl⟩ : ∃ i, j = i + 1 := ⟨j - 1, by have h : (j : Int) - 1 ≥ 0 := h; omega⟩
    have hi : i < bs.length := by omega
    have hd : bs.drop i = bs[i] :: bs.drop (i + 1) := List.drop_eq_getElem_cons hi
    have hidx : idxZ (((i + 1 : Nat) : Int) - 1) 12 = some i := by
      rw [show (((i + 1 : Nat) : Int) - 1) = (i : Int) by omega]
      exact idxZ_nat (by omega)
    have hlt : numL (bs.drop (i + 1)) < 4096 := by
      have := numL_lt (bs.drop (i + 1))
      have h2 : 2 ^ (bs.drop (i + 1)).length ≤ 2 ^ 12 := Nat.pow_le_pow_right (by omega) (by rw [List.length_drop]; omega)
      omega
    have hw : IntKind.i64.wrap (2 * ((numL (bs.drop (i + 1)) : Nat) : Int)) = ((2 * numL (bs.drop (i + 1)) : Nat) : Int) := by
      rw [show 2 * ((numL (bs.drop (i + 1)) : Nat) : Int) = ((2 * numL (bs.drop (i + 1)) : Nat) : Int) by simp]
      exact wrapN (by omega)
    have hn : IntKind.i64.wrap (((i + 1 : Nat) : Int) - 1 - 1) = (i : Int) - 1 := by
      rw [show (((i + 1 : Nat) : Int) - 1 - 1) = (i : Int) - 1 by omega]
      exact IntWalk.i64_in _ (by omega)
    refine ok_some hidx ?_
    refine ok_some (boolD_get hi) ?_
    cases hb : bs[i] with
    | true =>
      have hv : numL (bs.drop i) = 2 * numL (bs.drop (i + 1)) + 1 := by rw [hd, numL, hb]; rfl
      refine ⟨i, (by omega : i ≤ 12), Nat.lt_succ_self i, View.of 1 [0] [] rfl rfl rfl rfl rfl rfl ?_ (.put (by simp [memN]) rfl (.varDE rfl) (.nil _))⟩
      rw [hv]
      have hw2 : IntKind.i64.wrap (IntKind.i64.wrap (2 * ((numL (bs.drop (i + 1)) : Nat) : Int)) + 1) = ((2 * numL (bs.drop (i + 1)) + 1 : Nat) : Int) := by
        rw [hw]
        exact wrapN (n := 2 * numL (bs.drop (i + 1)) + 1) (by omega)
      rw [hw2, hn]
      repeat (first | exact .nil | refine .junk ?_ | refine .eq rfl ?_)
    | false =>
      have hv : numL (bs.drop i) = 2 * numL (bs.drop (i + 1)) := by rw [hd, numL, hb]; rfl
      refine ⟨i, (by omega : i ≤ 12), Nat.lt_succ_self i, View.of 1 [0] [] rfl rfl rfl rfl rfl rfl ?_ (.put (by simp [memN]) rfl (.varDE rfl) (.nil _))⟩
      rw [hv, hw, hn]
      repeat (first | exact .nil | refine .junk ?_ | refine .eq rfl ?_)
  · have h : ¬ (j : Int) - 1 ≥ 0 := h
    have : j = 0 := by omega
    subst this
    rfl
theorem num_ok (bs : List Bool) (hl : bs.length = 12) {m : Mem} {K : CV → Mem → Prop} (h : K (vInt .i64 (numL bs : Nat)) m) : ACall Tryd.prog 41 [boolV bs] m K :=
  acall_val Tryd.func41 l41 rfl (Nat.le_of_ble_eq_true rfl) (num_body bs hl) (by simp [boolV, boolD, CV.isD, CC.isD]) rfl h
def c23 : LF := ⟨9, [.tmp 2], (.seq (.reg [
    ⟨(some 2), .mov (.c (.rv (.one (.dat (.val (.bool false)))))), none⟩]) (.seq (.reg [
    ⟨(some 3), .mov (.t 0), none⟩,
    ⟨(some 4), .bin .geq (.t 3) (.c (.rv (.one (.dat (.val (.int .i64 (0))))))), none⟩,
    ⟨(some 5), .mov (.t 4), none⟩,
    ⟨(some 6), .mov (.t 0), (some (5, true))⟩,
    ⟨(some 7), .bin .leq (.t 6) (.c (.rv (.one (.dat (.val (.int .i64 (4095))))))), (some (5, true))⟩,
    ⟨(some 8), .pick (.t 5) (.t 7) (.c (.rv (.one (.dat (.val (.bool false)))))), none⟩,
    ⟨(some 2), .mov (.t 8), none⟩]) .ret))⟩
def c26 : LF := ⟨17, [.cell true 12 2], (.seq (.reg [
    ⟨(some 2), .alloc [(.dat (.val (.bool false))), (.dat (.val (.bool false))), (.dat (.val (.bool false))), (.dat (.val (.bool false))), (.dat (.val (.bool false))), (.dat (.val (.bool false))), (.dat (.val (.bool false))), (.dat (.val (.bool false))), (.dat (.val (.bool false))), (.dat (.val (.bool false))), (.dat (.val (.bool false))), (.dat (.val (.bool false)))], none⟩]) (.seq (.reg [
    ⟨(some 3), .alloc [(.dat (.val (.bool false))), (.dat (.val (.bool false))), (.dat (.val (.bool false))), (.dat (.val (.bool false))), (.dat (.val (.bool false))), (.dat (.val (.bool false))), (.dat (.val (.bool false))), (.dat (.val (.bool false))), (.dat (.val (.bool false))), (.dat (.val (.bool false))), (.dat (.val (.bool false))), (.dat (.val (.bool false)))], none⟩]) (.seq (.seq (.reg [
    ⟨(some 5), .mov (.c (.rv (.one (.dat (.val (.int .i64 (0))))))), none⟩]) (.block 0 (.loop (.seq (.reg [
    ⟨(some 6), .bin .lss (.t 5) (.c (.rv (.one (.dat (.val (.int .i64 (12))))))), none⟩]) (.seq (.cond (.t 6) .skip (.exit 0)) (.seq (.block 1 (.seq (.reg [
    ⟨(some 7), .mov (.t 5), none⟩,
    ⟨(some 4), .mov (.t 7), none⟩]) (.seq (.reg [
    ⟨(some 8), .mov (.t 4), none⟩,
    ⟨(some 9), .mov (.t 0), none⟩,
    ⟨(some 10), .bin .rem (.t 9) (.c (.rv (.one (.dat (.val (.int .i64 (2))))))), none⟩,
    ⟨(some 11), .bin .eql (.t 10) (.c (.rv (.one (.dat (.val (.int .i64 (1))))))), none⟩,
    ⟨(some 12), .idxa 12 1 (.t 3) (.t 8), none⟩,
    ⟨none, .store 1 (.t 12) (.t 11), none⟩]) (.reg [
    ⟨(some 13), .mov (.t 0), none⟩,
    ⟨(some 14), .bin .quo (.t 13) (.c (.rv (.one (.dat (.val (.int .i64 (2))))))), none⟩,
    ⟨(some 0), .mov (.t 14), none⟩])))) (.reg [
    ⟨(some 15), .bin .add (.t 5) (.c (.rv (.one (.dat (.val (.int .i64 (1))))))), none⟩,
    ⟨(some 5), .mov (.t 15), none⟩]))))))) (.seq (.reg [
    ⟨(some 16), .load true 12 (.t 3), none⟩,
    ⟨none, .store 12 (.t 2) (.t 16), none⟩]) .ret))))⟩
def c27 : LF := ⟨9, [.tmp 4], (.seq (.reg [
    ⟨(some 4), .mov (.c (.rv (.one (.dat (.val (.bool false)))))), none⟩]) (.seq (.reg [
    ⟨(some 5), .mov (.t 0), none⟩,
    ⟨(some 6), .mov (.t 1), none⟩,
    ⟨(some 7), .bin .andNot (.t 5) (.t 6), none⟩,
    ⟨(some 8), .bin .eql (.t 7) (.c (.rv (.one (.dat (.val (.int .i64 (0))))))), none⟩,
    ⟨(some 4), .mov (.t 8), none⟩]) .ret))⟩
def c28 : LF := ⟨25, [.tmp 4], (.seq (.reg [
    ⟨(some 4), .mov (.c (.rv (.one (.dat (.val (.bool false)))))), none⟩]) (.seq (.reg [
    ⟨(some 8), .mov (.t 0), none⟩,
    ⟨(some 9), .call (.c (.rv (.one (.fn 26 [])))) [(.t 8)], none⟩,
    ⟨(some 10), .mov (.t 1), none⟩,
    ⟨(some 11), .call (.c (.rv (.one (.fn 26 [])))) [(.t 10)], none⟩,
    ⟨(some 5), .alloc [(.dat (.val (.bool false))), (.dat (.val (.bool false))), (.dat (.val (.bool false))), (.dat (.val (.bool false))), (.dat (.val (.bool false))), (.dat (.val (.bool false))), (.dat (.val (.bool false))), (.dat (.val (.bool false))), (.dat (.val (.bool false))), (.dat (.val (.bool false))), (.dat (.val (.bool false))), (.dat (.val (.bool false)))], none⟩,
    ⟨(some 6), .alloc [(.dat (.val (.bool false))), (.dat (.val (.bool false))), (.dat (.val (.bool false))), (.dat (.val (.bool false))), (.dat (.val (.bool false))), (.dat (.val (.bool false))), (.dat (.val (.bool false))), (.dat (.val (.bool false))), (.dat (.val (.bool false))), (.dat (.val (.bool false))), (.dat (.val (.bool false))), (.dat (.val (.bool false)))], none⟩,
    ⟨none, .store 12 (.t 5) (.t 9), none⟩,
    ⟨none, .store 12 (.t 6) (.t 11), none⟩]) (.seq (.seq (.reg [
    ⟨(some 12), .mov (.c (.rv (.one (.dat (.val (.int .i64 (0))))))), none⟩]) (.block 0 (.loop (.seq (.reg [
    ⟨(some 13), .bin .lss (.t 12) (.c (.rv (.one (.dat (.val (.int .i64 (12))))))), none⟩]) (.seq (.cond (.t 13) .skip (.exit 0)) (.seq (.block 1 (.seq (.reg [
    ⟨(some 14), .mov (.t 12), none⟩,
    ⟨(some 7), .mov (.t 14), none⟩]) (.seq (.reg [
    ⟨(some 15), .mov (.t 7), none⟩,
    ⟨(some 16), .idxa 12 1 (.t 5) (.t 15), none⟩,
    ⟨(some 17), .load false 1 (.t 16), none⟩,
    ⟨(some 18), .mov (.t 17), none⟩,
    ⟨(some 19), .mov (.t 7), (some (18, true))⟩,
    ⟨(some 20), .idxa 12 1 (.t 6) (.t 19), (some (18, true))⟩,
    ⟨(some 21), .load false 1 (.t 20), (some (18, true))⟩,
    ⟨(some 22), .un .not (.t 21), (some (18, true))⟩,
    ⟨(some 23), .pick (.t 18) (.t 22) (.c (.rv (.one (.dat (.val (.bool false)))))), none⟩]) (.cond (.t 23) (.seq (.reg [
    ⟨(some 4), .mov (.c (.rv (.one (.dat (.val (.bool false)))))), none⟩]) .ret) .skip)))) (.reg [
    ⟨(some 24), .bin .add (.t 12) (.c (.rv (.one (.dat (.val (.int .i64 (1))))))), none⟩,
    ⟨(some 12), .mov (.t 24), none⟩]))))))) (.seq (.reg [
    ⟨(some 4), .mov (.c (.rv (.one (.dat (.val (.bool true)))))), none⟩]) .ret))))⟩
def c29 : LF := ⟨8, [.tmp 4], (.seq (.reg [
    ⟨(some 4), .mov (.c (.rv (.one (.dat (.val (.int .i64 (0))))))), none⟩]) (.seq (.reg [
    ⟨(some 5), .mov (.t 0), none⟩,
    ⟨(some 6), .mov (.t 1), none⟩,
    ⟨(some 7), .bin .and (.t 5) (.t 6), none⟩,
    ⟨(some 4), .mov (.t 7), none⟩]) .ret))⟩
def c31 : LF := ⟨8, [.tmp 4], (.seq (.reg [
    ⟨(some 4), .mov (.c (.rv (.one (.dat (.val (.int .i64 (0))))))), none⟩]) (.seq (.reg [
    ⟨(some 5), .mov (.t 0), none⟩,
    ⟨(some 6), .mov (.t 1), none⟩,
    ⟨(some 7), .bin .or (.t 5) (.t 6), none⟩,
    ⟨(some 4), .mov (.t 7), none⟩]) .ret))⟩
theorem l26 : lowF Tryd.prog Tryd.f26 = some c26 := by kernel_rfl
theorem l27 : lowF Tryd.prog Tryd.f27 = some c27 := by kernel_rfl
def withinB (a b : Int) : Bool := (IntKind.i64.wrap ((BitVec.ofInt 64 a &&& ~~~ BitVec.ofInt 64 b).toNat : Int)) == 0
set_option maxRecDepth 100000 in
theorem within_ok (a b : Int) {m : Mem} {K : CV → Mem → Prop} (h : K (vBool (withinB a b)) m) : ACall Tryd.prog 27 [vInt .i64 a, vInt .i64 b] m K :=
  acall_val (r0 := vBool (withinB a b)) Tryd.func27 l27 rfl (Nat.le_of_ble_eq_true rfl) (show body Tryd.prog c27 [vInt .i64 a, vInt .i64 b] [] (fun r m => r = vBool (withinB a b)) from rfl) rfl rfl h
/-! Bits -/
def bitsD (n k : Nat) : List Dt := (List.range 12).map fun i => .val (.bool (decide (i < k) && n.testBit i))
theorem bitsD_succ {n k : Nat} (h : k < 12) (b : Bool) (hb : b = n.testBit k) : ((bitsD n k).map CC.dat).set k (.dat (.val (.bool b))) = (bitsD n (k + 1)).map CC.dat := by
  subst hb
  apply List.ext_getElem?
  intro i
  rw [List.getElem?_set]
  simp only [bitsD, List.map_map, List.length_map, List.length_range, List.getElem?_map]
  by_cases hi : k = i
  · subst hi
    rw [if_pos rfl, if_pos h, List.getElem?_range h]
    simp
  · rw [if_neg hi]
    rcases Nat.lt_or_ge i 12 with h2 | h2
    · rw [List.getElem?_range h2]
      have : (i < k) ↔ (i < k + 1) := by omega
      simp [this]
    · rw [List.getElem?_eq_none (by simpa using h2)]
      rfl
theorem tmod2 (n k : Nat) : ((((n / 2 ^ k : Nat) : Int).tmod 2) == 1) = n.testBit k := by
  rw [show (2 : Int) = ((2 : Nat) : Int) from rfl, ← Int.ofNat_tmod, Nat.testBit, Nat.shiftRight_eq_div_pow]
  have h : n / 2 ^ k % 2 < 2 := Nat.mod_lt _ (by omega)
  have e : 1 &&& n / 2 ^ k = n / 2 ^ k % 2 := by rw [Nat.and_comm, Nat.and_one_is_mod]
  rw [e]
  generalize n / 2 ^ k % 2 = x at h
  match x, h with
  | 0, _ => rfl
  | 1, _ => rfl
theorem tdiv2 (n k : Nat) (hn : n ≤ 4095) : IntKind.i64.wrap (((n / 2 ^ k : Nat) : Int).tdiv 2) = ((n / 2 ^ (k + 1) : Nat) : Int) := by
  have e : (((n / 2 ^ k : Nat) : Int).tdiv 2) = ((n / 2 ^ (k + 1) : Nat) : Int) := by
    rw [show (2 : Int) = ((2 : Nat) : Int) from rfl, ← Int.ofNat_tdiv, Nat.div_div_eq_div_mul, Nat.pow_succ]
  rw [e]
  have : n / 2 ^ (k + 1) ≤ n := Nat.div_le_self _ _
  exact wrapN (by omega)
def bitsV (n : Nat) : CV := .rv (.agg ((bitsD n 12).map CC.dat))
set_option maxRecDepth 100000 in
set_option maxHeartbeats 4000000 in
theorem bits_body (n : Nat) (hn : n ≤ 4095) : body Tryd.prog c26 [vInt .i64 n] [] (fun r m => r = bitsV n) := by
  refine loop_mem (fun k => k ≤ 12) (fun k => [(5, vInt .i64 (k : Nat)), (0, vInt .i64 ((n / 2 ^ k : Nat) : Int)), (4, .junk), (6, .junk), (7, .junk), (8, .junk), (9, .junk), (10, .junk), (11, .junk), (12, .junk), (13, .junk), (14, .junk), (15, .junk)])
    (fun k => [.var ((bitsD 0 0).map CC.dat), .var ((bitsD n k).map CC.dat)]) (fun k => 12 - k) 0 (Nat.zero_le _) ?_ (fun k hk => ?_)
  · refine View.of 2 [0, 1] [] rfl rfl rfl rfl rfl rfl ?_ ?_
    · repeat (first | exact .nil | refine .junk ?_ | refine .eq rfl ?_ | refine .eq (congrArg (fun x : Nat => vInt .i64 (x : Int)) (show n / 2 ^ 0 = n by simp)) ?_)
    · refine .put (by simp [memN]) rfl (.varDE ?_) (.put (by simp [memN]) rfl (.varDE ?_) (.nil _))
      · rfl
      · simp [bitsD, List.range, List.range.loop]
  · refine bB_split (fun h => ?_) (fun h => ?_)
    · have hlt : k < 12 := by
        have h : (k : Int) < 12 := of_decide_eq_true h
        omega
      refine ok_some (idxZ_nat hlt) ?_
      have hw : writeN ((bitsD n k).map CC.dat) (0 + k * 1) [.dat (.val (.bool ((((n / 2 ^ k : Nat) : Int).tmod 2) == 1)))] = some ((bitsD n (k + 1)).map CC.dat) := by
        rw [show 0 + k * 1 = k by omega, writeN_one (by simp [bitsD]; exact hlt), bitsD_succ hlt _ (tmod2 n k)]
      refine ok_some hw ?_
      refine ⟨k + 1, hlt, ?_, View.of 2 [0, 1] [] rfl rfl rfl rfl rfl rfl ?_ ?_⟩
      · show 12 - (k + 1) < 12 - k
        omega
      · repeat (first | exact .nil | refine .junk ?_ | refine .put (.ren (next_i64 (by omega)).symm) ?_ | refine .eq (congrArg (fun x => vInt .i64 x) (tdiv2 n k hn).symm) ?_ | refine .eq rfl ?_)
      · exact .put (by simp [memN]) rfl (.varDE rfl) (.put (by simp [memN]) rfl (.varDE rfl) (.nil _))
    · have hge : k = 12 := by
        have h : ¬ (k : Int) < 12 := of_decide_eq_false h
        have : k ≤ 12 := hk
        omega
      subst hge
      exact rfl

set_option maxRecDepth 100000 in
theorem bits_ok (n : Nat) (hn : n ≤ 4095) {m : Mem} {K : CV → Mem → Prop} (h : K (bitsV n) m) : ACall Tryd.prog 26 [vInt .i64 n] m K :=
  acall_val Tryd.func26 l26 rfl (Nat.le_of_ble_eq_true rfl) (bits_body n hn) rfl rfl h
theorem l28 : lowF Tryd.prog Tryd.f28 = some c28 := by kernel_rfl
def subB (a b : Nat) : Bool := (List.range 12).all fun k => !(a.testBit k && !b.testBit k)
theorem bits_get {n k : Nat} (h : k < 12) : readN ((bitsD n 12).map CC.dat) (0 + k * 1) 1 = some [.dat (.val (.bool (n.testBit k)))] := by
  rw [show 0 + k * 1 = k by omega]
  apply readN_one
  simp only [bitsD, List.map_map, List.getElem?_map, List.getElem?_range h]
  simp [h]
set_option maxRecDepth 100000 in
set_option maxHeartbeats 4000000 in
theorem rwithin_body (a b : Nat) (ha : a ≤ 4095) (hb : b ≤ 4095) : body Tryd.prog c28 [vInt .i64 a, vInt .i64 b] [] (fun r m => r = vBool (subB a b)) := by
  refine bits_ok a ha ?_
  refine bits_ok b hb ?_
  refine loop_mem (fun k => k ≤ 12 ∧ ∀ i, i < k → (a.testBit i && !b.testBit i) = false) (fun k => [(12, vInt .i64 (k : Nat)), (7, .junk), (9, .junk), (11, .junk), (13, .junk), (14, .junk), (15, .junk), (16, .junk), (17, .junk), (18, .junk), (19, .junk), (20, .junk), (21, .junk), (22, .junk), (23, .junk), (24, .junk)])
    (fun k => [.var ((bitsD a 12).map CC.dat), .var ((bitsD b 12).map CC.dat)]) (fun k => 12 - k) 0 ⟨Nat.zero_le _, fun i h => absurd h (Nat.not_lt_zero i)⟩ ?_ (fun k hk => ?_)
  · refine View.of 2 [0, 1] [] rfl rfl rfl rfl rfl rfl ?_ ?_
    · repeat (first | exact .nil | refine .junk ?_ | refine .eq rfl ?_)
    · exact .put (by simp [memN]) rfl (.varDE rfl) (.put (by simp [memN]) rfl (.varDE rfl) (.nil _))
  · refine bB_split (fun h => ?_) (fun h => ?_)
    · have hlt : k < 12 := by
        have h : (k : Int) < 12 := of_decide_eq_true h
        omega
      have fin : (a.testBit k && !b.testBit k) = true → subB a b = false := by
        intro h
        rw [subB, List.all_eq_false]
        exact ⟨k, by simpa using hlt, by simp only [h]; decide⟩
      have go : (a.testBit k && !b.testBit k) = false → ∀ i, i < k + 1 → (a.testBit i && !b.testBit i) = false := by
        intro h i hi
        rcases Nat.lt_or_ge i k with h5 | h5
        · exact hk.2 i h5
        · have : i = k := by omega
          rw [this]; exact h
      refine ok_some (idxZ_nat hlt) ?_
      refine ok_some (bits_get hlt) ?_
      refine bB_split (fun h1 => ?_) (fun h1 => ?_)
      · refine ok_some (idxZ_nat hlt) ?_
        refine ok_some (bits_get hlt) ?_
        refine bB_split (fun h2 => ?_) (fun h2 => ?_)
        · show vBool _ = vBool _
          rw [fin (by rw [h1]; exact h2)]
        · refine ⟨k + 1, ⟨hlt, go (by rw [h1]; exact h2)⟩, ?_, View.of 2 [0, 1] [] rfl rfl rfl rfl rfl rfl ?_ ?_⟩
          · show 12 - (k + 1) < 12 - k
            omega
          · repeat (first | exact .nil | refine .junk ?_ | refine .put (.ren (next_i64 (by omega)).symm) ?_ | refine .eq rfl ?_)
          · exact .put (by simp [memN]) rfl (.varDE rfl) (.put (by simp [memN]) rfl (.varDE rfl) (.nil _))
      · refine ⟨k + 1, ⟨hlt, go (by rw [h1]; rfl)⟩, ?_, View.of 2 [0, 1] [] rfl rfl rfl rfl rfl rfl ?_ ?_⟩
        · show 12 - (k + 1) < 12 - k
          omega
        · repeat (first | exact .nil | refine .junk ?_ | refine .put (.ren (next_i64 (by omega)).symm) ?_ | refine .eq rfl ?_)
        · exact .put (by simp [memN]) rfl (.varDE rfl) (.put (by simp [memN]) rfl (.varDE rfl) (.nil _))
    · have hge : k = 12 := by
        have h : ¬ (k : Int) < 12 := of_decide_eq_false h
        have : k ≤ 12 := hk.1
        omega
      subst hge
      show vBool _ = vBool _
      have : subB a b = true := by
        rw [subB, List.all_eq_true]
        intro i hi
        rw [hk.2 i (by simpa using hi)]; rfl
      rw [this]
set_option maxRecDepth 100000 in
theorem rwithin_ok (a b : Nat) (ha : a ≤ 4095) (hb : b ≤ 4095) {m : Mem} {K : CV → Mem → Prop} (h : K (vBool (subB a b)) m) : ACall Tryd.prog 28 [vInt .i64 a, vInt .i64 b] m K :=
  acall_val Tryd.func28 l28 rfl (Nat.le_of_ble_eq_true rfl) (rwithin_body a b ha hb) rfl rfl h
theorem sub_within (a b : Nat) (ha : a ≤ 4095) (hb : b ≤ 4095) : subB a b = withinB a b := by
  have e1 : BitVec.ofInt 64 (a : Int) = BitVec.ofNat 64 a := by simp
  have e2 : BitVec.ofInt 64 (b : Int) = BitVec.ofNat 64 b := by simp
  have hx : ∀ i, ((BitVec.ofNat 64 a &&& ~~~ BitVec.ofNat 64 b).toNat).testBit i = (a.testBit i && !b.testBit i) := by
    intro i
    rw [BitVec.testBit_toNat]
    rcases Nat.lt_or_ge i 64 with h | h
    · rw [BitVec.getLsbD_and, BitVec.getLsbD_not, BitVec.getLsbD_ofNat, BitVec.getLsbD_ofNat]
      simp [h]
    · have : a.testBit i = false := Nat.testBit_lt_two_pow (Nat.lt_of_lt_of_le (by omega : a < 2 ^ 12) (Nat.pow_le_pow_right (by omega) (by omega)))
      simp [this, BitVec.getLsbD_of_ge _ _ h]
  have hsmall : (BitVec.ofNat 64 a &&& ~~~ BitVec.ofNat 64 b).toNat ≤ a := by
    rw [BitVec.toNat_and]
    refine Nat.le_trans Nat.and_le_left ?_
    simp; omega
  rw [withinB, e1, e2, wrapN (by omega)]
  cases hs : subB a b
  · rw [subB, List.all_eq_false] at hs
    obtain ⟨k, _, hk⟩ := hs
    have hk : (a.testBit k && !b.testBit k) = true := by
      cases h : (a.testBit k && !b.testBit k)
      · rw [h] at hk; exact absurd rfl hk
      · rfl
    symm
    rw [beq_eq_false_iff_ne]
    intro h0
    have h0 : (BitVec.ofNat 64 a &&& ~~~ BitVec.ofNat 64 b).toNat = 0 := by omega
    have := hx k
    rw [h0, hk] at this
    simp at this
  · rw [subB, List.all_eq_true] at hs
    symm
    rw [beq_iff_eq]
    have : (BitVec.ofNat 64 a &&& ~~~ BitVec.ofNat 64 b).toNat = 0 := by
      apply Nat.eq_of_testBit_eq
      intro i
      rw [hx i, Nat.zero_testBit]
      rcases Nat.lt_or_ge i 12 with h | h
      · have := hs i (by simpa using h)
        cases h2 : (a.testBit i && !b.testBit i)
        · rfl
        · rw [h2] at this; cases this
      · have : a.testBit i = false := Nat.testBit_lt_two_pow (Nat.lt_of_lt_of_le (by omega : a < 2 ^ 12) (Nat.pow_le_pow_right (by omega) h))
        simp [this]
    omega

/-! one right, both, either -/
theorem l23 : lowF Tryd.prog Tryd.f23 = some c23 := by kernel_rfl
theorem l29 : lowF Tryd.prog Tryd.f29 = some c29 := by kernel_rfl
theorem l31 : lowF Tryd.prog Tryd.f31 = some c31 := by kernel_rfl
def rightB (n : Int) : Bool := decide (n ≥ 0) && decide (n ≤ 4095)
set_option maxRecDepth 100000 in
theorem right_body (n : Int) : body Tryd.prog c23 [vInt .i64 n] [] (fun r m => r = vBool (rightB n)) := by
  refine bB_dec (fun h => ?_) (fun h => ?_)
  · show vBool (decide (n ≤ 4095)) = vBool (rightB n)
    rw [rightB, decide_eq_true h]; rfl
  · show vBool false = vBool (rightB n)
    rw [rightB, decide_eq_false h]; rfl
theorem right_ok (n : Int) {m : Mem} {K : CV → Mem → Prop} (h : K (vBool (rightB n)) m) : ACall Tryd.prog 23 [vInt .i64 n] m K :=
  acall_val Tryd.func23 l23 rfl (Nat.le_of_ble_eq_true rfl) (right_body n) rfl rfl h
def andV (a b : Int) : Int := IntKind.i64.wrap ((BitVec.ofInt 64 a &&& BitVec.ofInt 64 b).toNat : Int)
def orV (a b : Int) : Int := IntKind.i64.wrap ((BitVec.ofInt 64 a ||| BitVec.ofInt 64 b).toNat : Int)
def shl (a : Int) (n : Nat) : Int := IntKind.i64.wrap (a * 2 ^ n)
theorem andV_nat {a b : Nat} (ha : a < 2 ^ 62) (hb : b < 2 ^ 62) : andV (a : Int) (b : Int) = ((a &&& b : Nat) : Int) := by
  have hab : a &&& b < 2 ^ 62 := Nat.lt_of_le_of_lt Nat.and_le_left ha
  have e : (BitVec.ofInt 64 (a : Int) &&& BitVec.ofInt 64 (b : Int)).toNat = a &&& b := by
    rw [BitVec.toNat_and, BitVec.ofInt_natCast, BitVec.ofInt_natCast, BitVec.toNat_ofNat, BitVec.toNat_ofNat, Nat.mod_eq_of_lt (by omega), Nat.mod_eq_of_lt (by omega)]
  rw [andV, e]
  exact wrapN (by omega)
theorem orV_nat {a b : Nat} (ha : a < 2 ^ 62) (hb : b < 2 ^ 62) : orV (a : Int) (b : Int) = ((a ||| b : Nat) : Int) := by
  have hab : a ||| b < 2 ^ 62 := Nat.or_lt_two_pow ha hb
  have e : (BitVec.ofInt 64 (a : Int) ||| BitVec.ofInt 64 (b : Int)).toNat = a ||| b := by
    rw [BitVec.toNat_or, BitVec.ofInt_natCast, BitVec.ofInt_natCast, BitVec.toNat_ofNat, BitVec.toNat_ofNat, Nat.mod_eq_of_lt (by omega), Nat.mod_eq_of_lt (by omega)]
  rw [orV, e]
  exact wrapN (by omega)
theorem shl_nat {a n : Nat} (h : a * 2 ^ n < 2 ^ 62) : shl (a : Int) n = ((a * 2 ^ n : Nat) : Int) := by
  rw [shl]
  have : (a : Int) * 2 ^ n = ((a * 2 ^ n : Nat) : Int) := by simp
  rw [this]
  exact wrapN (by omega)
set_option maxRecDepth 100000 in
theorem meet_ok (a b : Int) {m : Mem} {K : CV → Mem → Prop} (h : K (vInt .i64 (andV a b)) m) : ACall Tryd.prog 29 [vInt .i64 a, vInt .i64 b] m K :=
  acall_val (r0 := vInt .i64 (andV a b)) Tryd.func29 l29 rfl (Nat.le_of_ble_eq_true rfl) (show body Tryd.prog c29 [vInt .i64 a, vInt .i64 b] [] (fun r m => r = vInt .i64 (andV a b)) from rfl) rfl rfl h
set_option maxRecDepth 100000 in
theorem joinR_ok (a b : Int) {m : Mem} {K : CV → Mem → Prop} (h : K (vInt .i64 (orV a b)) m) : ACall Tryd.prog 31 [vInt .i64 a, vInt .i64 b] m K :=
  acall_val (r0 := vInt .i64 (orV a b)) Tryd.func31 l31 rfl (Nat.le_of_ble_eq_true rfl) (show body Tryd.prog c31 [vInt .i64 a, vInt .i64 b] [] (fun r m => r = vInt .i64 (orV a b)) from rfl) rfl rfl h
def c30 : LF := ⟨41, [.tmp 6], (.seq (.reg [
    ⟨(some 6), .mov (.c (.rv (.one (.dat (.val (.int .i64 (0))))))), none⟩]) (.seq (.reg [
    ⟨(some 10), .mov (.t 0), none⟩,
    ⟨(some 11), .call (.c (.rv (.one (.fn 26 [])))) [(.t 10)], none⟩,
    ⟨(some 12), .mov (.t 1), none⟩,
    ⟨(some 13), .call (.c (.rv (.one (.fn 26 [])))) [(.t 12)], none⟩,
    ⟨(some 7), .alloc [(.dat (.val (.bool false))), (.dat (.val (.bool false))), (.dat (.val (.bool false))), (.dat (.val (.bool false))), (.dat (.val (.bool false))), (.dat (.val (.bool false))), (.dat (.val (.bool false))), (.dat (.val (.bool false))), (.dat (.val (.bool false))), (.dat (.val (.bool false))), (.dat (.val (.bool false))), (.dat (.val (.bool false)))], none⟩,
    ⟨(some 8), .alloc [(.dat (.val (.bool false))), (.dat (.val (.bool false))), (.dat (.val (.bool false))), (.dat (.val (.bool false))), (.dat (.val (.bool false))), (.dat (.val (.bool false))), (.dat (.val (.bool false))), (.dat (.val (.bool false))), (.dat (.val (.bool false))), (.dat (.val (.bool false))), (.dat (.val (.bool false))), (.dat (.val (.bool false)))], none⟩,
    ⟨none, .store 12 (.t 7) (.t 11), none⟩,
    ⟨none, .store 12 (.t 8) (.t 13), none⟩]) (.seq (.seq (.reg [
    ⟨(some 14), .mov (.c (.rv (.one (.dat (.val (.int .i64 (0))))))), none⟩]) (.block 0 (.loop (.seq (.reg [
    ⟨(some 15), .bin .lss (.t 14) (.c (.rv (.one (.dat (.val (.int .i64 (12))))))), none⟩]) (.seq (.cond (.t 15) .skip (.exit 0)) (.seq (.block 1 (.seq (.reg [
    ⟨(some 16), .mov (.t 14), none⟩,
    ⟨(some 9), .mov (.t 16), none⟩]) (.seq (.reg [
    ⟨(some 17), .mov (.t 2), none⟩]) (.cond (.t 17) (.reg [
    ⟨(some 18), .mov (.t 9), none⟩,
    ⟨(some 19), .mov (.t 9), none⟩,
    ⟨(some 20), .idxa 12 1 (.t 7) (.t 19), none⟩,
    ⟨(some 21), .load false 1 (.t 20), none⟩,
    ⟨(some 22), .mov (.t 21), none⟩,
    ⟨(some 23), .mov (.t 9), (some (22, true))⟩,
    ⟨(some 24), .idxa 12 1 (.t 8) (.t 23), (some (22, true))⟩,
    ⟨(some 25), .load false 1 (.t 24), (some (22, true))⟩,
    ⟨(some 26), .pick (.t 22) (.t 25) (.c (.rv (.one (.dat (.val (.bool false)))))), none⟩,
    ⟨(some 27), .idxa 12 1 (.t 7) (.t 18), none⟩,
    ⟨none, .store 1 (.t 27) (.t 26), none⟩]) (.reg [
    ⟨(some 28), .mov (.t 9), none⟩,
    ⟨(some 29), .mov (.t 9), none⟩,
    ⟨(some 30), .idxa 12 1 (.t 7) (.t 29), none⟩,
    ⟨(some 31), .load false 1 (.t 30), none⟩,
    ⟨(some 32), .mov (.t 31), none⟩,
    ⟨(some 33), .mov (.t 9), (some (32, false))⟩,
    ⟨(some 34), .idxa 12 1 (.t 8) (.t 33), (some (32, false))⟩,
    ⟨(some 35), .load false 1 (.t 34), (some (32, false))⟩,
    ⟨(some 36), .pick (.t 32) (.c (.rv (.one (.dat (.val (.bool true)))))) (.t 35), none⟩,
    ⟨(some 37), .idxa 12 1 (.t 7) (.t 28), none⟩,
    ⟨none, .store 1 (.t 37) (.t 36), none⟩]))))) (.reg [
    ⟨(some 38), .bin .add (.t 14) (.c (.rv (.one (.dat (.val (.int .i64 (1))))))), none⟩,
    ⟨(some 14), .mov (.t 38), none⟩]))))))) (.seq (.reg [
    ⟨(some 39), .load true 12 (.t 7), none⟩,
    ⟨(some 40), .call (.c (.rv (.one (.fn 41 [])))) [(.t 39)], none⟩,
    ⟨(some 6), .mov (.t 40), none⟩]) .ret))))⟩
theorem l30 : lowF Tryd.prog Tryd.f30 = some c30 := by kernel_rfl
def opB (all : Bool) (x y : Bool) : Bool := if all then x && y else x || y
def mixD (all : Bool) (a b k : Nat) : List Dt := (List.range 12).map fun i => .val (.bool (if i < k then opB all (a.testBit i) (b.testBit i) else a.testBit i))
theorem mixD_zero (all : Bool) (a b : Nat) : mixD all a b 0 = bitsD a 12 := by
  simp only [mixD, bitsD]
  apply List.map_congr_left
  intro i hi
  have : i < 12 := by simpa using hi
  simp [this]
theorem mixD_get {all : Bool} {a b k : Nat} (h : k < 12) : readN ((mixD all a b k).map CC.dat) (0 + k * 1) 1 = some [.dat (.val (.bool (a.testBit k)))] := by
  rw [show 0 + k * 1 = k by omega]
  apply readN_one
  simp only [mixD, List.map_map, List.getElem?_map, List.getElem?_range h]
  simp
theorem mixD_succ {all : Bool} {a b k : Nat} (h : k < 12) (x : Bool) (hx : x = opB all (a.testBit k) (b.testBit k)) : writeN ((mixD all a b k).map CC.dat) (0 + k * 1) [.dat (.val (.bool x))] = some ((mixD all a b (k + 1)).map CC.dat) := by
  rw [show 0 + k * 1 = k by omega, writeN_one (by simp [mixD]; exact h)]
  congr 1
  subst hx
  apply List.ext_getElem?
  intro i
  rw [List.getElem?_set]
  simp only [mixD, List.map_map, List.length_map, List.length_range, List.getElem?_map]
  by_cases hi : k = i
  · subst hi
    rw [if_pos rfl, if_pos h, List.getElem?_range h]
    simp
  · rw [if_neg hi]
    rcases Nat.lt_or_ge i 12 with h2 | h2
    · rw [List.getElem?_range h2]
      have : (i < k) ↔ (i < k + 1) := by omega
      simp [this]
    · rw [List.getElem?_eq_none (by simpa using h2)]
      rfl
def mixL (all : Bool) (a b : Nat) : List Bool := (List.range 12).map fun i => opB all (a.testBit i) (b.testBit i)
theorem mixD_12 (all : Bool) (a b : Nat) : mixD all a b 12 = boolD (mixL all a b) := by
  simp only [mixD, boolD, mixL, List.map_map]
  apply List.map_congr_left
  intro i hi
  have : i < 12 := by simpa using hi
  simp [this]
theorem testBit_big {n i : Nat} (hn : n ≤ 4095) (h : 12 ≤ i) : n.testBit i = false :=
  Nat.testBit_lt_two_pow (Nat.lt_of_lt_of_le (by omega : n < 2 ^ 12) (Nat.pow_le_pow_right (by omega) h))
theorem mix_num (all : Bool) (a b : Nat) (ha : a ≤ 4095) (hb : b ≤ 4095) : numL (mixL all a b) = if all then a &&& b else a ||| b := by
  apply Nat.eq_of_testBit_eq
  intro j
  rw [numL_bit]
  rcases Nat.lt_or_ge j 12 with h | h
  · simp only [mixL, List.getElem?_map, List.getElem?_range h, Option.map_some, Option.getD_some, opB]
    cases all <;> simp
  · rw [List.getElem?_eq_none (by simpa [mixL] using h)]
    cases all <;> simp [testBit_big ha h, testBit_big hb h]
set_option maxRecDepth 100000 in
set_option maxHeartbeats 8000000 in
theorem both_body (a b : Nat) (all : Bool) (ha : a ≤ 4095) (hb : b ≤ 4095) : body Tryd.prog c30 [vInt .i64 a, vInt .i64 b, vBool all] [] (fun r m => r = vInt .i64 (numL (mixL all a b) : Nat)) := by
  refine bits_ok a ha ?_
  refine bits_ok b hb ?_
  refine loop_keep (fun k => k ≤ 12) [2, 7, 8] (fun k => [(14, vInt .i64 (k : Nat))]) (fun k => [.var ((mixD all a b k).map CC.dat), .var ((bitsD b 12).map CC.dat)]) (fun k => 12 - k) 0 (Nat.zero_le _) ?_ (fun k hk => ?_)
  · rw [mixD_zero]
    refine View.of 2 [0, 1] [] rfl rfl rfl rfl rfl rfl ?_ ?_
    · repeat (first | exact .nil | refine .junk ?_ | refine .eq rfl ?_)
    · exact .put (by simp [memN]) rfl (.varDE rfl) (.put (by simp [memN]) rfl (.varDE rfl) (.nil _))
  have hk : k ≤ 12 := hk
  refine bB_dec (fun h => ?_) (fun h => ?_)
  · have hlt : k < 12 := by
      have h : (k : Int) < 12 := h
      omega
    cases all with
    | true =>
      refine ok_some (idxZ_nat hlt) ?_
      refine ok_some (mixD_get hlt) ?_
      refine bB_split (fun h1 => ?_) (fun h1 => ?_)
      · refine ok_some (idxZ_nat hlt) ?_
        refine ok_some (bits_get hlt) ?_
        refine ok_some (idxZ_nat hlt) ?_
        refine ok_some (mixD_succ hlt (b.testBit k) (by rw [h1]; simp [opB])) ?_
        refine ⟨k + 1, hlt, (show 12 - (k + 1) < 12 - k by omega), View.of 2 [0, 1] [] rfl rfl rfl rfl rfl rfl ?_ (.put (by simp [memN]) rfl (.varDE rfl) (.put (by simp [memN]) rfl (.varDE rfl) (.nil _)))⟩
        repeat (first | exact .nil | refine .junk ?_ | refine .put (.ren (next_i64 (by omega)).symm) ?_ | refine .eq rfl ?_)
      · refine ok_some (idxZ_nat hlt) ?_
        refine ok_some (mixD_succ hlt false (by rw [h1]; simp [opB])) ?_
        refine ⟨k + 1, hlt, (show 12 - (k + 1) < 12 - k by omega), View.of 2 [0, 1] [] rfl rfl rfl rfl rfl rfl ?_ (.put (by simp [memN]) rfl (.varDE rfl) (.put (by simp [memN]) rfl (.varDE rfl) (.nil _)))⟩
        repeat (first | exact .nil | refine .junk ?_ | refine .put (.ren (next_i64 (by omega)).symm) ?_ | refine .eq rfl ?_)
    | false =>
      refine ok_some (idxZ_nat hlt) ?_
      refine ok_some (mixD_get hlt) ?_
      refine bB_split (fun h1 => ?_) (fun h1 => ?_)
      · refine ok_some (idxZ_nat hlt) ?_
        refine ok_some (mixD_succ hlt true (by rw [h1]; simp [opB])) ?_
        refine ⟨k + 1, hlt, (show 12 - (k + 1) < 12 - k by omega), View.of 2 [0, 1] [] rfl rfl rfl rfl rfl rfl ?_ (.put (by simp [memN]) rfl (.varDE rfl) (.put (by simp [memN]) rfl (.varDE rfl) (.nil _)))⟩
        repeat (first | exact .nil | refine .junk ?_ | refine .put (.ren (next_i64 (by omega)).symm) ?_ | refine .eq rfl ?_)
      · refine ok_some (idxZ_nat hlt) ?_
        refine ok_some (bits_get hlt) ?_
        refine ok_some (idxZ_nat hlt) ?_
        refine ok_some (mixD_succ hlt (b.testBit k) (by rw [h1]; simp [opB])) ?_
        refine ⟨k + 1, hlt, (show 12 - (k + 1) < 12 - k by omega), View.of 2 [0, 1] [] rfl rfl rfl rfl rfl rfl ?_ (.put (by simp [memN]) rfl (.varDE rfl) (.put (by simp [memN]) rfl (.varDE rfl) (.nil _)))⟩
        repeat (first | exact .nil | refine .junk ?_ | refine .put (.ren (next_i64 (by omega)).symm) ?_ | refine .eq rfl ?_)
  · have hk12 : k = 12 := by
      have h : ¬ (k : Int) < 12 := h
      omega
    subst hk12
    rw [mixD_12]
    refine num_ok (mixL all a b) (by simp [mixL]) ?_
    rfl
theorem both_ok (a b : Nat) (all : Bool) (ha : a ≤ 4095) (hb : b ≤ 4095) {m : Mem} {K : CV → Mem → Prop} (h : K (vInt .i64 ((if all then a &&& b else a ||| b : Nat) : Int)) m) : ACall Tryd.prog 30 [vInt .i64 a, vInt .i64 b, vBool all] m K :=
  acall_val Tryd.func30 l30 rfl (Nat.le_of_ble_eq_true rfl) (both_body a b all ha hb) rfl rfl (by rw [mix_num all a b ha hb]; exact h)
def c24 : LF := ⟨2, [.tmp 0], (.seq (.reg [
    ⟨(some 0), .mov (.c (.rv (.one .esl))), none⟩]) (.seq (.reg [
    ⟨(some 1), .bsl 1 [(.dat (.val (.string ⟨#[]⟩)))] 12 [(0, (.c (.rv (.one (.dat (.val (.string ⟨#[114, 101, 97, 100]⟩))))))), (1, (.c (.rv (.one (.dat (.val (.string ⟨#[119, 114, 105, 116, 101]⟩))))))), (2, (.c (.rv (.one (.dat (.val (.string ⟨#[115, 101, 101, 107]⟩))))))), (3, (.c (.rv (.one (.dat (.val (.string ⟨#[108, 111, 111, 107, 117, 112]⟩))))))), (4, (.c (.rv (.one (.dat (.val (.string ⟨#[99, 114, 101, 97, 116, 101]⟩))))))), (5, (.c (.rv (.one (.dat (.val (.string ⟨#[117, 110, 108, 105, 110, 107]⟩))))))), (6, (.c (.rv (.one (.dat (.val (.string ⟨#[108, 105, 115, 116]⟩))))))), (7, (.c (.rv (.one (.dat (.val (.string ⟨#[115, 116, 97, 116]⟩))))))), (8, (.c (.rv (.one (.dat (.val (.string ⟨#[115, 101, 110, 100]⟩))))))), (9, (.c (.rv (.one (.dat (.val (.string ⟨#[114, 101, 99, 118]⟩))))))), (10, (.c (.rv (.one (.dat (.val (.string ⟨#[119, 97, 105, 116]⟩))))))), (11, (.c (.rv (.one (.dat (.val (.string ⟨#[107, 105, 108, 108]⟩)))))))], none⟩,
    ⟨(some 0), .mov (.t 1), none⟩]) .ret))⟩
def c25 : LF := ⟨2, [.tmp 0], (.seq (.reg [
    ⟨(some 0), .mov (.c (.rv (.one .esl))), none⟩]) (.seq (.reg [
    ⟨(some 1), .bsl 1 [(.dat (.val (.string ⟨#[]⟩)))] 12 [(0, (.c (.rv (.one (.dat (.val (.string ⟨#[114, 101, 97, 100]⟩))))))), (1, (.c (.rv (.one (.dat (.val (.string ⟨#[119, 114, 105, 116, 101]⟩))))))), (2, (.c (.rv (.one (.dat (.val (.string ⟨#[115, 101, 101, 107]⟩))))))), (3, (.c (.rv (.one (.dat (.val (.string ⟨#[108, 111, 111, 107, 117, 112]⟩))))))), (4, (.c (.rv (.one (.dat (.val (.string ⟨#[99, 114, 101, 97, 116, 101]⟩))))))), (5, (.c (.rv (.one (.dat (.val (.string ⟨#[117, 110, 108, 105, 110, 107]⟩))))))), (6, (.c (.rv (.one (.dat (.val (.string ⟨#[108, 105, 115, 116]⟩))))))), (7, (.c (.rv (.one (.dat (.val (.string ⟨#[115, 116, 97, 116]⟩))))))), (8, (.c (.rv (.one (.dat (.val (.string ⟨#[115, 101, 110, 100]⟩))))))), (9, (.c (.rv (.one (.dat (.val (.string ⟨#[114, 101, 99, 118]⟩))))))), (10, (.c (.rv (.one (.dat (.val (.string ⟨#[119, 97, 105, 116]⟩))))))), (11, (.c (.rv (.one (.dat (.val (.string ⟨#[107, 105, 108, 108]⟩)))))))], none⟩,
    ⟨(some 0), .mov (.t 1), none⟩]) .ret))⟩
def c33 : LF := ⟨25, [.tmp 2], (.seq (.reg [
    ⟨(some 2), .mov (.c (.rv (.one (.dat (.val (.string ⟨#[]⟩)))))), none⟩]) (.seq (.reg [
    ⟨(some 3), .mov (.c (.rv (.one .esl))), none⟩]) (.seq (.seq (.reg [
    ⟨(some 6), .call (.c (.rv (.one (.fn 24 [])))) [], none⟩,
    ⟨(some 7), .len 1 (.t 6), none⟩,
    ⟨(some 8), .mov (.c (.rv (.one (.dat (.val (.int .i64 (0))))))), none⟩]) (.block 0 (.loop (.seq (.reg [
    ⟨(some 9), .bin .lss (.t 8) (.t 7), none⟩]) (.seq (.cond (.t 9) .skip (.exit 0)) (.seq (.block 1 (.seq (.reg [
    ⟨(some 10), .mov (.t 8), none⟩,
    ⟨(some 11), .idx 1 (.t 6) (.t 8), none⟩,
    ⟨(some 12), .load false 1 (.t 11), none⟩,
    ⟨(some 4), .mov (.t 10), none⟩,
    ⟨(some 5), .mov (.t 12), none⟩]) (.seq (.reg [
    ⟨(some 13), .mov (.t 0), none⟩,
    ⟨(some 14), .mov (.t 4), none⟩,
    ⟨(some 15), .bin .shr (.t 13) (.t 14), none⟩,
    ⟨(some 16), .bin .and (.t 15) (.c (.rv (.one (.dat (.val (.int .i64 (1))))))), none⟩,
    ⟨(some 17), .bin .eql (.t 16) (.c (.rv (.one (.dat (.val (.int .i64 (1))))))), none⟩]) (.cond (.t 17) (.reg [
    ⟨(some 18), .mov (.t 3), none⟩,
    ⟨(some 19), .mov (.t 5), none⟩,
    ⟨(some 20), .bsl 1 [(.dat (.val (.string ⟨#[]⟩)))] 1 [(0, (.t 19))], none⟩,
    ⟨(some 21), .app 1 16 (.t 18) (.t 20), none⟩,
    ⟨(some 3), .mov (.t 21), none⟩]) .skip)))) (.reg [
    ⟨(some 22), .bin .add (.t 8) (.c (.rv (.one (.dat (.val (.int .i64 (1))))))), none⟩,
    ⟨(some 8), .mov (.t 22), none⟩]))))))) (.seq (.reg [
    ⟨(some 23), .mov (.t 3), none⟩,
    ⟨(some 24), .call (.c (.rv (.one (.fn 40 [])))) [(.t 23), (.c (.rv (.one (.dat (.val (.string ⟨#[44]⟩))))))], none⟩,
    ⟨(some 2), .mov (.t 24), none⟩]) .ret))))⟩
def c34 : LF := ⟨26, [.tmp 2], (.seq (.reg [
    ⟨(some 2), .mov (.c (.rv (.one (.dat (.val (.string ⟨#[]⟩)))))), none⟩]) (.seq (.reg [
    ⟨(some 3), .mov (.c (.rv (.one (.dat (.val (.string ⟨#[]⟩)))))), none⟩]) (.seq (.seq (.reg [
    ⟨(some 6), .mov (.t 0), none⟩,
    ⟨(some 7), .call (.c (.rv (.one (.fn 26 [])))) [(.t 6)], none⟩,
    ⟨(some 8), .mov (.c (.rv (.one (.dat (.val (.int .i64 (0))))))), none⟩]) (.block 0 (.loop (.seq (.reg [
    ⟨(some 9), .bin .lss (.t 8) (.c (.rv (.one (.dat (.val (.int .i64 (12))))))), none⟩]) (.seq (.cond (.t 9) .skip (.exit 0)) (.seq (.block 1 (.seq (.reg [
    ⟨(some 10), .mov (.t 8), none⟩,
    ⟨(some 11), .fldx false 12 1 (.t 7) (.t 8), none⟩,
    ⟨(some 4), .mov (.t 10), none⟩,
    ⟨(some 5), .mov (.t 11), none⟩]) (.seq (.seq (.reg [
    ⟨(some 12), .mov (.t 5), none⟩,
    ⟨(some 13), .un .not (.t 12), none⟩]) (.cond (.t 13) (.exit 1) .skip)) (.seq (.seq (.reg [
    ⟨(some 14), .mov (.t 3), none⟩,
    ⟨(some 15), .bin .neq (.t 14) (.c (.rv (.one (.dat (.val (.string ⟨#[]⟩)))))), none⟩]) (.cond (.t 15) (.reg [
    ⟨(some 16), .mov (.t 3), none⟩,
    ⟨(some 17), .bin .add (.t 16) (.c (.rv (.one (.dat (.val (.string ⟨#[44]⟩)))))), none⟩,
    ⟨(some 3), .mov (.t 17), none⟩]) .skip)) (.reg [
    ⟨(some 18), .mov (.t 3), none⟩,
    ⟨(some 19), .call (.c (.rv (.one (.fn 25 [])))) [], none⟩,
    ⟨(some 20), .mov (.t 4), none⟩,
    ⟨(some 21), .idx 1 (.t 19) (.t 20), none⟩,
    ⟨(some 22), .load false 1 (.t 21), none⟩,
    ⟨(some 23), .bin .add (.t 18) (.t 22), none⟩,
    ⟨(some 3), .mov (.t 23), none⟩]))))) (.reg [
    ⟨(some 24), .bin .add (.t 8) (.c (.rv (.one (.dat (.val (.int .i64 (1))))))), none⟩,
    ⟨(some 8), .mov (.t 24), none⟩]))))))) (.seq (.reg [
    ⟨(some 25), .mov (.t 3), none⟩,
    ⟨(some 2), .mov (.t 25), none⟩]) .ret))))⟩
theorem l24 : lowF Tryd.prog Tryd.f24 = some c24 := by kernel_rfl
theorem l25 : lowF Tryd.prog Tryd.f25 = some c25 := by kernel_rfl
def namesT : List Txt := [[114, 101, 97, 100], [119, 114, 105, 116, 101], [115, 101, 101, 107], [108, 111, 111, 107, 117, 112], [99, 114, 101, 97, 116, 101], [117, 110, 108, 105, 110, 107], [108, 105, 115, 116], [115, 116, 97, 116], [115, 101, 110, 100], [114, 101, 99, 118], [119, 97, 105, 116], [107, 105, 108, 108]]
set_option maxRecDepth 100000 in
theorem names_body : body Tryd.prog c24 [] [] (fun r m => FrzV m r (txV namesT)) := .rv (.one (FrzC.rowD (ds := namesT.map tD) rfl 0 none))
theorem names_ok {m : Mem} {K : CV → Mem → Prop} (h : K (txV namesT) m) : ACall Tryd.prog 24 [] m K :=
  acall_frame (acall_body Tryd.func24 l24 rfl (Nat.le_of_ble_eq_true rfl) names_body) (by simp) fun r m1 hf => ⟨_, hf, h⟩
set_option maxRecDepth 100000 in
theorem rnames_body : body Tryd.prog c25 [] [] (fun r m => FrzV m r (txV namesT)) := .rv (.one (FrzC.rowD (ds := namesT.map tD) rfl 0 none))
theorem rnames_ok {m : Mem} {K : CV → Mem → Prop} (h : K (txV namesT) m) : ACall Tryd.prog 25 [] m K :=
  acall_frame (acall_body Tryd.func25 l25 rfl (Nat.le_of_ble_eq_true rfl) rnames_body) (by simp) fun r m1 hf => ⟨_, hf, h⟩
def nameT (k : Nat) : Txt := (namesT[k]?).getD []
theorem names_get {k : Nat} (h : k < 12) : getZ (namesT.map tD) (k : Nat) = some (tD (nameT k)) := by
  have hl : k < namesT.length := h
  rw [tx_get hl, nameT, List.getElem?_eq_getElem hl]
  rfl
theorem nameT_ne {k : Nat} (h : k < 12) : nameT k ≠ [] := by
  match k, h with
  | 0, _ => decide
  | 1, _ => decide
  | 2, _ => decide
  | 3, _ => decide
  | 4, _ => decide
  | 5, _ => decide
  | 6, _ => decide
  | 7, _ => decide
  | 8, _ => decide
  | 9, _ => decide
  | 10, _ => decide
  | 11, _ => decide
  | n + 12, h => omega
theorem nameT_len {k : Nat} : (nameT k).length ≤ 6 := by
  rcases Nat.lt_or_ge k 12 with h | h
  · match k, h with
    | 0, _ => decide
    | 1, _ => decide
    | 2, _ => decide
    | 3, _ => decide
    | 4, _ => decide
    | 5, _ => decide
    | 6, _ => decide
    | 7, _ => decide
    | 8, _ => decide
    | 9, _ => decide
    | 10, _ => decide
    | 11, _ => decide
    | n + 12, h => omega
  · have : namesT[k]? = none := List.getElem?_eq_none h
    simp [nameT, this]
/-- the rights of a set, below k -/
def kset (n k : Nat) : List Nat := (List.range k).filter fun i => n.testBit i
theorem kset_succ (n k : Nat) : kset n (k + 1) = kset n k ++ (if n.testBit k then [k] else []) := by
  rw [kset, List.range_succ, List.filter_append]
  congr 1
  cases h : n.testBit k <;> simp [h]
theorem kset_len (n k : Nat) : (kset n k).length ≤ k := by
  have := List.length_filter_le (fun i => n.testBit i) (List.range k)
  simpa [kset] using this
def ntx (l : List Nat) : List Txt := l.map nameT
def printS (n : Nat) : Txt := joinT [44] (ntx (kset n 12))
theorem ntx_join : ∀ (l : List Nat), (joinT [44] (ntx l)).length ≤ 7 * l.length
  | [] => by simp [ntx, joinT_nil]
  | x :: r => by
    have h1 : (nameT x).length ≤ 6 := nameT_len
    have key : ∀ r : List Nat, (Lib.joinTail [44] (ntx r)).length ≤ 7 * r.length := by
      intro r
      induction r with
      | nil => simp [ntx, Lib.joinTail]
      | cons y s ih =>
        have h2 : (nameT y).length ≤ 6 := nameT_len
        have : Lib.joinTail [44] (ntx (y :: s)) = 44 :: (nameT y ++ Lib.joinTail [44] (ntx s)) := by simp [ntx, Lib.joinTail]
        rw [this]
        simp only [List.length_cons, List.length_append]
        omega
    have h3 := key r
    rw [ntx, List.map_cons, joinT_cons, List.length_append, List.length_cons]
    show (nameT x).length + (Lib.joinTail [44] (ntx r)).length ≤ _
    omega
theorem shr_bit (n k : Nat) (hn : n ≤ 4095) (hk : k < 12) : (andV ((n : Int).fdiv (2 ^ (min (k : Int).toNat 64))) 1 == 1) = n.testBit k := by
  have h1 : min (k : Int).toNat 64 = k := by omega
  have h2 : (n : Int).fdiv (2 ^ k) = ((n / 2 ^ k : Nat) : Int) := by
    rw [Int.fdiv_eq_ediv_of_nonneg _ (by exact Int.le_of_lt (Int.pow_pos (by omega)))]
    simp
  have h3 : n / 2 ^ k ≤ n := Nat.div_le_self _ _
  rw [h1, h2, show (1 : Int) = ((1 : Nat) : Int) from rfl, andV_nat (by omega) (by omega), Nat.testBit, Nat.shiftRight_eq_div_pow, Nat.and_comm]
  have h4 : 1 &&& n / 2 ^ k = n / 2 ^ k % 2 := by rw [Nat.and_comm, Nat.and_one_is_mod]
  rw [h4]
  have h : n / 2 ^ k % 2 < 2 := Nat.mod_lt _ (by omega)
  generalize n / 2 ^ k % 2 = x at h
  match x, h with
  | 0, _ => rfl
  | 1, _ => rfl
theorem l33 : lowF Tryd.prog Tryd.f33 = some c33 := by kernel_rfl
set_option maxRecDepth 100000 in
set_option maxHeartbeats 8000000 in
theorem print_body (n : Nat) (hn : n ≤ 4095) : body Tryd.prog c33 [vInt .i64 n] [] (fun r m => r = vT (printS n)) := by
  refine names_ok ?_
  refine loop_keep (fun k => k ≤ 12) [0] (fun k => [(3, .rv (.one (.row 0 1 0 none))), (6, txV namesT), (7, vInt .i64 12), (8, vInt .i64 (k : Nat))]) (fun k => [rowT (ntx (kset n k))]) (fun k => 12 - k) 0 (Nat.zero_le _) ?_ (fun k hk => ?_)
  · refine View.trans (View.esl 3 1 0 rfl rfl rfl) (View.of 1 [0] [] rfl rfl rfl rfl rfl rfl ?_ ?_)
    · repeat (first | exact .nil | refine .junk ?_ | refine .eq rfl ?_)
    · exact .put (by simp [memN]) rfl (.rowDE rfl) (.nil _)
  have hk : k ≤ 12 := hk
  have hkl := kset_len n k
  refine bB_dec (fun h => ?_) (fun h => ?_)
  · have hlt : k < 12 := by
      have h : (k : Int) < 12 := h
      omega
    refine ok_some (names_get hlt) ?_
    have hb := shr_bit n k hn hlt
    refine bB_split (fun h1 => ?_) (fun h1 => ?_)
    · have h1 : n.testBit k = true := hb.symm.trans h1
      have hs : kset n (k + 1) = kset n k ++ [k] := by rw [kset_succ, if_pos h1]
      refine ⟨?_, k + 1, hlt, (show 12 - (k + 1) < 12 - k by omega), View.of 3 [2] [] rfl rfl rfl rfl rfl rfl ?_ ?_⟩
      · show ((dRows ((ntx (kset n k)).map tD)).length + 1) * 16 ≤ _
        rw [dRows_len, List.length_map, ntx, List.length_map]
        omega
      · repeat (first | exact .nil | refine .junk ?_ | refine .put (.ren (next_i64 (by omega)).symm) ?_ | refine .eq rfl ?_)
      · refine .put (by simp [memN]) rfl (.rowDE ?_) (.nil _)
        have he : dRows ((ntx (kset n k ++ [k])).map tD) = dRows ((ntx (kset n k)).map tD) ++ dRows ([nameT k].map tD) := by
          rw [← dRows_append, ← List.map_append]
          congr 2
          simp [ntx]
        rw [hs, he]
        rfl
    · have h1 : n.testBit k = false := hb.symm.trans h1
      have hs : kset n (k + 1) = kset n k := by rw [kset_succ, h1]; simp
      refine ⟨k + 1, hlt, (show 12 - (k + 1) < 12 - k by omega), View.of 1 [0] [] rfl rfl rfl rfl rfl rfl ?_ ?_⟩
      · repeat (first | exact .nil | refine .junk ?_ | refine .put (.ren (next_i64 (by omega)).symm) ?_ | refine .eq rfl ?_)
      · exact .put (by simp [memN]) rfl (.rowDE (by rw [hs])) (.nil _)
  · have hk12 : k = 12 := by
      have h : ¬ (k : Int) < 12 := h
      omega
    subst hk12
    refine acall_pre (args' := [txV (ntx (kset n 12)), vT [44]]) (m' := [.dead]) (View.of 1 [0] [0] rfl rfl rfl rfl rfl rfl (.put (VwV.frz 0 ((ntx (kset n 12)).map tD) rfl rfl) (.eq rfl .nil)) (.dead (.nil _))) ?_
    refine join_ok _ [44] (by rw [ntx, List.length_map]; omega) (by have := ntx_join (kset n 12); omega) ?_
    rfl
theorem print_ok (n : Nat) (hn : n ≤ 4095) {m : Mem} {K : CV → Mem → Prop} (h : K (vT (printS n)) m) : ACall Tryd.prog 33 [vInt .i64 n] m K :=
  acall_val Tryd.func33 l33 rfl (Nat.le_of_ble_eq_true rfl) (print_body n hn) rfl rfl h
theorem bits_fld {n k : Nat} (h : k < 12) : readN ((bitsD n 12).map CC.dat) (k * 1) 1 = some [.dat (.val (.bool (n.testBit k)))] := by
  have := bits_get (n := n) h
  rwa [show 0 + k * 1 = k * 1 by omega] at this
theorem l34 : lowF Tryd.prog Tryd.f34 = some c34 := by kernel_rfl
theorem ntx_nil {l : List Nat} (h : ∀ k, k ∈ l → k < 12) : joinT [44] (ntx l) = [] ↔ l = [] := by
  cases l with
  | nil => simp [ntx, joinT_nil]
  | cons x r =>
    rw [ntx, List.map_cons, joinT_cons]
    have := nameT_ne (h x (by simp))
    simp [this]
set_option maxRecDepth 100000 in
set_option maxHeartbeats 8000000 in
theorem rprint_body (n : Nat) (hn : n ≤ 4095) : body Tryd.prog c34 [vInt .i64 n] [] (fun r m => r = vT (printS n)) := by
  refine bits_ok n hn ?_
  refine loop_keep (fun k => k ≤ 12) [7] (fun k => [(3, vT (joinT [44] (ntx (kset n k)))), (8, vInt .i64 (k : Nat))]) (fun _ => []) (fun k => 12 - k) 0 (Nat.zero_le _) ?_ (fun k hk => ?_)
  · refine View.of 0 [] [] rfl rfl rfl rfl rfl rfl ?_ (.nil _)
    repeat (first | exact .nil | refine .junk ?_ | refine .eq rfl ?_)
  have hk : k ≤ 12 := hk
  have hkl := kset_len n k
  have hjl := ntx_join (kset n k)
  have hmem : ∀ i, i ∈ kset n k → i < 12 := fun i hi => by
    have := (List.mem_filter.1 hi).1
    have := List.mem_range.1 this
    omega
  refine bB_dec (fun h => ?_) (fun h => ?_)
  · have hlt : k < 12 := by
      have h : (k : Int) < 12 := h
      omega
    have hnl : (nameT k).length ≤ 6 := nameT_len
    refine ok_some (idxZ_nat hlt) ?_
    refine ok_some (bits_fld hlt) ?_
    cases h1 : n.testBit k with
    | false =>
      have hs : kset n (k + 1) = kset n k := by rw [kset_succ, h1]; simp
      refine ⟨k + 1, hlt, (show 12 - (k + 1) < 12 - k by omega), View.of 0 [] [] rfl rfl rfl rfl rfl rfl ?_ (.nil _)⟩
      rw [hs]
      repeat (first | exact .nil | refine .junk ?_ | refine .put (.ren (next_i64 (by omega)).symm) ?_ | refine .eq rfl ?_)
    | true =>
      have hs : kset n (k + 1) = kset n k ++ [k] := by rw [kset_succ, if_pos h1]
      have hn1 : ntx (kset n (k + 1)) = ntx (kset n k) ++ [nameT k] := by rw [hs, ntx, List.map_append]; rfl
      refine bB_nstr (b := []) (fun h2 => ?_) (fun h2 => ?_)
      · have h3 : kset n k ≠ [] := fun e => h2 ((ntx_nil hmem).2 e)
        have h4 : ntx (kset n k) ≠ [] := by simpa [ntx] using h3
        have hj : joinT [44] (ntx (kset n (k + 1))) = (joinT [44] (ntx (kset n k)) ++ [44]) ++ nameT k := by
          rw [hn1, joinT_snoc _ h4, List.append_assoc]
        refine ok_some (binV_add (by simp only [List.length_cons, List.length_nil]; omega)) ?_
        refine rnames_ok ?_
        refine ok_some (names_get hlt) ?_
        refine ok_some (binV_add (by simp only [List.length_append, List.length_cons, List.length_nil]; omega)) ?_
        refine ⟨k + 1, hlt, (show 12 - (k + 1) < 12 - k by omega), View.of 0 [] [] rfl rfl rfl rfl rfl rfl ?_ (.nil _)⟩
        rw [← hj]
        repeat (first | exact .nil | refine .junk ?_ | refine .put (.ren (next_i64 (by omega)).symm) ?_ | refine .eq rfl ?_)
      · have h3 : kset n k = [] := (ntx_nil hmem).1 h2
        have hj : joinT [44] (ntx (kset n (k + 1))) = joinT [44] (ntx (kset n k)) ++ nameT k := by
          rw [hn1, h3]
          simp [ntx, joinT_one, joinT_nil]
        refine rnames_ok ?_
        refine ok_some (names_get hlt) ?_
        refine ok_some (binV_add (by omega)) ?_
        refine ⟨k + 1, hlt, (show 12 - (k + 1) < 12 - k by omega), View.of 0 [] [] rfl rfl rfl rfl rfl rfl ?_ (.nil _)⟩
        rw [← hj]
        repeat (first | exact .nil | refine .junk ?_ | refine .put (.ren (next_i64 (by omega)).symm) ?_ | refine .eq rfl ?_)
  · have hk12 : k = 12 := by
      have h : ¬ (k : Int) < 12 := h
      omega
    subst hk12
    rfl
theorem rprint_ok (n : Nat) (hn : n ≤ 4095) {m : Mem} {K : CV → Mem → Prop} (h : K (vT (printS n)) m) : ACall Tryd.prog 34 [vInt .i64 n] m K :=
  acall_val Tryd.func34 l34 rfl (Nat.le_of_ble_eq_true rfl) (rprint_body n hn) rfl rfl h

end Go.Proofs.YtoohefnephhmbaaDoor
