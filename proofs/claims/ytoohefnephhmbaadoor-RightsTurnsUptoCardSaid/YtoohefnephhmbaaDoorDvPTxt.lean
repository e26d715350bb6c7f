import Derived.Test.YtoohefnephhmbaaDoorAmZ2
import Derived.Test.YtoohefnephhmbaaDoorDvPSeq2
import Derived.Test.YtoohefnephhmbaaDoorAmY
set_option linter.unusedVariables false
set_option linter.unusedSimpArgs false
namespace Go.Proofs.YtoohefnephhmbaaDoor
open Go.AM Go.ChangeShapes Go.WideShapes Go.ChangeAt Go.RowKit
def c12 : LF := ⟨52, [.tmp 2], (.seq (.reg [
    ⟨(some 2), .mov (.c (.rv (.one (.dat (.val (.bool false)))))), none⟩]) (.seq (.seq (.reg [
    ⟨(some 5), .mov (.t 0), none⟩,
    ⟨(some 6), .len 0 (.t 5), none⟩,
    ⟨(some 7), .bin .lss (.t 6) (.c (.rv (.one (.dat (.val (.int .i64 (1))))))), none⟩,
    ⟨(some 8), .mov (.t 7), none⟩,
    ⟨(some 9), .mov (.t 0), (some (8, false))⟩,
    ⟨(some 10), .len 0 (.t 9), (some (8, false))⟩,
    ⟨(some 11), .bin .gtr (.t 10) (.c (.rv (.one (.dat (.val (.int .i64 (12))))))), (some (8, false))⟩,
    ⟨(some 12), .pick (.t 8) (.c (.rv (.one (.dat (.val (.bool true)))))) (.t 11), none⟩,
    ⟨(some 13), .mov (.t 12), none⟩,
    ⟨(some 14), .mov (.t 0), (some (13, false))⟩,
    ⟨(some 15), .bin .eql (.t 14) (.c (.rv (.one (.dat (.val (.string ⟨#[46]⟩)))))), (some (13, false))⟩,
    ⟨(some 16), .pick (.t 13) (.c (.rv (.one (.dat (.val (.bool true)))))) (.t 15), none⟩,
    ⟨(some 17), .mov (.t 16), none⟩,
    ⟨(some 18), .mov (.t 0), (some (17, false))⟩,
    ⟨(some 19), .bin .eql (.t 18) (.c (.rv (.one (.dat (.val (.string ⟨#[46, 46]⟩)))))), (some (17, false))⟩,
    ⟨(some 20), .pick (.t 17) (.c (.rv (.one (.dat (.val (.bool true)))))) (.t 19), none⟩]) (.cond (.t 20) (.seq (.reg [
    ⟨(some 2), .mov (.c (.rv (.one (.dat (.val (.bool false)))))), none⟩]) .ret) .skip)) (.seq (.seq (.reg [
    ⟨(some 21), .mov (.t 0), none⟩,
    ⟨(some 22), .len 0 (.t 21), none⟩,
    ⟨(some 23), .mov (.c (.rv (.one (.dat (.val (.int .i64 (0))))))), none⟩]) (.block 0 (.loop (.seq (.reg [
    ⟨(some 24), .bin .lss (.t 23) (.t 22), none⟩]) (.seq (.cond (.t 24) .skip (.exit 0)) (.seq (.block 1 (.seq (.reg [
    ⟨(some 25), .mov (.t 23), none⟩,
    ⟨(some 3), .mov (.t 25), none⟩]) (.seq (.reg [
    ⟨(some 26), .mov (.t 0), none⟩,
    ⟨(some 27), .mov (.t 3), none⟩,
    ⟨(some 28), .sidx (.t 26) (.t 27), none⟩,
    ⟨(some 4), .mov (.t 28), none⟩]) (.seq (.reg [
    ⟨(some 29), .mov (.t 4), none⟩,
    ⟨(some 30), .bin .lss (.t 29) (.c (.rv (.one (.dat (.val (.int .u8 (97))))))), none⟩,
    ⟨(some 31), .mov (.t 30), none⟩,
    ⟨(some 32), .mov (.t 4), (some (31, false))⟩,
    ⟨(some 33), .bin .gtr (.t 32) (.c (.rv (.one (.dat (.val (.int .u8 (122))))))), (some (31, false))⟩,
    ⟨(some 34), .pick (.t 31) (.c (.rv (.one (.dat (.val (.bool true)))))) (.t 33), none⟩,
    ⟨(some 35), .mov (.t 34), none⟩,
    ⟨(some 36), .mov (.t 4), (some (35, true))⟩,
    ⟨(some 37), .bin .lss (.t 36) (.c (.rv (.one (.dat (.val (.int .u8 (48))))))), (some (35, true))⟩,
    ⟨(some 38), .mov (.t 37), (some (35, true))⟩,
    ⟨(some 39), .mov (.t 4), (some (38, false))⟩,
    ⟨(some 40), .bin .gtr (.t 39) (.c (.rv (.one (.dat (.val (.int .u8 (57))))))), (some (38, false))⟩,
    ⟨(some 41), .pick (.t 38) (.c (.rv (.one (.dat (.val (.bool true)))))) (.t 40), (some (35, true))⟩,
    ⟨(some 42), .pick (.t 35) (.t 41) (.c (.rv (.one (.dat (.val (.bool false)))))), none⟩,
    ⟨(some 43), .mov (.t 42), none⟩,
    ⟨(some 44), .mov (.t 4), (some (43, true))⟩,
    ⟨(some 45), .bin .neq (.t 44) (.c (.rv (.one (.dat (.val (.int .u8 (46))))))), (some (43, true))⟩,
    ⟨(some 46), .pick (.t 43) (.t 45) (.c (.rv (.one (.dat (.val (.bool false)))))), none⟩,
    ⟨(some 47), .mov (.t 46), none⟩,
    ⟨(some 48), .mov (.t 4), (some (47, true))⟩,
    ⟨(some 49), .bin .neq (.t 48) (.c (.rv (.one (.dat (.val (.int .u8 (95))))))), (some (47, true))⟩,
    ⟨(some 50), .pick (.t 47) (.t 49) (.c (.rv (.one (.dat (.val (.bool false)))))), none⟩]) (.cond (.t 50) (.seq (.reg [
    ⟨(some 2), .mov (.c (.rv (.one (.dat (.val (.bool false)))))), none⟩]) .ret) .skip))))) (.reg [
    ⟨(some 51), .bin .add (.t 23) (.c (.rv (.one (.dat (.val (.int .i64 (1))))))), none⟩,
    ⟨(some 23), .mov (.t 51), none⟩]))))))) (.seq (.reg [
    ⟨(some 2), .mov (.c (.rv (.one (.dat (.val (.bool true)))))), none⟩]) .ret))))⟩
abbrev Txt := List UInt8
def vT (t : Txt) : CV := vStr (bysL t)
theorem bysL_of (s : ByteArray) : ∃ t : Txt, s = bysL t := ⟨s.data.toList, rfl⟩
theorem bysL_toList (t : Txt) : (bysL t).toList = t := ByteArray.toList_mk t
theorem bysL_inj {a b : Txt} (h : bysL a = bysL b) : a = b := by rw [← bysL_toList a, ← bysL_toList b, h]
theorem bysL_add (a b : Txt) : bysL a ++ bysL b = bysL (a ++ b) := by
  apply ByteArray.ext
  simp [bysL]
theorem bB_str {a b : Txt} {A B : Prop} (ha : a = b → A) (hb : a ≠ b → B) : @Bool.rec (fun _ => Prop) B A ((bysL a).toList == (bysL b).toList) := by
  rw [bysL_toList, bysL_toList]
  cases h : (a == b)
  · exact hb (by simpa using h)
  · exact ha (by simpa using h)
def okN (n : Nat) : Bool := (decide (97 ≤ n) && decide (n ≤ 122)) || (decide (48 ≤ n) && decide (n ≤ 57)) || decide (n = 46) || decide (n = 95)
/-- may a text be a name? -/
def nameOk (t : Txt) : Bool := decide (1 ≤ t.length) && decide (t.length ≤ 12) && decide (t ≠ [46]) && decide (t ≠ [46, 46]) && t.all fun c => okN c.toNat
theorem nameOk_bad {t : Txt} {k : Nat} (hk : k < t.length) (h : okN t[k].toNat = false) : nameOk t = false := by
  have : (t.all fun c => okN c.toNat) = false := by
    rw [List.all_eq_false]
    exact ⟨t[k], List.getElem_mem hk, by simp [h]⟩
  simp [nameOk, this]
theorem nameOk_all {t : Txt} (h1 : 1 ≤ t.length) (h2 : t.length ≤ 12) (h3 : t ≠ [46]) (h4 : t ≠ [46, 46]) (h : ∀ k (hk : k < t.length), okN t[k].toNat = true) : nameOk t = true := by
  have : (t.all fun c => okN c.toNat) = true := by
    rw [List.all_eq_true]
    intro c hc
    obtain ⟨k, hk, rfl⟩ := List.mem_iff_getElem.1 hc
    exact h k hk
  simp [nameOk, this, h1, h2, h3, h4]
theorem okN_f {n : Nat} (h1 : ¬ (97 ≤ n ∧ n ≤ 122)) (h2 : ¬ (48 ≤ n ∧ n ≤ 57)) (h3 : n ≠ 46) (h4 : n ≠ 95) : okN n = false := by
  have a : ¬ (97 ≤ n) ∨ ¬ (n ≤ 122) := by omega
  have b : ¬ (48 ≤ n) ∨ ¬ (n ≤ 57) := by omega
  unfold okN
  rcases a with a | a <;> rcases b with b | b <;> simp [a, b, h3, h4]
theorem okN_t {n : Nat} (h : (97 ≤ n ∧ n ≤ 122) ∨ (48 ≤ n ∧ n ≤ 57) ∨ n = 46 ∨ n = 95) : okN n = true := by
  unfold okN
  rcases h with ⟨a, b⟩ | ⟨a, b⟩ | h | h <;> simp_all
theorem l12 : lowF Tryd.prog Tryd.f12 = some c12 := by kernel_rfl
theorem getT {t : Txt} {k : Nat} (hk : k < t.length) : getZ (bysL t).data.toList (k : Nat) = some t[k] := by
  rw [getZ_nat, bysL_data, List.getElem?_eq_getElem hk]
theorem bysL_sizeI (t : Txt) : (((bysL t).size : Nat) : Int) = t.length := by rw [bysL_size]
set_option maxRecDepth 100000 in
set_option maxHeartbeats 8000000 in
theorem name_body (t : Txt) : body Tryd.prog c12 [vT t] [] (fun r m => r = vBool (nameOk t)) := by
  refine bB_dec (fun h => ?_) (fun h => ?_)
  · rw [bysL_sizeI] at h
    have : nameOk t = false := by simp [nameOk]; omega
    rw [this]; rfl
  rw [bysL_sizeI] at h
  refine bB_dec (fun h2 => ?_) (fun h2 => ?_)
  · rw [bysL_sizeI] at h2
    have : nameOk t = false := by simp [nameOk]; omega
    rw [this]; rfl
  rw [bysL_sizeI] at h2
  refine bB_str (b := [46]) (fun h3 => ?_) (fun h3 => ?_)
  · subst h3; rfl
  refine bB_str (b := [46, 46]) (fun h4 => ?_) (fun h4 => ?_)
  · subst h4; rfl
  refine loop_keep (fun k => k ≤ t.length ∧ ∀ j (hj : j < t.length), j < k → okN t[j].toNat = true) [0] (fun k => [(22, vInt .i64 (t.length : Nat)), (23, vInt .i64 (k : Nat))]) (fun _ => []) (fun k => t.length - k) 0 ⟨Nat.zero_le _, fun j _ h => absurd h (Nat.not_lt_zero _)⟩ ?_ (fun k hk => ?_)
  · refine View.of 0 [] [] rfl rfl rfl rfl rfl rfl ?_ (.nil _)
    repeat (first | exact .nil | refine .junk ?_ | refine .eq rfl ?_ | refine .put (.ren (by rw [bysL_sizeI]; rfl)) ?_)
  obtain ⟨hk, hall⟩ : k ≤ t.length ∧ ∀ j (hj : j < t.length), j < k → okN t[j].toNat = true := hk
  refine bB_dec (fun h5 => ?_) (fun h5 => ?_)
  · have hlt : k < t.length := by
      have h5 : (k : Int) < (t.length : Int) := h5
      omega
    refine ok_some (getT hlt) ?_
    repeat' first | refine bB_dec (fun _ => ?_) (fun _ => ?_) | refine bB_bne (fun _ => ?_) (fun _ => ?_)
    all_goals first
      | (show vBool false = vBool (nameOk t)
         rw [nameOk_bad hlt (okN_f (by omega) (by omega) (by omega) (by omega))])
      | (refine ⟨k + 1, ⟨hlt, fun j hj hjk => ?_⟩, (show t.length - (k + 1) < t.length - k by omega), View.of 0 [] [] rfl rfl rfl rfl rfl rfl ?_ (.nil _)⟩
         · rcases Nat.lt_or_ge j k with h | h
           · exact hall j hj h
           · have : j = k := by omega
             subst this
             exact okN_t (by omega)
         · repeat (first | exact .nil | refine .junk ?_ | refine .put (.ren (next_i64 (by omega)).symm) ?_ | refine .eq rfl ?_))
  · show vBool true = vBool (nameOk t)
    have h5 : ¬ (k : Int) < (t.length : Int) := h5
    rw [nameOk_all (by omega) (by omega) h3 h4 fun j hj => hall j hj (by omega)]
theorem name_ok (t : Txt) {m : Mem} {K : CV → Mem → Prop} (h : K (vBool (nameOk t)) m) : ACall Tryd.prog 12 [vT t] m K :=
  acall_val Tryd.func12 l12 rfl (Nat.le_of_ble_eq_true rfl) (name_body t) rfl rfl h
end Go.Proofs.YtoohefnephhmbaaDoor
