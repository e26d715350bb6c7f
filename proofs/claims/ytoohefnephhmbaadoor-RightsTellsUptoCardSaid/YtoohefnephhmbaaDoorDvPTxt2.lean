import Derived.Test.YtoohefnephhmbaaDoorAmZ2
import Derived.Test.YtoohefnephhmbaaDoorDvPTxt
import Derived.Test.YtoohefnephhmbaaDoorAmY
set_option linter.unusedVariables false
set_option linter.unusedSimpArgs false
namespace Go.Proofs.YtoohefnephhmbaaDoor
open Go.AM Go.ChangeShapes Go.WideShapes Go.ChangeAt Go.RowKit
def c13 : LF := ⟨54, [.tmp 2], (.seq (.reg [
    ⟨(some 2), .mov (.c (.rv (.one (.dat (.val (.bool false)))))), none⟩]) (.seq (.seq (.reg [
    ⟨(some 5), .mov (.t 0), none⟩,
    ⟨(some 6), .len 0 (.t 5), none⟩,
    ⟨(some 7), .mov (.c (.rv (.one (.dat (.val (.int .i64 (0))))))), none⟩]) (.block 0 (.loop (.seq (.reg [
    ⟨(some 8), .bin .lss (.t 7) (.t 6), none⟩]) (.seq (.cond (.t 8) .skip (.exit 0)) (.seq (.block 1 (.seq (.reg [
    ⟨(some 9), .mov (.t 7), none⟩,
    ⟨(some 3), .mov (.t 9), none⟩]) (.seq (.reg [
    ⟨(some 10), .mov (.t 0), none⟩,
    ⟨(some 11), .mov (.t 3), none⟩,
    ⟨(some 12), .sidx (.t 10) (.t 11), none⟩,
    ⟨(some 4), .mov (.t 12), none⟩]) (.seq (.reg [
    ⟨(some 13), .mov (.t 4), none⟩,
    ⟨(some 14), .bin .geq (.t 13) (.c (.rv (.one (.dat (.val (.int .u8 (97))))))), none⟩,
    ⟨(some 15), .mov (.t 14), none⟩,
    ⟨(some 16), .mov (.t 4), (some (15, true))⟩,
    ⟨(some 17), .bin .leq (.t 16) (.c (.rv (.one (.dat (.val (.int .u8 (122))))))), (some (15, true))⟩,
    ⟨(some 18), .pick (.t 15) (.t 17) (.c (.rv (.one (.dat (.val (.bool false)))))), none⟩,
    ⟨(some 19), .un .not (.t 18), none⟩,
    ⟨(some 20), .mov (.t 19), none⟩,
    ⟨(some 21), .mov (.t 4), (some (20, true))⟩,
    ⟨(some 22), .bin .geq (.t 21) (.c (.rv (.one (.dat (.val (.int .u8 (48))))))), (some (20, true))⟩,
    ⟨(some 23), .mov (.t 22), (some (20, true))⟩,
    ⟨(some 24), .mov (.t 4), (some (23, true))⟩,
    ⟨(some 25), .bin .leq (.t 24) (.c (.rv (.one (.dat (.val (.int .u8 (57))))))), (some (23, true))⟩,
    ⟨(some 26), .pick (.t 23) (.t 25) (.c (.rv (.one (.dat (.val (.bool false)))))), (some (20, true))⟩,
    ⟨(some 27), .un .not (.t 26), (some (20, true))⟩,
    ⟨(some 28), .pick (.t 20) (.t 27) (.c (.rv (.one (.dat (.val (.bool false)))))), none⟩,
    ⟨(some 29), .mov (.t 28), none⟩,
    ⟨(some 30), .mov (.t 4), (some (29, true))⟩,
    ⟨(some 31), .bin .neq (.t 30) (.c (.rv (.one (.dat (.val (.int .u8 (46))))))), (some (29, true))⟩,
    ⟨(some 32), .pick (.t 29) (.t 31) (.c (.rv (.one (.dat (.val (.bool false)))))), none⟩,
    ⟨(some 33), .mov (.t 32), none⟩,
    ⟨(some 34), .mov (.t 4), (some (33, true))⟩,
    ⟨(some 35), .bin .neq (.t 34) (.c (.rv (.one (.dat (.val (.int .u8 (95))))))), (some (33, true))⟩,
    ⟨(some 36), .pick (.t 33) (.t 35) (.c (.rv (.one (.dat (.val (.bool false)))))), none⟩]) (.cond (.t 36) (.seq (.reg [
    ⟨(some 2), .mov (.c (.rv (.one (.dat (.val (.bool false)))))), none⟩]) .ret) .skip))))) (.reg [
    ⟨(some 37), .bin .add (.t 7) (.c (.rv (.one (.dat (.val (.int .i64 (1))))))), none⟩,
    ⟨(some 7), .mov (.t 37), none⟩]))))))) (.seq (.reg [
    ⟨(some 38), .mov (.t 0), none⟩,
    ⟨(some 39), .len 0 (.t 38), none⟩,
    ⟨(some 40), .bin .gtr (.t 39) (.c (.rv (.one (.dat (.val (.int .i64 (0))))))), none⟩,
    ⟨(some 41), .mov (.t 40), none⟩,
    ⟨(some 42), .mov (.t 0), (some (41, true))⟩,
    ⟨(some 43), .len 0 (.t 42), (some (41, true))⟩,
    ⟨(some 44), .bin .leq (.t 43) (.c (.rv (.one (.dat (.val (.int .i64 (12))))))), (some (41, true))⟩,
    ⟨(some 45), .pick (.t 41) (.t 44) (.c (.rv (.one (.dat (.val (.bool false)))))), none⟩,
    ⟨(some 46), .mov (.t 45), none⟩,
    ⟨(some 47), .mov (.t 0), (some (46, true))⟩,
    ⟨(some 48), .bin .neq (.t 47) (.c (.rv (.one (.dat (.val (.string ⟨#[46]⟩)))))), (some (46, true))⟩,
    ⟨(some 49), .pick (.t 46) (.t 48) (.c (.rv (.one (.dat (.val (.bool false)))))), none⟩,
    ⟨(some 50), .mov (.t 49), none⟩,
    ⟨(some 51), .mov (.t 0), (some (50, true))⟩,
    ⟨(some 52), .bin .neq (.t 51) (.c (.rv (.one (.dat (.val (.string ⟨#[46, 46]⟩)))))), (some (50, true))⟩,
    ⟨(some 53), .pick (.t 50) (.t 52) (.c (.rv (.one (.dat (.val (.bool false)))))), none⟩,
    ⟨(some 2), .mov (.t 53), none⟩]) .ret)))⟩
theorem bB_ndec {p : Prop} [Decidable p] {A B : Prop} (ha : ¬ p → A) (hb : p → B) : @Bool.rec (fun _ => Prop) B A (!decide p) := by
  by_cases h : p
  · simp only [h, decide_true, Bool.not_true]; exact hb h
  · simp only [h, decide_false, Bool.not_false]; exact ha h
theorem bB_nstr {a b : Txt} {A B : Prop} (ha : a ≠ b → A) (hb : a = b → B) : @Bool.rec (fun _ => Prop) B A (!((bysL a).toList == (bysL b).toList)) := by
  rw [bysL_toList, bysL_toList]
  by_cases h : a = b
  · subst h; simpa using hb rfl
  · have : (a == b) = false := by simpa using h
    rw [this]; exact ha h
theorem strB {a b : Txt} : ((bysL a).toList == (bysL b).toList) = decide (a = b) := by
  rw [bysL_toList, bysL_toList]
  by_cases h : a = b <;> simp [h]
theorem l13 : lowF Tryd.prog Tryd.f13 = some c13 := by kernel_rfl
set_option maxRecDepth 100000 in
set_option maxHeartbeats 8000000 in
theorem rname_body (t : Txt) (ht : t.length ≤ 4194304) : body Tryd.prog c13 [vT t] [] (fun r m => r = vBool (nameOk t)) := by
  refine loop_keep (fun k => k ≤ t.length ∧ ∀ j (hj : j < t.length), j < k → okN t[j].toNat = true) [0] (fun k => [(6, vInt .i64 (t.length : Nat)), (7, vInt .i64 (k : Nat))]) (fun _ => []) (fun k => t.length - k) 0 ⟨Nat.zero_le _, fun j _ h => absurd h (Nat.not_lt_zero _)⟩ ?_ (fun k hk => ?_)
  · refine View.of 0 [] [] rfl rfl rfl rfl rfl rfl ?_ (.nil _)
    repeat (first | exact .nil | refine .junk ?_ | refine .eq rfl ?_ | refine .put (.ren (by rw [bysL_sizeI]; rfl)) ?_)
  obtain ⟨hk, hall⟩ : k ≤ t.length ∧ ∀ j (hj : j < t.length), j < k → okN t[j].toNat = true := hk
  refine bB_dec (fun h5 => ?_) (fun h5 => ?_)
  · have hlt : k < t.length := by
      have h5 : (k : Int) < (t.length : Int) := h5
      omega
    refine ok_some (getT hlt) ?_
    repeat' first | refine bB_dec (fun _ => ?_) (fun _ => ?_) | refine bB_bne (fun _ => ?_) (fun _ => ?_) | refine bB_ndec (fun _ => ?_) (fun _ => ?_)
    all_goals first
      | (show vBool false = vBool (nameOk t)
         rw [nameOk_bad hlt (okN_f (by omega) (by omega) (by omega) (by omega))])
      | (refine ⟨k + 1, ⟨hlt, fun j hj hjk => ?_⟩, (show t.length - (k + 1) < t.length - k by omega), View.of 0 [] [] rfl rfl rfl rfl rfl rfl ?_ (.nil _)⟩
         · rcases Nat.lt_or_ge j k with h | h
           · exact hall j hj h
           · have : j = k := by omega
             subst this
             exact okN_t (by omega)
         · repeat (first | exact .nil | refine .junk ?_ | refine .put (.ren (next_i64 (by omega)).symm) ?_ | refine .eq rfl ?_))
  · have h5 : ¬ (k : Int) < (t.length : Int) := h5
    have hall' : (t.all fun c => okN c.toNat) = true := by
      rw [List.all_eq_true]
      intro c hc
      obtain ⟨j, hj, rfl⟩ := List.mem_iff_getElem.1 hc
      exact hall j hj (by omega)
    refine bB_dec (fun h1 => ?_) (fun h1 => ?_)
    · rw [bysL_sizeI] at h1
      refine bB_dec (fun h2 => ?_) (fun h2 => ?_)
      · rw [bysL_sizeI] at h2
        refine bB_nstr (b := [46]) (fun h3 => ?_) (fun h3 => ?_)
        · show vBool (!((bysL t).toList == (bysL [46, 46]).toList)) = _
          rw [strB]
          have a1 : 1 ≤ t.length := by omega
          have a2 : t.length ≤ 12 := by omega
          simp [nameOk, hall', a1, a2, h3, vBool]
        · subst h3; rfl
      · rw [bysL_sizeI] at h2
        have : nameOk t = false := by simp [nameOk]; omega
        rw [this]; rfl
    · rw [bysL_sizeI] at h1
      have : nameOk t = false := by simp [nameOk]; omega
      rw [this]; rfl
theorem rname_ok (t : Txt) (ht : t.length ≤ 4194304) {m : Mem} {K : CV → Mem → Prop} (h : K (vBool (nameOk t)) m) : ACall Tryd.prog 13 [vT t] m K :=
  acall_val Tryd.func13 l13 rfl (Nat.le_of_ble_eq_true rfl) (rname_body t ht) rfl rfl h
end Go.Proofs.YtoohefnephhmbaaDoor
