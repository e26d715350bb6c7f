import Derived.Test.YtflieebgiejjpaaAmZ2
import Derived.Test.YtflieebgiejjpaaDvBpf8
import Derived.Test.YtflieebgiejjpaaAmY
set_option linter.unusedVariables false
set_option linter.unusedSimpArgs false
namespace Go.Proofs.Ytflieebgiejjpaa
open Go.AM Go.ChangeShapes Go.WideShapes Go.ChangeAt Go.RowKit
def c46 : LF := ⟨26, [.tmp 4], (.seq (.reg [
    ⟨(some 4), .mov (.c (.rv (.one (.dat (.val (.bool false)))))), none⟩]) (.seq (.seq (.reg [
    ⟨(some 6), .mov (.t 0), none⟩,
    ⟨(some 7), .len 1 (.t 6), none⟩,
    ⟨(some 8), .mov (.t 1), none⟩,
    ⟨(some 9), .len 1 (.t 8), none⟩,
    ⟨(some 10), .bin .neq (.t 7) (.t 9), none⟩]) (.cond (.t 10) (.seq (.reg [
    ⟨(some 4), .mov (.c (.rv (.one (.dat (.val (.bool false)))))), none⟩]) .ret) .skip)) (.seq (.seq (.reg [
    ⟨(some 11), .mov (.t 0), none⟩,
    ⟨(some 12), .len 1 (.t 11), none⟩,
    ⟨(some 13), .mov (.c (.rv (.one (.dat (.val (.int .i64 (0))))))), none⟩]) (.block 0 (.loop (.seq (.reg [
    ⟨(some 14), .bin .lss (.t 13) (.t 12), none⟩]) (.seq (.cond (.t 14) .skip (.exit 0)) (.seq (.block 1 (.seq (.reg [
    ⟨(some 15), .mov (.t 13), none⟩,
    ⟨(some 5), .mov (.t 15), none⟩]) (.seq (.draw [
    ⟨(some 16), .mov (.t 0), none⟩,
    ⟨(some 17), .mov (.t 5), none⟩,
    ⟨(some 18), .idx 4 (.t 16) (.t 17), none⟩,
    ⟨(some 19), .load true 4 (.t 18), none⟩,
    ⟨(some 20), .mov (.t 1), none⟩,
    ⟨(some 21), .mov (.t 5), none⟩,
    ⟨(some 22), .idx 4 (.t 20) (.t 21), none⟩,
    ⟨(some 23), .load true 4 (.t 22), none⟩,
    ⟨(some 24), .eqa true [.i, .i, .i, .i] (.t 19) (.t 23), none⟩]
    [(.cons 0 none (.cons 1 none (.cons 2 none (.cons 3 none (.cons 4 none (.cons 5 none (.cons 6 none (.cons 7 none (.cons 8 none .nil)))))))))]) (.cond (.t 24) (.seq (.reg [
    ⟨(some 4), .mov (.c (.rv (.one (.dat (.val (.bool false)))))), none⟩]) .ret) .skip)))) (.reg [
    ⟨(some 25), .bin .add (.t 13) (.c (.rv (.one (.dat (.val (.int .i64 (1))))))), none⟩,
    ⟨(some 13), .mov (.t 25), none⟩]))))))) (.seq (.reg [
    ⟨(some 4), .mov (.c (.rv (.one (.dat (.val (.bool true)))))), none⟩]) .ret))))⟩
/-! Same -/
theorem ins_eq (a b : Ins) : (a.op == b.op && (a.jt == b.jt && (a.jf == b.jf && (a.k == b.k && true)))) = decide (a = b) := by
  rw [Bool.eq_iff_iff]
  obtain ⟨a1, a2, a3, a4⟩ := a
  obtain ⟨b1, b2, b3, b4⟩ := b
  simp
theorem l46 : lowF Try.prog Try.f46 = some c46 := by kernel_rfl
set_option maxRecDepth 100000 in
set_option maxHeartbeats 4000000 in
theorem same_body (a b : List Ins) (ha : a.length ≤ 4194304) : body Try.prog c46 [insV a, insV b] [] (fun r m => r = vBool (decide (a = b))) := by
  refine bB_bne (fun h => ?_) (fun h => ?_)
  · have h : a.length ≠ b.length := by
      have h : (((a.map Ins.enc).length : Nat) : Int) ≠ (((b.map Ins.enc).length : Nat) : Int) := h
      rw [List.length_map, List.length_map] at h
      omega
    have : ¬ a = b := fun e => h (by rw [e])
    rw [decide_eq_false this]
    exact rfl
  · have hl : a.length = b.length := by
      have h : (((a.map Ins.enc).length : Nat) : Int) = (((b.map Ins.enc).length : Nat) : Int) := h
      rw [List.length_map, List.length_map] at h
      omega
    refine loop_keep (fun k => k ≤ a.length ∧ ∀ (j : Nat), j < k → a[j]? = b[j]?) [0, 1, 12] (fun k => [(13, vInt .i64 (k : Nat))]) (fun k => []) (fun k => a.length - k) 0 ⟨Nat.zero_le _, fun j h => absurd h (Nat.not_lt_zero j)⟩ ?_ (fun k hk => ?_)
    · refine View.of 0 [] [] rfl rfl rfl rfl rfl rfl ?_ (.nil _)
      repeat (first | exact .nil | refine .junk ?_ | refine .eq rfl ?_)
    · refine bB_dec (fun h => ?_) (fun h => ?_)
      · have hlt : k < a.length := by
          have h : (k : Int) < ((a.map Ins.enc).length : Int) := h
          rw [List.length_map] at h
          omega
        have hlb : k < b.length := by omega
        have hg : getZ (a.map Ins.enc) (k : Nat) = some (a[k].enc) := by
          rw [getZ_nat, List.getElem?_map, List.getElem?_eq_getElem hlt]; rfl
        have hg2 : getZ (b.map Ins.enc) (k : Nat) = some (b[k].enc) := by
          rw [getZ_nat, List.getElem?_map, List.getElem?_eq_getElem hlb]; rfl
        refine ok_some hg ?_
        refine ok_some hg2 ?_
        refine bB_split (fun h => ?_) (fun h => ?_)
        · have h : ¬ a[k] = b[k] := by
            have h : (!(a[k].op == b[k].op && (a[k].jt == b[k].jt && (a[k].jf == b[k].jf && (a[k].k == b[k].k && true))))) = true := h
            rw [ins_eq] at h
            simpa using h
          have : ¬ a = b := fun e => h (by subst e; rfl)
          rw [decide_eq_false this]
          exact rfl
        · have h : a[k] = b[k] := by
            have h : (!(a[k].op == b[k].op && (a[k].jt == b[k].jt && (a[k].jf == b[k].jf && (a[k].k == b[k].k && true))))) = false := h
            rw [ins_eq] at h
            simpa using h
          refine ⟨k + 1, ⟨hlt, fun j hj => ?_⟩, (show a.length - (k + 1) < a.length - k by omega), View.of 0 [] [] rfl rfl rfl rfl rfl rfl ?_ (.nil _)⟩
          · rcases Nat.lt_or_ge j k with h5 | h5
            · exact hk.2 j h5
            · have : j = k := by omega
              subst this
              rw [List.getElem?_eq_getElem hlt, List.getElem?_eq_getElem hlb, h]
          · repeat (first | exact .nil | refine .junk ?_ | refine .put (.ren (next_i64 (by omega)).symm) ?_ | refine .eq rfl ?_)
      · have hge : ¬ (k : Int) < ((a.map Ins.enc).length : Int) := h
        rw [List.length_map] at hge
        have : a = b := by
          apply List.ext_getElem?
          intro j
          rcases Nat.lt_or_ge j a.length with h5 | h5
          · exact hk.2 j (by omega)
          · rw [List.getElem?_eq_none h5, List.getElem?_eq_none (by omega)]
        rw [decide_eq_true this]
        exact rfl
set_option maxRecDepth 100000 in
theorem same_ok (a b : List Ins) (ha : a.length ≤ 4194304) {m : Mem} {K : CV → Mem → Prop} (h : K (vBool (decide (a = b))) m) : ACall Try.prog 46 [insV a, insV b] m K :=
  acall_val Try.func46 l46 rfl (Nat.le_of_ble_eq_true rfl) (same_body a b ha) rfl rfl h
end Go.Proofs.Ytflieebgiejjpaa
