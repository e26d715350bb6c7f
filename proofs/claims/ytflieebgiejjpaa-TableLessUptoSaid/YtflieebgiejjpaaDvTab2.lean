import Derived.Test.YtflieebgiejjpaaDvTab1
import Derived.Test.YtflieebgiejjpaaAmY
set_option linter.unusedVariables false
set_option linter.unusedSimpArgs false
namespace Go.Proofs.Ytflieebgiejjpaa
open Go.AM Go.ChangeShapes Go.WideShapes Go.ChangeAt Go.RowKit
def c28 : LF := ⟨26, [.tmp 4], (.seq (.reg [
    ⟨(some 4), .mov (.c (.rv (.one (.dat (.val (.bool false)))))), none⟩]) (.seq (.seq (.reg [
    ⟨(some 6), .mov (.t 0), none⟩,
    ⟨(some 7), .len 1 (.t 6), none⟩,
    ⟨(some 8), .mov (.t 1), none⟩,
    ⟨(some 9), .len 1 (.t 8), none⟩,
    ⟨(some 10), .bin .neq (.t 7) (.t 9), none⟩]) (.cond (.t 10) (.seq (.reg [
    ⟨(some 4), .mov (.c (.rv (.one (.dat (.val (.bool false)))))), none⟩]) .ret) .skip)) (.seq (.seq (.reg [
    ⟨(some 11), .mov (.t 0), none⟩,
    ⟨(some 12), .len 1 (.t 11), none⟩,
    ⟨(some 13), .mov (.c (.rv (.one (.dat (.val (.int .i64 (0))))))), none⟩]) (.block 0 (.loop (.seq (.reg [
    ⟨(some 14), .bin .lss (.t 13) (.t 12), none⟩]) (.seq (.cond (.t 14) .skip (.exit 0)) (.seq (.block 1 (.seq (.reg [
    ⟨(some 15), .mov (.t 13), none⟩,
    ⟨(some 5), .mov (.t 15), none⟩]) (.seq (.draw [
    ⟨(some 16), .mov (.t 0), none⟩,
    ⟨(some 17), .mov (.t 5), none⟩,
    ⟨(some 18), .idx 3 (.t 16) (.t 17), none⟩,
    ⟨(some 19), .load true 3 (.t 18), none⟩,
    ⟨(some 20), .mov (.t 1), none⟩,
    ⟨(some 21), .mov (.t 5), none⟩,
    ⟨(some 22), .idx 3 (.t 20) (.t 21), none⟩,
    ⟨(some 23), .load true 3 (.t 22), none⟩,
    ⟨(some 24), .eqa true [.b, .i, .i] (.t 19) (.t 23), none⟩]
    [[(0, none), (1, none), (2, none), (3, none), (4, none), (5, none), (6, none), (7, none), (8, none)]]) (.cond (.t 24) (.seq (.reg [
    ⟨(some 4), .mov (.c (.rv (.one (.dat (.val (.bool false)))))), none⟩]) .ret) .skip)))) (.reg [
    ⟨(some 25), .bin .add (.t 13) (.c (.rv (.one (.dat (.val (.int .i64 (1))))))), none⟩,
    ⟨(some 13), .mov (.t 25), none⟩]))))))) (.seq (.reg [
    ⟨(some 4), .mov (.c (.rv (.one (.dat (.val (.bool true)))))), none⟩]) .ret))))⟩
def c29 : LF := ⟨43, [.tmp 4, .tmp 5], (.seq (.reg [
    ⟨(some 4), .mov (.c (.rv (.one .esl))), none⟩,
    ⟨(some 5), .mov (.c (.rv (.one (.dat (.val (.int .i64 (0))))))), none⟩]) (.seq (.seq (.reg [
    ⟨(some 10), .mov (.t 0), none⟩,
    ⟨(some 11), .mov (.t 1), none⟩,
    ⟨(some 12), .call (.c (.rv (.one (.fn 24 [])))) [(.t 10), (.t 11)], none⟩,
    ⟨(some 9), .mov (.t 12), none⟩,
    ⟨(some 13), .ext (.t 9) 0, none⟩,
    ⟨(some 14), .ext (.t 9) 1, none⟩,
    ⟨(some 6), .alloc [(.dat (.val (.int .i64 (0)))), (.dat (.val (.int .i64 (0))))], none⟩,
    ⟨none, .store 2 (.t 6) (.t 13), none⟩,
    ⟨(some 7), .mov (.t 14), none⟩]) (.seq (.reg [
    ⟨(some 15), .mov (.t 7), none⟩,
    ⟨(some 16), .bin .neq (.t 15) (.c (.rv (.one (.dat (.val (.int .i64 (0))))))), none⟩]) (.cond (.t 16) (.seq (.reg [
    ⟨(some 17), .mov (.t 7), none⟩,
    ⟨(some 4), .mov (.c (.rv (.one .esl))), none⟩,
    ⟨(some 5), .mov (.t 17), none⟩]) .ret) .skip))) (.seq (.reg [
    ⟨(some 18), .mov (.t 0), none⟩,
    ⟨(some 19), .call (.c (.rv (.one (.fn 85 [])))) [(.t 18)], none⟩,
    ⟨(some 8), .mov (.t 19), none⟩]) (.seq (.reg [
    ⟨(some 20), .mov (.t 8), none⟩,
    ⟨(some 21), .mov (.t 1), none⟩,
    ⟨(some 22), .build [(.dat (.val (.bool false))), (.dat (.val (.int .i64 (0)))), (.dat (.val (.int .i64 (0))))] [], none⟩,
    ⟨(some 23), .idx 3 (.t 20) (.t 21), none⟩,
    ⟨none, .store 3 (.t 23) (.t 22), none⟩]) (.seq (.block 0 (.loop (.seq (.seq (.reg [
    ⟨(some 24), .mov (.t 8), none⟩,
    ⟨(some 25), .len 1 (.t 24), none⟩,
    ⟨(some 26), .bin .gtr (.t 25) (.c (.rv (.one (.dat (.val (.int .i64 (0))))))), none⟩,
    ⟨(some 27), .mov (.t 26), none⟩,
    ⟨(some 28), .mov (.t 8), (some (27, true))⟩,
    ⟨(some 29), .mov (.t 8), (some (27, true))⟩,
    ⟨(some 30), .len 1 (.t 29), (some (27, true))⟩,
    ⟨(some 31), .bin .sub (.t 30) (.c (.rv (.one (.dat (.val (.int .i64 (1))))))), (some (27, true))⟩,
    ⟨(some 32), .idx 3 (.t 28) (.t 31), (some (27, true))⟩,
    ⟨(some 33), .fadr 0 (.t 32), (some (27, true))⟩,
    ⟨(some 34), .load false 1 (.t 33), (some (27, true))⟩,
    ⟨(some 35), .un .not (.t 34), (some (27, true))⟩,
    ⟨(some 36), .pick (.t 27) (.t 35) (.c (.rv (.one (.dat (.val (.bool false)))))), none⟩]) (.cond (.t 36) .skip (.exit 0))) (.block 1 (.reg [
    ⟨(some 37), .mov (.t 8), none⟩,
    ⟨(some 38), .mov (.t 8), none⟩,
    ⟨(some 39), .len 1 (.t 38), none⟩,
    ⟨(some 40), .bin .sub (.t 39) (.c (.rv (.one (.dat (.val (.int .i64 (1))))))), none⟩,
    ⟨(some 41), .slc 3 (.t 37) none (some (.t 40)) none, none⟩,
    ⟨(some 8), .mov (.t 41), none⟩]))))) (.seq (.reg [
    ⟨(some 42), .mov (.t 8), none⟩,
    ⟨(some 4), .mov (.t 42), none⟩,
    ⟨(some 5), .mov (.c (.rv (.one (.dat (.val (.int .i64 (0))))))), none⟩]) .ret))))))⟩
def c33 : LF := ⟨21, [.tmp 2], (.seq (.reg [
    ⟨(some 2), .mov (.c (.rv (.one .esl))), none⟩]) (.seq (.reg [
    ⟨(some 3), .mov (.c (.rv (.one .esl))), none⟩]) (.seq (.seq (.reg [
    ⟨(some 6), .mov (.t 0), none⟩,
    ⟨(some 7), .len 1 (.t 6), none⟩,
    ⟨(some 8), .mov (.c (.rv (.one (.dat (.val (.int .i64 (0))))))), none⟩]) (.block 0 (.loop (.seq (.reg [
    ⟨(some 9), .bin .lss (.t 8) (.t 7), none⟩]) (.seq (.cond (.t 9) .skip (.exit 0)) (.seq (.block 1 (.seq (.reg [
    ⟨(some 10), .mov (.t 8), none⟩,
    ⟨(some 11), .idx 3 (.t 6) (.t 8), none⟩,
    ⟨(some 12), .load true 3 (.t 11), none⟩,
    ⟨(some 5), .alloc [(.dat (.val (.bool false))), (.dat (.val (.int .i64 (0)))), (.dat (.val (.int .i64 (0))))], none⟩,
    ⟨(some 4), .mov (.t 10), none⟩,
    ⟨none, .store 3 (.t 5) (.t 12), none⟩]) (.seq (.reg [
    ⟨(some 13), .fadr 0 (.t 5), none⟩,
    ⟨(some 14), .load false 1 (.t 13), none⟩]) (.cond (.t 14) (.reg [
    ⟨(some 15), .mov (.t 3), none⟩,
    ⟨(some 16), .mov (.t 4), none⟩,
    ⟨(some 17), .bsl 1 [(.dat (.val (.int .i64 (0))))] 1 [(0, (.t 16))], none⟩,
    ⟨(some 18), .app 1 8 (.t 15) (.t 17), none⟩,
    ⟨(some 3), .mov (.t 18), none⟩]) .skip)))) (.reg [
    ⟨(some 19), .bin .add (.t 8) (.c (.rv (.one (.dat (.val (.int .i64 (1))))))), none⟩,
    ⟨(some 8), .mov (.t 19), none⟩]))))))) (.seq (.reg [
    ⟨(some 20), .mov (.t 3), none⟩,
    ⟨(some 2), .mov (.t 20), none⟩]) .ret))))⟩
theorem l86 : lowF Try.prog Try.f86 = some c86 := by kernel_rfl
theorem l87 : lowF Try.prog Try.f87 = some c87 := by kernel_rfl
def withinB (a b : Int) : Bool := (IntKind.i64.wrap ((BitVec.ofInt 64 a &&& ~~~ BitVec.ofInt 64 b).toNat : Int)) == 0
set_option maxRecDepth 100000 in
theorem within_ok (a b : Int) {m : Mem} {K : CV → Mem → Prop} (h : K (vBool (withinB a b)) m) : ACall Try.prog 86 [vInt .i64 a, vInt .i64 b] m K :=
  acall_val (r0 := vBool (withinB a b)) Try.func86 l86 rfl (Nat.le_of_ble_eq_true rfl) (show body Try.prog c86 [vInt .i64 a, vInt .i64 b] [] (fun r m => r = vBool (withinB a b)) from rfl) rfl rfl h
theorem l37 : lowF Try.prog Try.f37 = some c37 := by kernel_rfl
def withS (l : List Slot) (fd need : Int) : Cap × Int :=
  if (getS l fd).2 = 0 ∧ withinB need (getS l fd).1.rts = false then (⟨0, 0⟩, 10) else getS l fd
set_option maxRecDepth 100000 in
theorem with_body (l : List Slot) (fd need : Int) : body Try.prog c37 [slotsV l, vInt .i64 fd, vInt .i64 need] [] (fun r m => r = .tup [(withS l fd need).1.rv, iRV (withS l fd need).2]) := by
  refine get_ok l fd ?_
  refine bB_split (fun h => ?_) (fun h => ?_)
  · have h : (getS l fd).2 = 0 := by simpa using h
    refine within_ok _ _ ?_
    refine bB_split (fun h2 => ?_) (fun h2 => ?_)
    · have h2 : withinB need (getS l fd).1.rts = false := by simpa using h2
      show CV.tup _ = CV.tup _
      rw [withS, if_pos ⟨h, h2⟩]; rfl
    · have h2 : withinB need (getS l fd).1.rts = true := by simpa using h2
      show CV.tup _ = CV.tup _
      rw [withS, if_neg (by simp [h2])]; rfl
  · have h : ¬ (getS l fd).2 = 0 := by simpa using h
    show CV.tup _ = CV.tup _
    rw [withS, if_neg (by simp [h])]; rfl
theorem with_ok (l : List Slot) (fd need : Int) {m : Mem} {K : CV → Mem → Prop} (h : K (.tup [(withS l fd need).1.rv, iRV (withS l fd need).2]) m) : ACall Try.prog 37 [slotsV l, vInt .i64 fd, vInt .i64 need] m K :=
  acall_val Try.func37 l37 rfl (Nat.le_of_ble_eq_true rfl) (with_body l fd need) rfl rfl h

/-! All -/
theorem l33 : lowF Try.prog Try.f33 = some c33 := by kernel_rfl
def intsD (l : List Int) : List (List Dt) := l.map fun i => [.val (.int .i64 i)]
def intsV (l : List Int) : CV := .rv (.one (.dat (.sl 1 (intsD l))))
def allS : Nat → List Slot → List Int
  | _, [] => []
  | k, s :: r => if s.has then (k : Int) :: allS (k + 1) r else allS (k + 1) r
theorem allS_len : ∀ (l : List Slot) (k : Nat), (allS k l).length ≤ l.length
  | [], k => by simp [allS]
  | s :: r, k => by
    have := allS_len r (k + 1)
    simp only [allS]
    split <;> simp <;> omega
theorem allS_take (l : List Slot) (k i : Nat) (h : i < l.length) : allS k (l.take (i + 1)) = if l[i].has then allS k (l.take i) ++ [((k + i : Nat) : Int)] else allS k (l.take i) := by
  induction l generalizing k i with
  | nil => simp at h
  | cons s r ih =>
    cases i with
    | zero => simp [allS]
    | succ i =>
      simp at h
      have := ih (k + 1) i h
      rw [show k + 1 + i = k + (i + 1) by omega] at this
      simp only [List.take_succ_cons, allS, this, List.getElem_cons_succ]
      split <;> split <;> simp
set_option maxRecDepth 100000 in
set_option maxHeartbeats 1000000 in
theorem all_body (l : List Slot) (hb : l.length ≤ 2097152) : body Try.prog c33 [slotsV l] [] (fun r m => FrzV m r (intsV (allS 0 l))) := by
  refine loop_mem (fun k => k ≤ l.length) (fun k => [(8, vInt .i64 (k : Nat)), (3, .rv (.one (.row 0 1 0 none))), (4, .junk), (5, .junk), (9, .junk), (10, .junk), (11, .junk), (12, .junk), (13, .junk), (14, .junk), (15, .junk), (16, .junk), (17, .junk), (18, .junk), (19, .junk)])
    (fun k => [.row 1 (dRows (intsD (allS 0 (l.take k))))]) (fun k => l.length - k) 0 (Nat.zero_le _) ?_ (fun k hk => ?_)
  · refine View.trans (View.esl 3 1 0 rfl rfl rfl) (View.of 1 [0] [] rfl rfl rfl rfl rfl rfl ?_ ?_)
    · repeat (first | exact .nil | refine .junk ?_ | refine .eq rfl ?_)
    · exact .put (by simp [memN]) rfl (.ren' (.row 1 []) (by simp)) (.nil _)
  · refine bB_split (fun h => ?_) (fun h => ?_)
    · have hlt : k < l.length := by
        have h : (k : Int) < ((l.map Slot.enc).length : Int) := of_decide_eq_true h
        simp at h
        omega
      have hg : getZ (l.map Slot.enc) (k : Nat) = some (l[k].enc) := by
        rw [getZ_nat, List.getElem?_map, List.getElem?_eq_getElem hlt]; rfl
      refine ok_some hg ?_
      refine bB_split (fun h3 => ?_) (fun h3 => ?_)
      · have hlen : (allS 0 (l.take k)).length ≤ 2097152 := by
          have := allS_len (l.take k) 0
          simp at this
          omega
        refine ⟨?_, ?_⟩
        · show ((dRows (intsD (allS 0 (l.take k)))).length + 1) * 8 ≤ _
          simp [dRows, intsD]; omega
        · refine ⟨k + 1, hlt, ?_, View.of 4 [3] [] rfl rfl rfl rfl rfl rfl ?_ ?_⟩
          · show l.length - (k + 1) < l.length - k
            omega
          · repeat (first | exact .nil | refine .junk ?_ | refine .put (.ren (next_i64 (by omega)).symm) ?_ | refine .eq rfl ?_)
          · refine .put (by simp [memN]) rfl (.rowDE ?_) (.nil _)
            rw [allS_take l 0 k hlt, if_pos h3]
            simp [dRows, intsD, subL]
      · refine ⟨k + 1, hlt, ?_, View.of 2 [0] [] rfl rfl rfl rfl rfl rfl ?_ ?_⟩
        · show l.length - (k + 1) < l.length - k
          omega
        · repeat (first | exact .nil | refine .junk ?_ | refine .put (.ren (next_i64 (by omega)).symm) ?_ | refine .eq rfl ?_)
        · refine .put (by simp [memN]) rfl (.rowDE ?_) (.nil _)
          rw [allS_take l 0 k hlt, if_neg (by simp [h3])]
    · have hge : ¬ (k : Int) < ((l.map Slot.enc).length : Int) := of_decide_eq_false h
      simp at hge
      have e : l.take k = l := List.take_of_length_le hge
      rw [e]
      exact .rv (.one (FrzC.rowD rfl 0 none))
theorem all_ok (l : List Slot) (hb : l.length ≤ 2097152) {m : Mem} {K : CV → Mem → Prop} (h : K (intsV (allS 0 l)) m) : ACall Try.prog 33 [slotsV l] m K :=
  acall_frame (acall_body Try.func33 l33 rfl (Nat.le_of_ble_eq_true rfl) (all_body l hb)) (by simp [slotsV, CV.isD, CC.isD]) fun r m1 hf => ⟨_, hf, h⟩

/-! SameSlots -/
theorem l28 : lowF Try.prog Try.f28 = some c28 := by kernel_rfl
def eqSlot (a b : Slot) : Bool := a.has == b.has && (a.cap.opn == b.cap.opn && a.cap.rts == b.cap.rts)
def sameS : List Slot → List Slot → Bool
  | [], [] => true
  | a :: r, b :: s => eqSlot a b && sameS r s
  | _, _ => false
theorem sameS_refl : ∀ l, sameS l l = true
  | [] => rfl
  | a :: r => by simp [sameS, eqSlot, sameS_refl r]
theorem sameS_len : ∀ (l k : List Slot), l.length ≠ k.length → sameS l k = false
  | [], [], h => by simp at h
  | [], _ :: _, _ => rfl
  | _ :: _, [], _ => rfl
  | a :: r, b :: s, h => by simp [sameS, sameS_len r s (by simpa using h)]
theorem sameS_of : ∀ (l k : List Slot), l.length = k.length → (∀ (i : Nat) a b, l[i]? = some a → k[i]? = some b → eqSlot a b = true) → sameS l k = true
  | [], [], _, _ => rfl
  | [], _ :: _, h, _ => by simp at h
  | _ :: _, [], h, _ => by simp at h
  | a :: r, b :: s, h, he => by
    simp only [sameS, he 0 a b rfl rfl, Bool.true_and]
    exact sameS_of r s (by simpa using h) fun i x y hx hy => he (i + 1) x y (by simpa using hx) (by simpa using hy)
theorem sameS_not : ∀ (l k : List Slot) (i : Nat) a b, l[i]? = some a → k[i]? = some b → eqSlot a b = false → sameS l k = false
  | [], _, i, a, b, h, _, _ => by simp at h
  | _ :: _, [], i, a, b, _, h, _ => by simp at h
  | x :: r, y :: s, 0, a, b, h1, h2, h => by simp at h1 h2; subst h1; subst h2; simp [sameS, h]
  | x :: r, y :: s, i + 1, a, b, h1, h2, h => by simp [sameS, sameS_not r s i a b (by simpa using h1) (by simpa using h2) h]
set_option maxRecDepth 100000 in
set_option maxHeartbeats 1000000 in
theorem same_body (l k : List Slot) (hb : l.length ≤ 2097153) : body Try.prog c28 [slotsV l, slotsV k] [] (fun r m => r = vBool (sameS l k)) := by
  refine bB_split (fun h => ?_) (fun h => ?_)
  · have h : ¬ l.length = k.length := by
      have := h
      simp at this
      omega
    show vBool _ = vBool _
    rw [sameS_len l k h]
  · have hlk : l.length = k.length := by
      have := h
      simp at this
      omega
    refine loop_mem (fun i => i ≤ l.length ∧ ∀ (j : Nat) a b, j < i → l[j]? = some a → k[j]? = some b → eqSlot a b = true) (fun i => [(13, vInt .i64 (i : Nat)), (5, .junk), (14, .junk), (15, .junk), (16, .junk), (17, .junk), (18, .junk), (19, .junk), (20, .junk), (21, .junk), (22, .junk), (23, .junk), (24, .junk), (25, .junk)])
      (fun i => []) (fun i => l.length - i) 0 ⟨Nat.zero_le _, fun j a b h => absurd h (Nat.not_lt_zero j)⟩ (weak_env (Nat.zero_le _) ?_) (fun i hi => ?_)
    · repeat (first | exact .nil | refine .junk ?_ | refine .keep ?_)
    · refine bB_split (fun h => ?_) (fun h => ?_)
      · have hlt : i < l.length := by
          have h : (i : Int) < ((l.map Slot.enc).length : Int) := of_decide_eq_true h
          simp at h
          omega
        have hg : getZ (l.map Slot.enc) (i : Nat) = some (l[i].enc) := by
          rw [getZ_nat, List.getElem?_map, List.getElem?_eq_getElem hlt]; rfl
        have hg2 : getZ (k.map Slot.enc) (i : Nat) = some ((k[i]'(by omega)).enc) := by
          rw [getZ_nat, List.getElem?_map, List.getElem?_eq_getElem (by omega)]; rfl
        refine ok_some hg ?_
        refine ok_some hg2 ?_
        refine bB_split (fun h3 => ?_) (fun h3 => ?_)
        · show vBool _ = vBool _
          rw [sameS_not l k i _ _ (List.getElem?_eq_getElem hlt) (List.getElem?_eq_getElem (by omega)) ?_]
          have h3 : (!(l[i].has == (k[i]'(by omega)).has && (l[i].cap.opn == (k[i]'(by omega)).cap.opn && (l[i].cap.rts == (k[i]'(by omega)).cap.rts && true)))) = true := h3
          cases he : eqSlot l[i] (k[i]'(by omega))
          · rfl
          · unfold eqSlot at he
            rw [Bool.and_true, he] at h3
            cases h3
        · refine ⟨i + 1, ⟨hlt, fun j a b hj ha hb => ?_⟩, ?_, weak_env (Nat.zero_le _) ?_⟩
          · rcases Nat.lt_or_ge j i with h5 | h5
            · exact hi.2 j a b h5 ha hb
            · have : j = i := by omega
              subst this
              rw [List.getElem?_eq_getElem hlt] at ha
              rw [List.getElem?_eq_getElem (by omega)] at hb
              cases ha; cases hb
              have h3 : (!(l[j].has == (k[j]'(by omega)).has && (l[j].cap.opn == (k[j]'(by omega)).cap.opn && (l[j].cap.rts == (k[j]'(by omega)).cap.rts && true)))) = false := h3
              simpa [eqSlot] using h3
          · show l.length - (i + 1) < l.length - i
            omega
          · repeat (first | exact .nil | refine .junk ?_ | refine .put (next_i64 (by omega)) ?_ | refine .keep ?_)
      · have hge : ¬ (i : Int) < ((l.map Slot.enc).length : Int) := of_decide_eq_false h
        simp at hge
        show vBool _ = vBool _
        rw [sameS_of l k hlk fun j a b ha hb => hi.2 j a b (by have := (List.getElem?_eq_some_iff.1 ha).1; omega) ha hb]
theorem same_ok (l k : List Slot) (hb : l.length ≤ 2097153) {m : Mem} {K : CV → Mem → Prop} (h : K (vBool (sameS l k)) m) : ACall Try.prog 28 [slotsV l, slotsV k] m K :=
  acall_val Try.func28 l28 rfl (Nat.le_of_ble_eq_true rfl) (same_body l k hb) rfl rfl h

/-! Close -/
theorem l29 : lowF Try.prog Try.f29 = some c29 := by kernel_rfl
def lastG : Nat → Nat → List Slot → Nat
  | _, b, [] => b
  | k, b, s :: r => lastG (k + 1) (if s.has then k + 1 else b) r
theorem lastG_take (l : List Slot) (k b i : Nat) (h : i < l.length) : lastG k b (l.take (i + 1)) = if l[i].has then k + i + 1 else lastG k b (l.take i) := by
  induction l generalizing k b i with
  | nil => simp at h
  | cons s r ih =>
    cases i with
    | zero => simp [lastG]
    | succ i =>
      simp at h
      have := ih (k + 1) (if s.has then k + 1 else b) i h
      rw [show k + 1 + i = k + (i + 1) by omega] at this
      simp only [List.take_succ_cons, lastG, this, List.getElem_cons_succ]
def lastN (l : List Slot) : Nat := lastG 0 0 l
theorem lastN_take (l : List Slot) (i : Nat) (h : i < l.length) : lastN (l.take (i + 1)) = if l[i].has then i + 1 else lastN (l.take i) := by
  rw [lastN, lastG_take l 0 0 i h]; simp [lastN]
theorem lastN_take' {l : List Slot} {i : Nat} {s : Slot} (h : l[i]? = some s) : lastN (l.take (i + 1)) = if s.has then i + 1 else lastN (l.take i) := by
  obtain ⟨hi, rfl⟩ := List.getElem?_eq_some_iff.1 h
  exact lastN_take l i hi
theorem takeS {α : Type} {l : List α} {i : Nat} {s : α} (h : l[i]? = some s) : l.take (i + 1) = l.take i ++ [s] := by
  rw [List.take_add_one, h]; rfl
theorem lastG_le : ∀ (l : List Slot) (k b : Nat), b ≤ k → lastG k b l ≤ k + l.length
  | [], k, b, h => by simp [lastG]; exact h
  | s :: r, k, b, h => by
    have := lastG_le r (k + 1) (if s.has then k + 1 else b) (by split <;> omega)
    simp only [lastG, List.length_cons]
    omega
theorem lastN_le (l : List Slot) : lastN l ≤ l.length := by
  have := lastG_le l 0 0 (Nat.le_refl 0)
  simpa [lastN] using this
def noSlot : Slot := ⟨false, ⟨0, 0⟩⟩
def closeS (l : List Slot) (fd : Int) : List Slot × Int :=
  if (getS l fd).2 = 0 then ((l.set fd.toNat noSlot).take (lastN (l.set fd.toNat noSlot)), 0) else ([], (getS l fd).2)
theorem getS_ok {l : List Slot} {fd : Int} (h : (getS l fd).2 = 0) : ∃ k : Nat, fd = k ∧ ∃ hk : k < l.length, l[k].has = true ∧ (getS l fd).1 = l[k].cap := by
  unfold getS at h
  split at h
  · rename_i s hs
    split at hs
    · refine ⟨fd.toNat, by omega, (List.getElem?_eq_some_iff.1 hs).1, ?_⟩
      have e := (List.getElem?_eq_some_iff.1 hs).2
      split at h
      · rename_i h0 hh
        rw [e]
        refine ⟨hh, ?_⟩
        rw [getS, if_pos h0, hs]; simp [hh]
      · simp at h
    · cases hs
  · simp at h
theorem frz2 {m : Mem} {a b : RV} {x : Int} (h : FrzR m a b) : FrzV m (.tup [a, iRV x]) (.tup [b, iRV x]) := by
  refine .tup rfl fun i r r' h1 h2 => ?_
  match i, h1, h2 with
  | 0, h1, h2 => cases h1; cases h2; exact h
  | 1, h1, h2 => cases h1; cases h2; exact FrzR.self rfl
theorem slotRows_eq (l : List Slot) : slotRows l = dRows (l.map Slot.enc) := rfl
theorem frz_take {m : Mem} {id h : Nat} {l : List Slot} (hm : m[id]? = some (.row 3 (dRows (l.map Slot.enc)))) : FrzC m (.row id 3 0 (some h)) (.dat (slotsD (l.take h))) := by
  have h1 : FrzC m (.row id 3 0 (some h)) (.dat (.sl 3 (subL (l.map Slot.enc) 0 (some h)))) := FrzC.rowD hm 0 (some h)
  have h2 : subL (l.map Slot.enc) 0 (some h) = (l.take h).map Slot.enc := by simp [subL, List.map_take]
  rw [h2] at h1
  exact h1
set_option maxRecDepth 100000 in
set_option maxHeartbeats 2000000 in
theorem close_body (l : List Slot) (hb : l.length ≤ 2097152) (fd : Int) : body Try.prog c29 [slotsV l, vInt .i64 fd] [] (fun r m => FrzV m r (.tup [slotsR (closeS l fd).1, iRV (closeS l fd).2])) := by
  refine get_ok l fd ?_
  refine bB_split (fun h => ?_) (fun h => ?_)
  · have h : ¬ (getS l fd).2 = 0 := by simpa using h
    rw [closeS, if_neg h]
    exact frz2 (.one (.esl 3))
  · have h : (getS l fd).2 = 0 := by simpa using h
    rw [closeS, if_pos h]
    obtain ⟨k, rfl, hk, hhas, _⟩ := getS_ok h
    refine clone_row l hb (fun hl => by subst hl; simp at hk) ?_
    refine ok_some (idxZ_nat (k := k) (by simp [slotRows, lenOf]; omega)) ?_
    refine ok_some (x := (l[k].enc).map .dat) (by simp [nth_eq, slotRows, addN, hk]) ?_
    have hset : setN (slotRows l) (addN 0 k) [CC.dat (.val (.bool false)), CC.dat (.val (.int .i64 0)), CC.dat (.val (.int .i64 0))] = dRows ((l.set k noSlot).map Slot.enc) := by
      rw [setN_eq]
      simp [slotRows, Slot.enc, dRows, addN, noSlot]
    have hlen : (l.set k noSlot).length = l.length := by simp
    rw [show ((k : Nat) : Int).toNat = k from rfl]
    generalize l.set k noSlot = l2 at hset hlen
    refine loop_mem (fun h => h ≤ l2.length ∧ lastN (l2.take h) = lastN l2) (fun h => [(8, .rv (.one (.row 1 3 0 (some h)))), (24, .junk), (25, .junk), (26, .junk), (27, .junk), (28, .junk), (29, .junk), (30, .junk), (31, .junk), (32, .junk), (33, .junk), (34, .junk), (35, .junk), (36, .junk), (37, .junk), (38, .junk), (39, .junk), (40, .junk), (41, .junk), (19, .junk), (20, .junk), (23, .junk)])
      (fun h => [.dead, .row 3 (dRows (l2.map Slot.enc))]) (fun h => h) l2.length ⟨Nat.le_refl _, by rw [List.take_length]⟩ ?_ (fun h hh => ?_)
    · refine View.of 2 [0, 1] [] rfl rfl rfl rfl rfl rfl ?_ ?_
      · repeat (first | exact .nil | refine .junk ?_ | refine .put (.hi rfl rfl ((congrArg List.length hset).trans (by simp [dRows]))) ?_ | refine .eq rfl ?_)
      · exact .dead (.put (by simp [memN]) rfl (.rowDE hset) (.nil _))
    · refine bB_split (fun h2 => ?_) (fun h2 => ?_)
      · have h2 : 0 < h := by
          have h2 : ((h : Nat) : Int) > 0 := of_decide_eq_true h2
          omega
        obtain ⟨j, rfl⟩ : ∃ j, h = j + 1 := ⟨h - 1, by omega⟩
        have hj : j < l2.length := by omega
        have hi : (IntKind.i64.wrap (((j + 1 : Nat) : Int) - 1)) = ((j : Nat) : Int) := by
          rw [← wrapN (n := j) (by omega)]; congr 1; omega
        have hidx : idxZ (IntKind.i64.wrap (((j + 1 : Nat) : Int) - 1)) (j + 1) = some j := by rw [hi]; exact idxZ_nat (by omega)
        refine ok_some hidx ?_
        refine ok_some (x := (l2[j].enc).map .dat) (by simp [nth_eq, dRows, addN, hj]) ?_
        have ht := lastN_take l2 j hj
        refine bB_split (fun h3 => ?_) (fun h3 => ?_)
        · have h3 : l2[j].has = false := by simpa using h3
          refine ok_some (x := j) (by show natX (.rv (.one (.dat (.val (.int .i64 (IntKind.i64.wrap (((j + 1 : Nat) : Int) - 1))))))) = _; rw [hi]; rfl) ?_
          refine bB_yes (by simp [lenOf, Nat.ble_eq]) ?_
          refine ⟨j, ⟨by omega, by rw [h3] at ht; simp at ht; rw [← ht]; exact hh.2⟩, Nat.lt_succ_self j, View.of 2 [0, 1] [] rfl rfl rfl rfl rfl rfl ?_ ?_⟩
          · repeat (first | exact .nil | refine .junk ?_ | refine .eq rfl ?_)
          · exact .dead (.put (by simp [memN]) rfl (.rowDE rfl) (.nil _))
        · have h3 : l2[j].has = true := by simpa using h3
          have : lastN l2 = j + 1 := by rw [← hh.2, ht, if_pos h3]
          rw [this]
          exact frz2 (.one (frz_take rfl))
      · have h2 : h = 0 := by
          have h2 : ¬ ((h : Nat) : Int) > 0 := of_decide_eq_false h2
          omega
        subst h2
        have : lastN l2 = 0 := by rw [← hh.2]; rfl
        rw [this]
        exact frz2 (.one (frz_take rfl))
theorem close_ok (l : List Slot) (hb : l.length ≤ 2097152) (fd : Int) {m : Mem} {K : CV → Mem → Prop} (h : K (.tup [slotsR (closeS l fd).1, iRV (closeS l fd).2]) m) : ACall Try.prog 29 [slotsV l, vInt .i64 fd] m K :=
  acall_frame (acall_body Try.func29 l29 rfl (Nat.le_of_ble_eq_true rfl) (close_body l hb fd)) (by simp [slotsV, vInt, CV.isD, CC.isD]) fun r m1 hf => ⟨_, hf, h⟩

/-! the document's Close -/
theorem l30 : lowF Try.prog Try.f30 = some c30 := by kernel_rfl
def cut1 (l : List Slot) (fd : Nat) (k : Nat) : List Slot := (l.take k).set fd noSlot
theorem set_take {α : Type} (l : List α) (fd k : Nat) (x : α) : (l.take k).set fd x = (l.set fd x).take k := by
  rw [List.take_set]
set_option maxRecDepth 100000 in
set_option maxHeartbeats 2000000 in
theorem rclose_body (l : List Slot) (hb : l.length ≤ 2097152) (fd : Int) : body Try.prog c30 [slotsV l, vInt .i64 fd] [] (fun r m => FrzV m r (.tup [slotsR (closeS l fd).1, iRV (closeS l fd).2])) := by
  refine rget_ok l fd ?_
  refine bB_split (fun h => ?_) (fun h => ?_)
  · have h : ¬ (getS l fd).2 = 0 := by simpa using h
    rw [closeS, if_neg h]
    exact frz2 (.one (.esl 3))
  · have h : (getS l fd).2 = 0 := by simpa using h
    rw [closeS, if_pos h]
    obtain ⟨d, rfl, hd, hhas, _⟩ := getS_ok h
    rw [show ((d : Nat) : Int).toNat = d from rfl]
    have hl2 : (l.set d noSlot).length = l.length := by simp
    have hl3 : ∀ k (hk : k < l.length), (l.set d noSlot)[k]? = some (if k = d then noSlot else l[k]) := by
      intro k hk
      rw [List.getElem?_set]
      by_cases e : d = k
      · rw [if_pos e, if_pos hd, if_pos e.symm]
      · rw [if_neg e, if_neg (fun h => e h.symm), List.getElem?_eq_getElem hk]
    generalize l.set d noSlot = l2 at hl2 hl3
    refine loop_mem (fun k => k ≤ l.length) (fun k => [(23, vInt .i64 (k : Nat)), (8, .rv (.one (.row 1 3 0 none))), (9, vInt .i64 (lastN (l2.take k) : Nat)), (10, .junk), (11, .junk), (24, .junk), (25, .junk), (26, .junk), (27, .junk), (28, .junk), (29, .junk), (30, .junk), (31, .junk), (32, .junk), (33, .junk), (34, .junk), (35, .junk), (36, .junk), (37, .junk), (38, .junk), (39, .junk), (40, .junk), (6, .junk)])
      (fun k => [.dead, .row 3 (dRows ((l2.take k).map Slot.enc))]) (fun k => l.length - k) 0 (Nat.zero_le _) ?_ (fun k hk => ?_)
    · refine View.trans (View.esl 8 3 1 rfl rfl rfl) (View.of 2 [0, 1] [] rfl rfl rfl rfl rfl rfl ?_ ?_)
      · repeat (first | exact .nil | refine .junk ?_ | refine .eq rfl ?_)
      · exact .dead (.put (by simp [memN]) rfl (.rowDE rfl) (.nil _))
    · refine bB_split (fun h => ?_) (fun h => ?_)
      · have hlt : k < l.length := by
          have h : (k : Int) < ((l.map Slot.enc).length : Int) := of_decide_eq_true h
          simp at h
          omega
        have hg : getZ (l.map Slot.enc) (k : Nat) = some (l[k].enc) := by
          rw [getZ_nat, List.getElem?_map, List.getElem?_eq_getElem hlt]; rfl
        have ht := lastN_take' (hl3 k hlt)
        have htk := takeS (hl3 k hlt)
        have hbig : ((dRows ((l2.take k).map Slot.enc)).length + 1) * 24 ≤ 140737488355328 := by simp [dRows]; omega
        refine ok_some hg ?_
        refine bB_split (fun h3 => ?_) (fun h3 => ?_)
        · have h3 : k = d := by
            have h3 : ((k : Int) == (d : Int)) = true := h3
            simp at h3
            omega
          rw [if_pos h3] at ht htk
          refine ⟨hbig, ?_⟩
          refine ⟨k + 1, hlt, ?_, View.of 5 [0, 4] [] rfl rfl rfl rfl rfl rfl ?_ ?_⟩
          · show l.length - (k + 1) < l.length - k
            omega
          · repeat (first | exact .nil | refine .junk ?_ | refine .put (.ren (next_i64 (by omega)).symm) ?_ | refine .eq rfl ?_ | refine .eq (congrArg (fun x : Nat => vInt .i64 (x : Int)) ht) ?_)
          · refine .dead (.put (by simp [memN]) rfl (.rowDE ?_) (.nil _))
            rw [htk]
            simp [dRows, subL, Slot.enc, noSlot]
        · have h3 : ¬ k = d := by
            have h3 : ((k : Int) == (d : Int)) = false := h3
            simp at h3
            omega
          rw [if_neg h3] at ht htk
          refine ⟨hbig, ?_⟩
          refine bB_split (fun h4 => ?_) (fun h4 => ?_)
          · rw [if_pos h4] at ht
            refine ⟨k + 1, hlt, ?_, View.of 5 [0, 4] [] rfl rfl rfl rfl rfl rfl ?_ ?_⟩
            · show l.length - (k + 1) < l.length - k
              omega
            · repeat (first | exact .nil | refine .junk ?_ | refine .put (.ren (next_i64 (by omega)).symm) ?_ | refine .eq rfl ?_ | refine .eq ((congrArg (fun x : Nat => vInt .i64 (x : Int)) ht).trans (next_i64 (by omega)).symm) ?_)
            · refine .dead (.put (by simp [memN]) rfl (.rowDE ?_) (.nil _))
              rw [htk]
              simp [dRows, subL, Slot.enc]
          · rw [if_neg (by simp [h4])] at ht
            refine ⟨k + 1, hlt, ?_, View.of 5 [0, 4] [] rfl rfl rfl rfl rfl rfl ?_ ?_⟩
            · show l.length - (k + 1) < l.length - k
              omega
            · repeat (first | exact .nil | refine .junk ?_ | refine .put (.ren (next_i64 (by omega)).symm) ?_ | refine .eq rfl ?_ | refine .eq (congrArg (fun x : Nat => vInt .i64 (x : Int)) ht) ?_)
            · refine .dead (.put (by simp [memN]) rfl (.rowDE ?_) (.nil _))
              rw [htk]
              simp [dRows, subL, Slot.enc]
      · have hge : ¬ (k : Int) < ((l.map Slot.enc).length : Int) := of_decide_eq_false h
        simp at hge
        have e : l2.take k = l2 := List.take_of_length_le (by omega)
        rw [e]
        have hle := lastN_le l2
        refine bB_yes ?_ ?_
        · simp [lenOf, dRows, Nat.ble_eq]; exact hle
        exact frz2 (.one (frz_take rfl))
theorem rclose_ok (l : List Slot) (hb : l.length ≤ 2097152) (fd : Int) {m : Mem} {K : CV → Mem → Prop} (h : K (.tup [slotsR (closeS l fd).1, iRV (closeS l fd).2]) m) : ACall Try.prog 30 [slotsV l, vInt .i64 fd] m K :=
  acall_frame (acall_body Try.func30 l30 rfl (Nat.le_of_ble_eq_true rfl) (rclose_body l hb fd)) (by simp [slotsV, vInt, CV.isD, CC.isD]) fun r m1 hf => ⟨_, hf, h⟩
end Go.Proofs.Ytflieebgiejjpaa
