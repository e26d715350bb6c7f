import Derived.Test.YtoohefnephhmbaaDoorAmZ2
import Derived.Test.YtoohefnephhmbaaDoorDvPRsp
import Derived.Test.YtoohefnephhmbaaDoorAmY
set_option linter.unusedVariables false
set_option linter.unusedSimpArgs false
namespace Go.Proofs.YtoohefnephhmbaaDoor
open Go.AM Go.ChangeShapes Go.WideShapes Go.ChangeAt Go.RowKit
def c11 : LF := ⟨26, [.tmp 4], (.seq (.reg [
    ⟨(some 4), .mov (.c (.rv (.one (.dat (.val (.bool false)))))), none⟩]) (.seq (.seq (.reg [
    ⟨(some 6), .mov (.t 0), none⟩,
    ⟨(some 7), .len 1 (.t 6), none⟩,
    ⟨(some 8), .mov (.t 1), none⟩,
    ⟨(some 9), .len 1 (.t 8), none⟩,
    ⟨(some 10), .bin .neq (.t 7) (.t 9), none⟩]) (.cond (.t 10) (.seq (.reg [
    ⟨(some 4), .mov (.c (.rv (.one (.dat (.val (.bool false)))))), none⟩]) .ret) .skip)) (.seq (.seq (.reg [
    ⟨(some 11), .mov (.t 0), none⟩,
    ⟨(some 12), .len 1 (.t 11), none⟩,
    ⟨(some 13), .mov (.c (.rv (.one (.dat (.val (.int .i64 (0))))))), none⟩]) (.block 0 (.loop (.seq (.reg [
    ⟨(some 14), .bin .lss (.t 13) (.t 12), none⟩]) (.seq (.cond (.t 14) .skip (.exit 0)) (.seq (.block 1 (.seq (.reg [
    ⟨(some 15), .mov (.t 13), none⟩,
    ⟨(some 5), .mov (.t 15), none⟩]) (.seq (.draw [
    ⟨(some 16), .mov (.t 0), none⟩,
    ⟨(some 17), .mov (.t 5), none⟩,
    ⟨(some 18), .idx 1 (.t 16) (.t 17), none⟩,
    ⟨(some 19), .load false 1 (.t 18), none⟩,
    ⟨(some 20), .mov (.t 1), none⟩,
    ⟨(some 21), .mov (.t 5), none⟩,
    ⟨(some 22), .idx 1 (.t 20) (.t 21), none⟩,
    ⟨(some 23), .load false 1 (.t 22), none⟩,
    ⟨(some 24), .bin .neq (.t 19) (.t 23), none⟩]
    [(.cons 0 none (.cons 1 none (.cons 2 none (.cons 3 none (.cons 4 none (.cons 5 none (.cons 6 none (.cons 7 none (.cons 8 none .nil)))))))))]) (.cond (.t 24) (.seq (.reg [
    ⟨(some 4), .mov (.c (.rv (.one (.dat (.val (.bool false)))))), none⟩]) .ret) .skip)))) (.reg [
    ⟨(some 25), .bin .add (.t 13) (.c (.rv (.one (.dat (.val (.int .i64 (1))))))), none⟩,
    ⟨(some 13), .mov (.t 25), none⟩]))))))) (.seq (.reg [
    ⟨(some 4), .mov (.c (.rv (.one (.dat (.val (.bool true)))))), none⟩]) .ret))))⟩
def c16 : LF := ⟨24, [.tmp 2], (.seq (.reg [
    ⟨(some 2), .mov (.c (.rv (.one (.dat (.val (.int .i64 (0))))))), none⟩]) (.seq (.reg [
    ⟨(some 3), .mov (.c (.rv (.one (.dat (.val (.int .i64 (0))))))), none⟩,
    ⟨(some 4), .mov (.c (.rv (.one (.dat (.val (.int .i64 (0))))))), none⟩]) (.seq (.seq (.reg [
    ⟨(some 7), .mov (.t 0), none⟩,
    ⟨(some 8), .len 1 (.t 7), none⟩,
    ⟨(some 9), .mov (.c (.rv (.one (.dat (.val (.int .i64 (0))))))), none⟩]) (.block 0 (.loop (.seq (.reg [
    ⟨(some 10), .bin .lss (.t 9) (.t 8), none⟩]) (.seq (.cond (.t 10) .skip (.exit 0)) (.seq (.block 1 (.seq (.reg [
    ⟨(some 11), .idx 1 (.t 7) (.t 9), none⟩,
    ⟨(some 12), .load false 1 (.t 11), none⟩,
    ⟨(some 6), .mov (.t 12), none⟩]) (.seq (.seq (.reg [
    ⟨(some 13), .mov (.t 6), none⟩,
    ⟨(some 14), .bin .eql (.t 13) (.c (.rv (.one (.dat (.val (.string ⟨#[46, 46]⟩)))))), none⟩]) (.cond (.t 14) (.reg [
    ⟨(some 15), .mov (.t 3), none⟩,
    ⟨(some 16), .bin .add (.t 15) (.c (.rv (.one (.dat (.val (.int .i64 (1))))))), none⟩,
    ⟨(some 3), .mov (.t 16), none⟩]) (.reg [
    ⟨(some 17), .mov (.t 3), none⟩,
    ⟨(some 18), .bin .sub (.t 17) (.c (.rv (.one (.dat (.val (.int .i64 (1))))))), none⟩,
    ⟨(some 3), .mov (.t 18), none⟩]))) (.reg [
    ⟨(some 19), .mov (.t 4), none⟩,
    ⟨(some 20), .mov (.t 3), none⟩,
    ⟨(some 21), .minmax true [(.t 19), (.t 20)], none⟩,
    ⟨(some 4), .mov (.t 21), none⟩])))) (.reg [
    ⟨(some 22), .bin .add (.t 9) (.c (.rv (.one (.dat (.val (.int .i64 (1))))))), none⟩,
    ⟨(some 9), .mov (.t 22), none⟩]))))))) (.seq (.reg [
    ⟨(some 23), .mov (.t 4), none⟩,
    ⟨(some 2), .mov (.t 23), none⟩]) .ret))))⟩
theorem l11 : lowF Tryd.prog Tryd.f11 = some c11 := by kernel_rfl
set_option maxRecDepth 100000 in
set_option maxHeartbeats 8000000 in
theorem same_body (a b : List Txt) (ha : a.length ≤ 4194304) : body Tryd.prog c11 [txV a, txV b] [] (fun r m => r = vBool (decide (a = b))) := by
  refine bB_bne (fun h => ?_) (fun h => ?_)
  · rw [List.length_map, List.length_map] at h
    have : decide (a = b) = false := decide_eq_false (by rintro rfl; exact h rfl)
    rw [this]; rfl
  have h : a.length = b.length := by
    rw [List.length_map, List.length_map] at h
    omega
  refine loop_keep (fun k => k ≤ a.length ∧ a.take k = b.take k) [0, 1] (fun k => [(12, vInt .i64 (a.length : Nat)), (13, vInt .i64 (k : Nat))]) (fun _ => []) (fun k => a.length - k) 0 ⟨Nat.zero_le _, by simp⟩ ?_ (fun k hk => ?_)
  · refine View.of 0 [] [] rfl rfl rfl rfl rfl rfl ?_ (.nil _)
    repeat (first | exact .nil | refine .junk ?_ | refine .eq rfl ?_ | refine .put (.ren (by rw [List.length_map]; rfl)) ?_)
  obtain ⟨hk, he⟩ : k ≤ a.length ∧ a.take k = b.take k := hk
  refine bB_dec (fun h5 => ?_) (fun h5 => ?_)
  · have hlt : k < a.length := by
      have h5 : (k : Int) < (a.length : Int) := h5
      omega
    have hlb : k < b.length := by omega
    refine ok_some (tx_get hlt) ?_
    refine ok_some (tx_get hlb) ?_
    refine bB_nstr (fun e1 => ?_) (fun e1 => ?_)
    · have : decide (a = b) = false := decide_eq_false (by rintro rfl; exact e1 rfl)
      rw [this]; rfl
    · refine ⟨k + 1, ⟨hlt, ?_⟩, (show a.length - (k + 1) < a.length - k by omega), View.of 0 [] [] rfl rfl rfl rfl rfl rfl ?_ (.nil _)⟩
      · rw [List.take_succ_eq_append_getElem hlt, List.take_succ_eq_append_getElem hlb, he, e1]
      · repeat (first | exact .nil | refine .junk ?_ | refine .put (.ren (next_i64 (by omega)).symm) ?_ | refine .eq rfl ?_)
  · have h5 : ¬ (k : Int) < (a.length : Int) := h5
    rw [List.take_of_length_le (by omega), List.take_of_length_le (by omega)] at he
    have : decide (a = b) = true := decide_eq_true he
    rw [this]; rfl
theorem same_ok (a b : List Txt) (ha : a.length ≤ 4194304) {m : Mem} {K : CV → Mem → Prop} (h : K (vBool (decide (a = b))) m) : ACall Tryd.prog 11 [txV a, txV b] m K :=
  acall_val Tryd.func11 l11 rfl (Nat.le_of_ble_eq_true rfl) (same_body a b ha) rfl rfl h

/-! how far up -/
def hStep (n : Int) (w : Txt) : Int := if w = [46, 46] then n + 1 else n - 1
def hgt (l : List Txt) : Int := l.foldl hStep 0
def mx : List Txt → Int → Int → Int
  | [], _, m => m
  | w :: r, n, m => mx r (hStep n w) (max m (hStep n w))
def depthS (l : List Txt) : Int := mx l 0 0
theorem mx_snoc (w : Txt) : ∀ (l : List Txt) (n m : Int), mx (l ++ [w]) n m = max (mx l n m) ((l ++ [w]).foldl hStep n)
  | [], n, m => rfl
  | x :: r, n, m => by simp only [List.cons_append, mx, List.foldl_cons, mx_snoc w r]
theorem depthS_snoc (l : List Txt) (w : Txt) : depthS (l ++ [w]) = max (depthS l) (hgt (l ++ [w])) := mx_snoc w l 0 0
theorem hgt_snoc (l : List Txt) (w : Txt) : hgt (l ++ [w]) = hStep (hgt l) w := by simp [hgt]
theorem hgt_len' : ∀ (l : List Txt) (n : Int), n - (l.length : Int) ≤ l.foldl hStep n ∧ l.foldl hStep n ≤ n + l.length
  | [], n => by simp
  | w :: r, n => by
    have := hgt_len' r (hStep n w)
    simp only [List.foldl_cons, List.length_cons]
    have hs : hStep n w = n + 1 ∨ hStep n w = n - 1 := by unfold hStep; split <;> simp
    rcases hs with h | h <;> rw [h] at this ⊢ <;> omega
theorem hgt_len (l : List Txt) : -(l.length : Int) ≤ hgt l ∧ hgt l ≤ l.length := by
  have := hgt_len' l 0
  unfold hgt
  omega
theorem mx_len : ∀ (l : List Txt) (n m : Int), m ≤ mx l n m ∧ mx l n m ≤ max m (n + l.length)
  | [], n, m => by simp only [mx]; omega
  | w :: r, n, m => by
    have := mx_len r (hStep n w) (max m (hStep n w))
    simp only [mx, List.length_cons]
    have hs : hStep n w = n + 1 ∨ hStep n w = n - 1 := by unfold hStep; split <;> simp
    rcases hs with h | h <;> rw [h] at this ⊢ <;> omega
theorem depth_len (l : List Txt) : 0 ≤ depthS l ∧ depthS l ≤ l.length := by
  have := mx_len l 0 0
  unfold depthS
  omega
theorem l16 : lowF Tryd.prog Tryd.f16 = some c16 := by kernel_rfl
set_option maxRecDepth 100000 in
set_option maxHeartbeats 8000000 in
theorem depth_body (l : List Txt) (hl : l.length ≤ 4194304) : body Tryd.prog c16 [txV l] [] (fun r m => r = vInt .i64 (depthS l)) := by
  refine loop_keep (fun k => k ≤ l.length) [] (fun k => [(3, vInt .i64 (hgt (l.take k))), (4, vInt .i64 (depthS (l.take k))), (7, txV l), (8, vInt .i64 (l.length : Nat)), (9, vInt .i64 (k : Nat))]) (fun _ => []) (fun k => l.length - k) 0 (Nat.zero_le _) ?_ (fun k hk => ?_)
  · refine View.of 0 [] [] rfl rfl rfl rfl rfl rfl ?_ (.nil _)
    repeat (first | exact .nil | refine .junk ?_ | refine .eq rfl ?_ | refine .put (.ren (by rw [List.length_map]; rfl)) ?_)
  have hk : k ≤ l.length := hk
  refine bB_dec (fun h5 => ?_) (fun h5 => ?_)
  · have hlt : k < l.length := by
      have h5 : (k : Int) < (l.length : Int) := h5
      omega
    have htk : l.take (k + 1) = l.take k ++ [l[k]] := by rw [List.take_succ_eq_append_getElem hlt]
    refine ok_some (tx_get hlt) ?_
    generalize l[k] = w at htk
    have hh := hgt_len (l.take k)
    have h4 : (l.take k).length ≤ l.length := by rw [List.length_take]; omega
    have hs := hgt_snoc (l.take k) w
    rw [← htk] at hs
    have hd := depthS_snoc (l.take k) w
    rw [← htk] at hd
    refine bB_str (b := [46, 46]) (fun e1 => ?_) (fun e1 => ?_)
    · have h6 : hgt (l.take (k + 1)) = IntKind.i64.wrap (hgt (l.take k) + 1) := by rw [hs, hStep, if_pos e1, IntWalk.i64_in _ (by omega)]
      refine ⟨k + 1, hlt, (show l.length - (k + 1) < l.length - k by omega), View.of 0 [] [] rfl rfl rfl rfl rfl rfl ?_ (.nil _)⟩
      rw [← h6]
      have h7 : (if hgt (l.take (k + 1)) > depthS (l.take k) then hgt (l.take (k + 1)) else depthS (l.take k)) = depthS (l.take (k + 1)) := by
        rw [hd]; split <;> omega
      rw [h7]
      repeat (first | exact .nil | refine .junk ?_ | refine .put (.ren (next_i64 (by omega)).symm) ?_ | refine .eq rfl ?_)
    · have h6 : hgt (l.take (k + 1)) = IntKind.i64.wrap (hgt (l.take k) - 1) := by rw [hs, hStep, if_neg e1, IntWalk.i64_in _ (by omega)]
      refine ⟨k + 1, hlt, (show l.length - (k + 1) < l.length - k by omega), View.of 0 [] [] rfl rfl rfl rfl rfl rfl ?_ (.nil _)⟩
      rw [← h6]
      have h7 : (if hgt (l.take (k + 1)) > depthS (l.take k) then hgt (l.take (k + 1)) else depthS (l.take k)) = depthS (l.take (k + 1)) := by
        rw [hd]; split <;> omega
      rw [h7]
      repeat (first | exact .nil | refine .junk ?_ | refine .put (.ren (next_i64 (by omega)).symm) ?_ | refine .eq rfl ?_)
  · have h5 : ¬ (k : Int) < (l.length : Int) := h5
    rw [List.take_of_length_le (by omega)]
    rfl
theorem depth_ok (l : List Txt) (hl : l.length ≤ 4194304) {m : Mem} {K : CV → Mem → Prop} (h : K (vInt .i64 (depthS l)) m) : ACall Tryd.prog 16 [txV l] m K :=
  acall_val Tryd.func16 l16 rfl (Nat.le_of_ble_eq_true rfl) (depth_body l hl) rfl rfl h
end Go.Proofs.YtoohefnephhmbaaDoor
