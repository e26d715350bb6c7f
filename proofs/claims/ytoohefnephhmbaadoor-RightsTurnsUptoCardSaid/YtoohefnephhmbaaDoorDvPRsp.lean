import Derived.Test.YtoohefnephhmbaaDoorAmZ2
import Derived.Test.YtoohefnephhmbaaDoorDvPCut
import Derived.Test.YtoohefnephhmbaaDoorAmY
set_option linter.unusedVariables false
set_option linter.unusedSimpArgs false
namespace Go.Proofs.YtoohefnephhmbaaDoor
open Go.AM Go.ChangeShapes Go.WideShapes Go.ChangeAt Go.RowKit
def c10 : LF := ⟨42, [.tmp 2, .tmp 3, .tmp 4], (.seq (.reg [
    ⟨(some 2), .mov (.c (.rv (.one .esl))), none⟩,
    ⟨(some 3), .mov (.c (.rv (.one (.dat (.val (.bool false)))))), none⟩,
    ⟨(some 4), .mov (.c (.rv (.one (.dat (.val (.int .i64 (0))))))), none⟩]) (.seq (.seq (.reg [
    ⟨(some 8), .mov (.t 0), none⟩,
    ⟨(some 9), .bin .eql (.t 8) (.c (.rv (.one (.dat (.val (.string ⟨#[]⟩)))))), none⟩]) (.cond (.t 9) (.seq (.reg [
    ⟨(some 2), .mov (.c (.rv (.one .esl))), none⟩,
    ⟨(some 3), .mov (.c (.rv (.one (.dat (.val (.bool false)))))), none⟩,
    ⟨(some 4), .mov (.c (.rv (.one (.dat (.val (.int .i64 (2))))))), none⟩]) .ret) .skip)) (.seq (.seq (.reg [
    ⟨(some 10), .mov (.t 0), none⟩,
    ⟨(some 11), .len 0 (.t 10), none⟩,
    ⟨(some 12), .bin .gtr (.t 11) (.c (.rv (.one (.dat (.val (.int .i64 (60))))))), none⟩]) (.cond (.t 12) (.seq (.reg [
    ⟨(some 2), .mov (.c (.rv (.one .esl))), none⟩,
    ⟨(some 3), .mov (.c (.rv (.one (.dat (.val (.bool false)))))), none⟩,
    ⟨(some 4), .mov (.c (.rv (.one (.dat (.val (.int .i64 (4))))))), none⟩]) .ret) .skip)) (.seq (.reg [
    ⟨(some 5), .mov (.c (.rv (.one .esl))), none⟩]) (.seq (.seq (.reg [
    ⟨(some 13), .mov (.t 0), none⟩,
    ⟨(some 14), .call (.c (.rv (.one (.fn 39 [])))) [(.t 13), (.c (.rv (.one (.dat (.val (.int .u8 (47)))))))], none⟩,
    ⟨(some 15), .len 1 (.t 14), none⟩,
    ⟨(some 16), .mov (.c (.rv (.one (.dat (.val (.int .i64 (0))))))), none⟩]) (.block 0 (.loop (.seq (.reg [
    ⟨(some 17), .bin .lss (.t 16) (.t 15), none⟩]) (.seq (.cond (.t 17) .skip (.exit 0)) (.seq (.block 1 (.seq (.reg [
    ⟨(some 18), .idx 1 (.t 14) (.t 16), none⟩,
    ⟨(some 19), .load false 1 (.t 18), none⟩,
    ⟨(some 7), .mov (.t 19), none⟩]) (.seq (.seq (.reg [
    ⟨(some 20), .mov (.t 7), none⟩,
    ⟨(some 21), .bin .eql (.t 20) (.c (.rv (.one (.dat (.val (.string ⟨#[]⟩)))))), none⟩,
    ⟨(some 22), .mov (.t 21), none⟩,
    ⟨(some 23), .mov (.t 7), (some (22, false))⟩,
    ⟨(some 24), .bin .eql (.t 23) (.c (.rv (.one (.dat (.val (.string ⟨#[46]⟩)))))), (some (22, false))⟩,
    ⟨(some 25), .pick (.t 22) (.c (.rv (.one (.dat (.val (.bool true)))))) (.t 24), none⟩]) (.cond (.t 25) (.exit 1) .skip)) (.seq (.seq (.reg [
    ⟨(some 26), .mov (.t 7), none⟩,
    ⟨(some 27), .bin .neq (.t 26) (.c (.rv (.one (.dat (.val (.string ⟨#[46, 46]⟩)))))), none⟩,
    ⟨(some 28), .mov (.t 27), none⟩,
    ⟨(some 29), .mov (.t 7), (some (28, true))⟩,
    ⟨(some 30), .call (.c (.rv (.one (.fn 13 [])))) [(.t 29)], (some (28, true))⟩,
    ⟨(some 31), .un .not (.t 30), (some (28, true))⟩,
    ⟨(some 32), .pick (.t 28) (.t 31) (.c (.rv (.one (.dat (.val (.bool false)))))), none⟩]) (.cond (.t 32) (.seq (.reg [
    ⟨(some 2), .mov (.c (.rv (.one .esl))), none⟩,
    ⟨(some 3), .mov (.c (.rv (.one (.dat (.val (.bool false)))))), none⟩,
    ⟨(some 4), .mov (.c (.rv (.one (.dat (.val (.int .i64 (7))))))), none⟩]) .ret) .skip)) (.reg [
    ⟨(some 33), .mov (.t 5), none⟩,
    ⟨(some 34), .mov (.t 7), none⟩,
    ⟨(some 35), .bsl 1 [(.dat (.val (.string ⟨#[]⟩)))] 1 [(0, (.t 34))], none⟩,
    ⟨(some 36), .app 1 16 (.t 33) (.t 35), none⟩,
    ⟨(some 5), .mov (.t 36), none⟩]))))) (.reg [
    ⟨(some 37), .bin .add (.t 16) (.c (.rv (.one (.dat (.val (.int .i64 (1))))))), none⟩,
    ⟨(some 16), .mov (.t 37), none⟩]))))))) (.seq (.draw [
    ⟨(some 38), .mov (.t 5), none⟩,
    ⟨(some 39), .mov (.t 0), none⟩,
    ⟨(some 40), .sidx (.t 39) (.c (.rv (.one (.dat (.val (.int .i64 (0))))))), none⟩,
    ⟨(some 41), .bin .eql (.t 40) (.c (.rv (.one (.dat (.val (.int .u8 (47))))))), none⟩,
    ⟨(some 2), .mov (.t 38), none⟩,
    ⟨(some 3), .mov (.t 41), none⟩,
    ⟨(some 4), .mov (.c (.rv (.one (.dat (.val (.int .i64 (0))))))), none⟩]
    [(.cons 0 none (.cons 1 none (.cons 2 none (.cons 3 none (.cons 4 none (.cons 5 none (.cons 6 none .nil)))))))]) .ret))))))⟩
theorem l10 : lowF Tryd.prog Tryd.f10 = some c10 := by kernel_rfl
theorem tx_get {l : List Txt} {k : Nat} (h : k < l.length) : getZ (l.map tD) (k : Nat) = some (tD l[k]) := by
  rw [getZ_nat, List.getElem?_map, List.getElem?_eq_getElem h]; rfl
set_option maxRecDepth 100000 in
set_option maxHeartbeats 8000000 in
theorem rsplit_body (t : Txt) (ht : t.length ≤ 4194304) : body Tryd.prog c10 [vT t] [] (fun r m => FrzV m r (spRV (splitS t))) := by
  refine bB_str (b := []) (fun h => ?_) (fun h0 => ?_)
  · subst h
    exact frz3 (.esl 1)
  refine bB_dec (fun h => ?_) (fun h1 => ?_)
  · rw [bysL_sizeI] at h
    have : splitS t = ([], false, 4) := by rw [splitS, if_neg h0, if_pos (by omega)]
    rw [this]
    exact frz3 (.esl 1)
  rw [bysL_sizeI] at h1
  refine cut_ok t 47 ht ?_
  have hcl := cutL_len 47 t
  refine loop_keep (fun k => k ≤ (cutL 47 t).length ∧ ((cutL 47 t).take k).all goodT = true) [0] (fun k => [(5, .rv (.one (.row 0 1 0 none))), (14, txV (cutL 47 t)), (15, vInt .i64 ((cutL 47 t).length : Nat)), (16, vInt .i64 (k : Nat))])
    (fun k => [rowT (((cutL 47 t).take k).filter keepT)]) (fun k => (cutL 47 t).length - k) 0 ⟨Nat.zero_le _, by simp⟩ ?_ (fun k hk => ?_)
  · refine View.trans (View.esl 5 1 0 rfl rfl rfl) (View.of 1 [0] [] rfl rfl rfl rfl rfl rfl ?_ ?_)
    · repeat (first | exact .nil | refine .junk ?_ | refine .eq rfl ?_ | refine .put (.ren (by rw [List.length_map]; rfl)) ?_)
    · exact .put (by simp [memN]) rfl (.rowDE rfl) (.nil _)
  obtain ⟨hk, hg⟩ : k ≤ (cutL 47 t).length ∧ ((cutL 47 t).take k).all goodT = true := hk
  refine bB_dec (fun h5 => ?_) (fun h5 => ?_)
  · have hlt : k < (cutL 47 t).length := by
      have h5 : (k : Int) < ((cutL 47 t).length : Int) := h5
      omega
    have htk : (cutL 47 t).take (k + 1) = (cutL 47 t).take k ++ [(cutL 47 t)[k]] := by rw [List.take_succ_eq_append_getElem hlt]
    refine ok_some (tx_get hlt) ?_
    have hw : (cutL 47 t)[k]? = some (cutL 47 t)[k] := List.getElem?_eq_getElem hlt
    generalize (cutL 47 t)[k] = w at htk hw
    have hwl := cutL_mem_len 47 t w (List.mem_of_getElem? hw)
    have skip : w = [] ∨ w = [46] → ((cutL 47 t).take (k + 1)).filter keepT = ((cutL 47 t).take k).filter keepT ∧ ((cutL 47 t).take (k + 1)).all goodT = true := by
      intro h
      rw [htk, List.filter_append, List.all_append, hg]
      rcases h with rfl | rfl <;> simp [keepT, goodT]
    have keep : w ≠ [] → w ≠ [46] → (w = [46, 46] ∨ nameOk w = true) → ((cutL 47 t).take (k + 1)).filter keepT = ((cutL 47 t).take k).filter keepT ++ [w] ∧ ((cutL 47 t).take (k + 1)).all goodT = true := by
      intro h1 h2 h3
      rw [htk, List.filter_append, List.all_append, hg]
      rcases h3 with rfl | h3
      · simp [keepT, goodT]
      · simp [keepT, goodT, h1, h2, h3]
    have bad : w ≠ [] → w ≠ [46] → w ≠ [46, 46] → nameOk w = false → splitS t = ([], false, 7) := by
      intro h1 h2 h3 h4
      have : (cutL 47 t).all goodT = false := by
        rw [List.all_eq_false]
        exact ⟨w, List.mem_of_getElem? hw, by simp [goodT, h1, h2, h3, h4]⟩
      rw [splitS, if_neg h0, if_neg (by omega), this]
      rfl
    have hlen : (((cutL 47 t).take k).filter keepT).length ≤ 61 := by
      have h2 := List.length_filter_le keepT ((cutL 47 t).take k)
      have h4 : ((cutL 47 t).take k).length ≤ (cutL 47 t).length := by rw [List.length_take]; omega
      omega
    have big : ((dRows ((((cutL 47 t).take k).filter keepT).map tD)).length + 1) * 16 ≤ 140737488355328 := by
      rw [dRows_len, List.length_map]
      omega
    refine bB_str (b := []) (fun e1 => ?_) (fun e1 => ?_)
    · refine ⟨k + 1, ⟨hlt, (skip (.inl e1)).2⟩, (show (cutL 47 t).length - (k + 1) < (cutL 47 t).length - k by omega), View.of 1 [0] [] rfl rfl rfl rfl rfl rfl ?_ ?_⟩
      · repeat (first | exact .nil | refine .junk ?_ | refine .put (.ren (next_i64 (by omega)).symm) ?_ | refine .eq rfl ?_)
      · exact .put (by simp [memN]) rfl (.rowDE (by rw [(skip (.inl e1)).1])) (.nil _)
    refine bB_str (b := [46]) (fun e2 => ?_) (fun e2 => ?_)
    · refine ⟨k + 1, ⟨hlt, (skip (.inr e2)).2⟩, (show (cutL 47 t).length - (k + 1) < (cutL 47 t).length - k by omega), View.of 1 [0] [] rfl rfl rfl rfl rfl rfl ?_ ?_⟩
      · repeat (first | exact .nil | refine .junk ?_ | refine .put (.ren (next_i64 (by omega)).symm) ?_ | refine .eq rfl ?_)
      · exact .put (by simp [memN]) rfl (.rowDE (by rw [(skip (.inr e2)).1])) (.nil _)
    refine bB_nstr (b := [46, 46]) (fun e3 => ?_) (fun e3 => ?_)
    · refine rname_ok w (by omega) ?_
      cases e4 : nameOk w with
      | true =>
        refine ⟨big, k + 1, ⟨hlt, (keep e1 e2 (.inr e4)).2⟩, (show (cutL 47 t).length - (k + 1) < (cutL 47 t).length - k by omega), View.of 3 [2] [] rfl rfl rfl rfl rfl rfl ?_ ?_⟩
        · repeat (first | exact .nil | refine .junk ?_ | refine .put (.ren (next_i64 (by omega)).symm) ?_ | refine .eq rfl ?_)
        · refine .put (by simp [memN]) rfl (.rowDE ?_) (.nil _)
          rw [(keep e1 e2 (.inr e4)).1, List.map_append, dRows_append]
          rfl
      | false =>
        rw [bad e1 e2 e3 e4]
        exact frz3 (.esl 1)
    · refine ⟨big, k + 1, ⟨hlt, (keep e1 e2 (.inl e3)).2⟩, (show (cutL 47 t).length - (k + 1) < (cutL 47 t).length - k by omega), View.of 3 [2] [] rfl rfl rfl rfl rfl rfl ?_ ?_⟩
      · repeat (first | exact .nil | refine .junk ?_ | refine .put (.ren (next_i64 (by omega)).symm) ?_ | refine .eq rfl ?_)
      · refine .put (by simp [memN]) rfl (.rowDE ?_) (.nil _)
        rw [(keep e1 e2 (.inl e3)).1, List.map_append, dRows_append]
        rfl
  · have h5 : ¬ (k : Int) < ((cutL 47 t).length : Int) := h5
    rw [List.take_of_length_le (by omega : (cutL 47 t).length ≤ k)] at hg
    have hs : splitS t = (((cutL 47 t).take k).filter keepT, decide (t[0]? = some 47), 0) := by
      rw [splitS, if_neg h0, if_neg (by omega), hg, List.take_of_length_le (by omega : (cutL 47 t).length ≤ k)]
      rfl
    rw [hs]
    obtain ⟨c, r, rfl⟩ : ∃ c r, t = c :: r := by
      cases t with
      | nil => exact absurd rfl h0
      | cons c r => exact ⟨c, r, rfl⟩
    rw [first47]
    exact frz3 (l := ((cutL 47 (c :: r)).take k).filter keepT) (c := .row 0 1 0 none) (FrzC.rowD (ds := (((cutL 47 (c :: r)).take k).filter keepT).map tD) rfl 0 none)
theorem rsplit_ok (t : Txt) (ht : t.length ≤ 4194304) {m : Mem} {K : CV → Mem → Prop} (h : K (spRV (splitS t)) m) : ACall Tryd.prog 10 [vT t] m K :=
  acall_frame (acall_body Tryd.func10 l10 rfl (Nat.le_of_ble_eq_true rfl) (rsplit_body t ht)) (by simp [vT, vStr, CV.isD, CC.isD]) fun r m1 hf => ⟨_, hf, h⟩
end Go.Proofs.YtoohefnephhmbaaDoor
