import Derived.Test.YtoohefnephhmbaaDoorAmZ2
import Derived.Test.YtoohefnephhmbaaDoorDvPSam
import Derived.Test.YtoohefnephhmbaaDoorAmY
set_option linter.unusedVariables false
set_option linter.unusedSimpArgs false
namespace Go.Proofs.YtoohefnephhmbaaDoor
open Go.AM Go.ChangeShapes Go.WideShapes Go.ChangeAt Go.RowKit
def c17 : LF := ⟨35, [.tmp 2], (.seq (.reg [
    ⟨(some 2), .mov (.c (.rv (.one (.dat (.val (.int .i64 (0))))))), none⟩]) (.seq (.reg [
    ⟨(some 3), .mov (.c (.rv (.one (.dat (.val (.int .i64 (0))))))), none⟩]) (.seq (.seq (.reg [
    ⟨(some 8), .mov (.t 0), none⟩,
    ⟨(some 9), .len 1 (.t 8), none⟩,
    ⟨(some 10), .bin .add (.t 9) (.c (.rv (.one (.dat (.val (.int .i64 (1))))))), none⟩,
    ⟨(some 11), .mov (.c (.rv (.one (.dat (.val (.int .i64 (0))))))), none⟩]) (.block 0 (.loop (.seq (.reg [
    ⟨(some 12), .bin .lss (.t 11) (.t 10), none⟩]) (.seq (.cond (.t 12) .skip (.exit 0)) (.seq (.block 1 (.seq (.reg [
    ⟨(some 13), .mov (.t 11), none⟩,
    ⟨(some 4), .mov (.t 13), none⟩]) (.seq (.reg [
    ⟨(some 5), .mov (.c (.rv (.one (.dat (.val (.int .i64 (0))))))), none⟩]) (.seq (.seq (.reg [
    ⟨(some 14), .mov (.t 0), none⟩,
    ⟨(some 15), .mov (.t 4), none⟩,
    ⟨(some 16), .slc 1 (.t 14) none (some (.t 15)) none, none⟩,
    ⟨(some 17), .len 1 (.t 16), none⟩,
    ⟨(some 18), .mov (.c (.rv (.one (.dat (.val (.int .i64 (0))))))), none⟩]) (.block 2 (.loop (.seq (.reg [
    ⟨(some 19), .bin .lss (.t 18) (.t 17), none⟩]) (.seq (.cond (.t 19) .skip (.exit 2)) (.seq (.block 3 (.seq (.reg [
    ⟨(some 20), .idx 1 (.t 16) (.t 18), none⟩,
    ⟨(some 21), .load false 1 (.t 20), none⟩,
    ⟨(some 7), .mov (.t 21), none⟩]) (.seq (.reg [
    ⟨(some 22), .mov (.t 7), none⟩,
    ⟨(some 23), .bin .eql (.t 22) (.c (.rv (.one (.dat (.val (.string ⟨#[46, 46]⟩)))))), none⟩]) (.cond (.t 23) (.reg [
    ⟨(some 24), .mov (.t 5), none⟩,
    ⟨(some 25), .bin .add (.t 24) (.c (.rv (.one (.dat (.val (.int .i64 (1))))))), none⟩,
    ⟨(some 5), .mov (.t 25), none⟩]) (.reg [
    ⟨(some 26), .mov (.t 5), none⟩,
    ⟨(some 27), .bin .sub (.t 26) (.c (.rv (.one (.dat (.val (.int .i64 (1))))))), none⟩,
    ⟨(some 5), .mov (.t 27), none⟩]))))) (.reg [
    ⟨(some 28), .bin .add (.t 18) (.c (.rv (.one (.dat (.val (.int .i64 (1))))))), none⟩,
    ⟨(some 18), .mov (.t 28), none⟩]))))))) (.seq (.reg [
    ⟨(some 29), .mov (.t 5), none⟩,
    ⟨(some 30), .mov (.t 3), none⟩,
    ⟨(some 31), .bin .gtr (.t 29) (.t 30), none⟩]) (.cond (.t 31) (.reg [
    ⟨(some 32), .mov (.t 5), none⟩,
    ⟨(some 3), .mov (.t 32), none⟩]) .skip)))))) (.reg [
    ⟨(some 33), .bin .add (.t 11) (.c (.rv (.one (.dat (.val (.int .i64 (1))))))), none⟩,
    ⟨(some 11), .mov (.t 33), none⟩]))))))) (.seq (.reg [
    ⟨(some 34), .mov (.t 3), none⟩,
    ⟨(some 2), .mov (.t 34), none⟩]) .ret))))⟩
theorem l17 : lowF Tryd.prog Tryd.f17 = some c17 := by kernel_rfl
set_option maxRecDepth 100000 in
set_option maxHeartbeats 8000000 in
theorem rdepth_body (l : List Txt) (hl : l.length ≤ 4194304) : body Tryd.prog c17 [txV l] [] (fun r m => r = vInt .i64 (depthS l)) := by
  refine loop_keep (fun i => i ≤ l.length + 1) [0] (fun i => [(3, vInt .i64 (depthS (l.take (i - 1)))), (10, vInt .i64 ((l.length + 1 : Nat) : Int)), (11, vInt .i64 (i : Nat))]) (fun _ => []) (fun i => l.length + 1 - i) 0 (Nat.zero_le _) ?_ (fun i hi => ?_)
  · refine View.of 0 [] [] rfl rfl rfl rfl rfl rfl ?_ (.nil _)
    repeat (first | exact .nil | refine .junk ?_ | refine .eq rfl ?_ | refine .put (.ren (by rw [List.length_map]; exact next_i64 (by omega))) ?_ | refine .put (.ren (by rw [List.length_map]; exact (next_i64 (by omega)).symm)) ?_)
  have hi : i ≤ l.length + 1 := hi
  refine bB_dec (fun h5 => ?_) (fun h5 => ?_)
  · have hlt : i < l.length + 1 := by
      have h5 : (i : Int) < ((l.length + 1 : Nat) : Int) := h5
      omega
    have hti : (l.take i).length = i := by rw [List.length_take]; omega
    refine bB_yes ?_ ?_
    · show (Nat.ble 0 i && Nat.ble i (l.map tD).length) = true
      rw [Bool.and_eq_true, Nat.ble_eq, Nat.ble_eq, List.length_map]
      omega
    refine loop_keep (fun j => j ≤ i) [0, 3, 4, 10, 11] (fun j => [(5, vInt .i64 (hgt (l.take j))), (16, txV (l.take i)), (17, vInt .i64 (i : Nat)), (18, vInt .i64 (j : Nat))]) (fun _ => []) (fun j => i - j) 0 (Nat.zero_le _) ?_ (fun j hj => ?_)
    · refine View.of 0 [] [] rfl rfl rfl rfl rfl rfl ?_ (.nil _)
      have e1 : ((l.map tD).take i).drop 0 = (l.take i).map tD := by rw [List.drop_zero, List.map_take]
      rw [e1]
      repeat (first | exact .nil | refine .junk ?_ | refine .eq rfl ?_ | refine .put (.ren (by rw [List.length_map, hti]; rfl)) ?_)
    have hj : j ≤ i := hj
    refine bB_dec (fun h6 => ?_) (fun h6 => ?_)
    · have hlj : j < i := by
        have h6 : (j : Int) < (i : Int) := h6
        omega
      have hjl : j < l.length := by omega
      have htk : l.take (j + 1) = l.take j ++ [l[j]] := by rw [List.take_succ_eq_append_getElem hjl]
      have hget : getZ ((l.take i).map tD) (j : Nat) = some (tD l[j]) := by
        rw [tx_get (by rw [hti]; exact hlj), List.getElem_take]
      refine ok_some hget ?_
      generalize l[j] = w at htk
      have hh := hgt_len (l.take j)
      have h4 : (l.take j).length ≤ l.length := by rw [List.length_take]; omega
      have hs := hgt_snoc (l.take j) w
      rw [← htk] at hs
      refine bB_str (b := [46, 46]) (fun e1 => ?_) (fun e1 => ?_)
      · have h6 : hgt (l.take (j + 1)) = IntKind.i64.wrap (hgt (l.take j) + 1) := by rw [hs, hStep, if_pos e1, IntWalk.i64_in _ (by omega)]
        refine ⟨j + 1, hlj, (show i - (j + 1) < i - j by omega), View.of 0 [] [] rfl rfl rfl rfl rfl rfl ?_ (.nil _)⟩
        rw [← h6]
        repeat (first | exact .nil | refine .junk ?_ | refine .put (.ren (next_i64 (by omega)).symm) ?_ | refine .eq rfl ?_)
      · have h6 : hgt (l.take (j + 1)) = IntKind.i64.wrap (hgt (l.take j) - 1) := by rw [hs, hStep, if_neg e1, IntWalk.i64_in _ (by omega)]
        refine ⟨j + 1, hlj, (show i - (j + 1) < i - j by omega), View.of 0 [] [] rfl rfl rfl rfl rfl rfl ?_ (.nil _)⟩
        rw [← h6]
        repeat (first | exact .nil | refine .junk ?_ | refine .put (.ren (next_i64 (by omega)).symm) ?_ | refine .eq rfl ?_)
    · have h6 : ¬ (j : Int) < (i : Int) := h6
      have hji : j = i := by omega
      subst hji
      have hd : depthS (l.take (j + 1 - 1)) = max (depthS (l.take (j - 1))) (hgt (l.take j)) := by
        cases j with
        | zero => simp [depthS, mx, hgt]
        | succ n =>
          have hnl : n < l.length := by omega
          have htk : l.take (n + 1) = l.take n ++ [l[n]] := by rw [List.take_succ_eq_append_getElem hnl]
          have := depthS_snoc (l.take n) l[n]
          rw [← htk] at this
          simpa using this
      refine bB_dec (fun h7 => ?_) (fun h7 => ?_)
      · have h8 : hgt (l.take j) = depthS (l.take (j + 1 - 1)) := by rw [hd]; omega
        refine ⟨j + 1, hlt, (show l.length + 1 - (j + 1) < l.length + 1 - j by omega), View.of 0 [] [] rfl rfl rfl rfl rfl rfl ?_ (.nil _)⟩
        repeat (first | exact .nil | refine .junk ?_ | refine .put (.ren (next_i64 (by omega)).symm) ?_ | refine .eq rfl ?_ | refine .eq (congrArg (fun x => vInt .i64 x) h8.symm) ?_)
      · have h8 : depthS (l.take (j - 1)) = depthS (l.take (j + 1 - 1)) := by rw [hd]; omega
        refine ⟨j + 1, hlt, (show l.length + 1 - (j + 1) < l.length + 1 - j by omega), View.of 0 [] [] rfl rfl rfl rfl rfl rfl ?_ (.nil _)⟩
        repeat (first | exact .nil | refine .junk ?_ | refine .put (.ren (next_i64 (by omega)).symm) ?_ | refine .eq rfl ?_ | refine .eq (congrArg (fun x => vInt .i64 x) h8.symm) ?_)
  · have h5 : ¬ (i : Int) < ((l.length + 1 : Nat) : Int) := h5
    rw [List.take_of_length_le (by omega : l.length ≤ i - 1)]
    rfl
theorem rdepth_ok (l : List Txt) (hl : l.length ≤ 4194304) {m : Mem} {K : CV → Mem → Prop} (h : K (vInt .i64 (depthS l)) m) : ACall Tryd.prog 17 [txV l] m K :=
  acall_val Tryd.func17 l17 rfl (Nat.le_of_ble_eq_true rfl) (rdepth_body l hl) rfl rfl h
end Go.Proofs.YtoohefnephhmbaaDoor
