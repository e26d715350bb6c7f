import Derived.Test.YtoohefnephhmbaaDoorAmZ2
import Derived.Test.YtoohefnephhmbaaDoorDvPAlv
import Derived.Test.YtoohefnephhmbaaDoorAmY
set_option linter.unusedVariables false
set_option linter.unusedSimpArgs false
namespace Go.Proofs.YtoohefnephhmbaaDoor
open Go.AM Go.ChangeShapes Go.WideShapes Go.ChangeAt Go.RowKit
def c5 : LF := ⟨47, [.tmp 2], (.seq (.reg [
    ⟨(some 2), .mov (.c (.rv (.one (.dat (.val (.bool false)))))), none⟩]) (.seq (.seq (.reg [
    ⟨(some 8), .call (.c (.rv (.one (.fn 18 [])))) [], none⟩,
    ⟨(some 9), .un .not (.t 8), none⟩]) (.cond (.t 9) (.seq (.reg [
    ⟨(some 2), .mov (.c (.rv (.one (.dat (.val (.bool false)))))), none⟩]) .ret) .skip)) (.seq (.reg [
    ⟨(some 3), .mov (.c (.rv (.one (.dat (.val (.int .i64 (0))))))), none⟩]) (.seq (.seq (.reg [
    ⟨(some 10), .mov (.t 0), none⟩,
    ⟨(some 11), .len 1 (.t 10), none⟩,
    ⟨(some 12), .mov (.c (.rv (.one (.dat (.val (.int .i64 (0))))))), none⟩]) (.block 0 (.loop (.seq (.reg [
    ⟨(some 13), .bin .lss (.t 12) (.t 11), none⟩]) (.seq (.cond (.t 13) .skip (.exit 0)) (.seq (.block 1 (.seq (.reg [
    ⟨(some 14), .idx 1 (.t 10) (.t 12), none⟩,
    ⟨(some 15), .load false 1 (.t 14), none⟩,
    ⟨(some 5), .mov (.t 15), none⟩]) (.seq (.reg [
    ⟨(some 16), .mov (.t 5), none⟩,
    ⟨(some 17), .bin .eql (.t 16) (.c (.rv (.one (.dat (.val (.string ⟨#[46, 46]⟩)))))), none⟩]) (.cond (.t 17) (.reg [
    ⟨(some 18), .mov (.t 3), none⟩,
    ⟨(some 19), .bin .add (.t 18) (.c (.rv (.one (.dat (.val (.int .i64 (1))))))), none⟩,
    ⟨(some 3), .mov (.t 19), none⟩]) .skip)))) (.reg [
    ⟨(some 20), .bin .add (.t 12) (.c (.rv (.one (.dat (.val (.int .i64 (1))))))), none⟩,
    ⟨(some 12), .mov (.t 20), none⟩]))))))) (.seq (.reg [
    ⟨(some 21), .mov (.t 0), none⟩,
    ⟨(some 22), .call (.c (.rv (.one (.fn 16 [])))) [(.t 21)], none⟩,
    ⟨(some 23), .bsl 1 [(.dat (.val (.string ⟨#[]⟩)))] 0 [], none⟩,
    ⟨(some 24), .mov (.t 0), none⟩,
    ⟨(some 25), .app 1 16 (.t 23) (.t 24), none⟩,
    ⟨(some 26), .bsl 1 [(.dat (.val (.string ⟨#[]⟩)))] 1 [(0, (.c (.rv (.one (.dat (.val (.string ⟨#[46, 46]⟩)))))))], none⟩,
    ⟨(some 27), .app 1 16 (.t 25) (.t 26), none⟩,
    ⟨(some 28), .call (.c (.rv (.one (.fn 16 [])))) [(.t 27)], none⟩,
    ⟨(some 6), .mov (.t 22), none⟩,
    ⟨(some 7), .mov (.t 28), none⟩]) (.seq (.reg [
    ⟨(some 29), .mov (.t 6), none⟩,
    ⟨(some 30), .bin .geq (.t 29) (.c (.rv (.one (.dat (.val (.int .i64 (0))))))), none⟩,
    ⟨(some 31), .mov (.t 30), none⟩,
    ⟨(some 32), .mov (.t 6), (some (31, true))⟩,
    ⟨(some 33), .mov (.t 3), (some (31, true))⟩,
    ⟨(some 34), .bin .leq (.t 32) (.t 33), (some (31, true))⟩,
    ⟨(some 35), .pick (.t 31) (.t 34) (.c (.rv (.one (.dat (.val (.bool false)))))), none⟩,
    ⟨(some 36), .mov (.t 35), none⟩,
    ⟨(some 37), .mov (.t 7), (some (36, true))⟩,
    ⟨(some 38), .mov (.t 6), (some (36, true))⟩,
    ⟨(some 39), .bin .eql (.t 37) (.t 38), (some (36, true))⟩,
    ⟨(some 40), .mov (.t 39), (some (36, true))⟩,
    ⟨(some 41), .mov (.t 7), (some (40, false))⟩,
    ⟨(some 42), .bin .sub (.t 41) (.c (.rv (.one (.dat (.val (.int .i64 (1))))))), (some (40, false))⟩,
    ⟨(some 43), .mov (.t 6), (some (40, false))⟩,
    ⟨(some 44), .bin .eql (.t 42) (.t 43), (some (40, false))⟩,
    ⟨(some 45), .pick (.t 40) (.c (.rv (.one (.dat (.val (.bool true)))))) (.t 44), (some (36, true))⟩,
    ⟨(some 46), .pick (.t 36) (.t 45) (.c (.rv (.one (.dat (.val (.bool false)))))), none⟩,
    ⟨(some 2), .mov (.t 46), none⟩]) .ret))))))⟩
theorem l5 : lowF Tryd.prog Tryd.f5 = some c5 := by kernel_rfl
def ups : List Txt → Nat
  | [] => 0
  | w :: r => (if w = [46, 46] then 1 else 0) + ups r
theorem ups_snoc (w : Txt) : ∀ l, ups (l ++ [w]) = ups l + (if w = [46, 46] then 1 else 0)
  | [] => by simp [ups]
  | x :: r => by simp only [List.cons_append, ups, ups_snoc w r]; omega
theorem ups_len : ∀ l, ups l ≤ l.length
  | [] => by simp [ups]
  | x :: r => by
    have := ups_len r
    simp only [ups, List.length_cons]
    split <;> omega
theorem mx_ups : ∀ (l : List Txt) (n m : Int), mx l n m ≤ max m (n + ups l)
  | [], n, m => by simp only [mx, ups]; omega
  | w :: r, n, m => by
    have := mx_ups r (hStep n w) (max m (hStep n w))
    simp only [mx, ups]
    by_cases h : w = [46, 46]
    · have hs : hStep n w = n + 1 := by rw [hStep, if_pos h]
      rw [hs] at this ⊢
      rw [if_pos h]
      omega
    · have hs : hStep n w = n - 1 := by rw [hStep, if_neg h]
      rw [hs] at this ⊢
      rw [if_neg h]
      omega
theorem depth_ups (l : List Txt) : depthS l ≤ ups l := by
  have := mx_ups l 0 0
  unfold depthS
  omega
theorem mx_hgt : ∀ (l : List Txt) (n m : Int), n ≤ m → l.foldl hStep n ≤ mx l n m
  | [], n, m, h => h
  | w :: r, n, m, _ => mx_hgt r _ _ (by omega)
theorem hgt_depth (l : List Txt) : hgt l ≤ depthS l := mx_hgt l 0 0 (Int.le_refl _)
theorem depth_up (l : List Txt) : depthS (l ++ [[46, 46]]) = depthS l ∨ depthS (l ++ [[46, 46]]) = depthS l + 1 := by
  have h1 := depthS_snoc l [46, 46]
  have h2 := hgt_snoc l [46, 46]
  have h3 := hgt_depth l
  have h4 : hStep (hgt l) [46, 46] = hgt l + 1 := by rw [hStep, if_pos rfl]
  rw [h4] at h2
  rw [h2] at h1
  omega
set_option maxRecDepth 100000 in
set_option maxHeartbeats 8000000 in
theorem pdepth_body (l : List Txt) (hl : l.length ≤ 2097152) : body Tryd.prog c5 [txV l] [] (fun r m => r = vBool true) := by
  refine alive_ok ?_
  refine loop_keep (fun k => k ≤ l.length) [0] (fun k => [(3, vInt .i64 (ups (l.take k) : Nat)), (10, txV l), (11, vInt .i64 (l.length : Nat)), (12, vInt .i64 (k : Nat))]) (fun _ => []) (fun k => l.length - k) 0 (Nat.zero_le _) ?_ (fun k hk => ?_)
  · refine View.of 0 [] [] rfl rfl rfl rfl rfl rfl ?_ (.nil _)
    repeat (first | exact .nil | refine .junk ?_ | refine .eq rfl ?_ | refine .put (.ren (by rw [List.length_map]; rfl)) ?_)
  have hk : k ≤ l.length := hk
  refine bB_dec (fun h5 => ?_) (fun h5 => ?_)
  · have hlt : k < l.length := by
      have h5 : (k : Int) < (l.length : Int) := h5
      omega
    have htk : l.take (k + 1) = l.take k ++ [l[k]] := by rw [List.take_succ_eq_append_getElem hlt]
    refine ok_some (tx_get hlt) ?_
    generalize l[k] = w at htk
    have hu := ups_snoc w (l.take k)
    rw [← htk] at hu
    have h4 := ups_len (l.take k)
    have h6 : (l.take k).length ≤ l.length := by rw [List.length_take]; omega
    refine bB_str (b := [46, 46]) (fun e1 => ?_) (fun e1 => ?_)
    · rw [if_pos e1] at hu
      refine ⟨k + 1, hlt, (show l.length - (k + 1) < l.length - k by omega), View.of 0 [] [] rfl rfl rfl rfl rfl rfl ?_ (.nil _)⟩
      rw [hu]
      repeat (first | exact .nil | refine .junk ?_ | refine .put (.ren (next_i64 (by omega)).symm) ?_ | refine .eq rfl ?_)
    · rw [if_neg e1] at hu
      refine ⟨k + 1, hlt, (show l.length - (k + 1) < l.length - k by omega), View.of 0 [] [] rfl rfl rfl rfl rfl rfl ?_ (.nil _)⟩
      rw [hu]
      repeat (first | exact .nil | refine .junk ?_ | refine .put (.ren (next_i64 (by omega)).symm) ?_ | refine .eq rfl ?_)
  · have h5 : ¬ (k : Int) < (l.length : Int) := h5
    rw [List.take_of_length_le (by omega : l.length ≤ k)]
    refine depth_ok l (by omega) ?_
    refine ⟨?_, ?_, ?_⟩
    · show (0 + ((l.map tD).map _).length) * 16 ≤ _
      simp; omega
    · show ((([] : List (List CC)) ++ ((l.map tD).map fun ds => ds.map CC.dat)).length + 1) * 16 ≤ _
      simp; omega
    have hrow : (subL [] 0 none ++ List.map (fun ds => List.map CC.dat ds) (List.map tD l)) ++ [[CC.dat (.val (.string (bysL [46, 46])))]] = dRows ((l ++ [[46, 46]]).map tD) := by
      rw [List.map_append, dRows_append]
      rfl
    refine acall_pre (args' := [txV (l ++ [[46, 46]])]) (m' := [.dead, .dead, .dead, .dead]) (View.of 4 [0, 1, 2, 3] [3] rfl rfl rfl rfl rfl rfl (.put (VwV.frz 3 ((l ++ [[46, 46]]).map tD) rfl ?_) .nil) (.dead (.dead (.dead (.dead (.nil _)))))) ?_
    · exact congrArg (fun x => some (Bk.row 1 x)) hrow
    refine depth_ok _ (by simp; omega) ?_
    have h0 := depth_len l
    have h1 := depth_ups l
    refine bB_dec (fun h7 => ?_) (fun h7 => absurd h0.1 h7)
    refine bB_dec (fun h8 => ?_) (fun h8 => absurd h1 h8)
    have hn := depth_len (l ++ [[46, 46]])
    simp only [List.length_append, List.length_cons, List.length_nil] at hn
    refine bB_beq (fun h9 => ?_) (fun h9 => ?_)
    · rfl
    · have h10 : depthS (l ++ [[46, 46]]) = depthS l + 1 := (depth_up l).resolve_left h9
      show vBool (IntKind.i64.wrap (depthS (l ++ [[46, 46]]) - 1) == depthS l) = vBool true
      rw [IntWalk.i64_in _ (by omega), h10]
      simp
theorem pdepth_ok (l : List Txt) (hl : l.length ≤ 2097152) : ACall Tryd.prog 5 [txV l] [] (fun r m => r = vBool true) :=
  acall_body Tryd.func5 l5 rfl (Nat.le_of_ble_eq_true rfl) (pdepth_body l hl)
end Go.Proofs.YtoohefnephhmbaaDoor
