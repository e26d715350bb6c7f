import Derived.Test.YtoohefnephhmbaaDoorAmZ2
import Derived.Test.YtoohefnephhmbaaDoorDvPSpl
import Derived.Test.YtoohefnephhmbaaDoorAmY
set_option linter.unusedVariables false
set_option linter.unusedSimpArgs false
namespace Go.Proofs.YtoohefnephhmbaaDoor
open Go.AM Go.ChangeShapes Go.WideShapes Go.ChangeAt Go.RowKit
def c39 : LF := ⟨40, [.tmp 4], (.seq (.reg [
    ⟨(some 4), .mov (.c (.rv (.one .esl))), none⟩]) (.seq (.reg [
    ⟨(some 7), .bsl 1 [(.dat (.val (.string ⟨#[]⟩)))] 1 [(0, (.c (.rv (.one (.dat (.val (.string ⟨#[]⟩)))))))], none⟩,
    ⟨(some 5), .mov (.t 7), none⟩]) (.seq (.seq (.reg [
    ⟨(some 8), .mov (.t 0), none⟩,
    ⟨(some 9), .len 0 (.t 8), none⟩,
    ⟨(some 10), .mov (.c (.rv (.one (.dat (.val (.int .i64 (0))))))), none⟩]) (.block 0 (.loop (.seq (.reg [
    ⟨(some 11), .bin .lss (.t 10) (.t 9), none⟩]) (.seq (.cond (.t 11) .skip (.exit 0)) (.seq (.block 1 (.seq (.reg [
    ⟨(some 12), .mov (.t 10), none⟩,
    ⟨(some 6), .mov (.t 12), none⟩]) (.seq (.reg [
    ⟨(some 13), .mov (.t 0), none⟩,
    ⟨(some 14), .mov (.t 6), none⟩,
    ⟨(some 15), .sidx (.t 13) (.t 14), none⟩,
    ⟨(some 16), .mov (.t 1), none⟩,
    ⟨(some 17), .bin .eql (.t 15) (.t 16), none⟩]) (.cond (.t 17) (.reg [
    ⟨(some 18), .mov (.t 5), none⟩,
    ⟨(some 19), .bsl 1 [(.dat (.val (.string ⟨#[]⟩)))] 1 [(0, (.c (.rv (.one (.dat (.val (.string ⟨#[]⟩)))))))], none⟩,
    ⟨(some 20), .app 1 16 (.t 18) (.t 19), none⟩,
    ⟨(some 5), .mov (.t 20), none⟩]) (.draw [
    ⟨(some 21), .mov (.t 5), none⟩,
    ⟨(some 22), .mov (.t 5), none⟩,
    ⟨(some 23), .len 1 (.t 22), none⟩,
    ⟨(some 24), .bin .sub (.t 23) (.c (.rv (.one (.dat (.val (.int .i64 (1))))))), none⟩,
    ⟨(some 25), .mov (.t 5), none⟩,
    ⟨(some 26), .mov (.t 5), none⟩,
    ⟨(some 27), .len 1 (.t 26), none⟩,
    ⟨(some 28), .bin .sub (.t 27) (.c (.rv (.one (.dat (.val (.int .i64 (1))))))), none⟩,
    ⟨(some 29), .idx 1 (.t 25) (.t 28), none⟩,
    ⟨(some 30), .load false 1 (.t 29), none⟩,
    ⟨(some 31), .mov (.t 0), none⟩,
    ⟨(some 32), .mov (.t 6), none⟩,
    ⟨(some 33), .mov (.t 6), none⟩,
    ⟨(some 34), .bin .add (.t 33) (.c (.rv (.one (.dat (.val (.int .i64 (1))))))), none⟩,
    ⟨(some 35), .strs (.t 31) (some (.t 32)) (some (.t 34)), none⟩,
    ⟨(some 36), .bin .add (.t 30) (.t 35), none⟩,
    ⟨(some 37), .idx 1 (.t 21) (.t 24), none⟩,
    ⟨none, .store 1 (.t 37) (.t 36), none⟩]
    [(.cons 0 none (.cons 1 none (.cons 2 none (.cons 3 none (.cons 4 none (.cons 5 none (.cons 6 none (.cons 7 none (.cons 8 none (.cons 9 none (.cons 10 none (.cons 11 none (.cons 12 none (.cons 13 none (.cons 14 none (.cons 15 none (.cons 16 none (.cons 17 (some []) .nil))))))))))))))))))]))))) (.reg [
    ⟨(some 38), .bin .add (.t 10) (.c (.rv (.one (.dat (.val (.int .i64 (1))))))), none⟩,
    ⟨(some 10), .mov (.t 38), none⟩]))))))) (.seq (.reg [
    ⟨(some 39), .mov (.t 5), none⟩,
    ⟨(some 4), .mov (.t 39), none⟩]) .ret))))⟩
theorem cutL_last (c : UInt8) (t : Txt) : ∃ f e, cutL c t = f ++ [e] := by
  have h := cutL_ne c t
  exact ⟨(cutL c t).dropLast, (cutL c t).getLast h, (List.dropLast_concat_getLast h).symm⟩
theorem cutL_snoc_eq {c : UInt8} : ∀ {t : Txt}, cutL c (t ++ [c]) = cutL c t ++ [[]]
  | [] => by simp [cutL]
  | x :: r => by
    have ih := cutL_snoc_eq (c := c) (t := r)
    simp only [List.cons_append, cutL, ih]
    split
    · rfl
    · cases h : cutL c r with
      | nil => exact absurd h (cutL_ne c r)
      | cons p ps => simp
theorem cutL_snoc_ne {c x : UInt8} (hx : x ≠ c) : ∀ {t : Txt} {f : List Txt} {e : Txt}, cutL c t = f ++ [e] → cutL c (t ++ [x]) = f ++ [e ++ [x]]
  | [], f, e, h => by
    have hf : f = [] ∧ e = [] := by
      cases f with
      | nil => simp [cutL] at h; exact ⟨rfl, h⟩
      | cons a b => simp [cutL] at h
    obtain ⟨rfl, rfl⟩ := hf
    simp [cutL, hx]
  | y :: r, f, e, h => by
    simp only [cutL] at h
    simp only [List.cons_append, cutL]
    split
    · rename_i hy
      rw [if_pos hy] at h
      cases f with
      | nil =>
        simp at h
        exact absurd h.2 (cutL_ne c r)
      | cons a b =>
        simp at h
        obtain ⟨rfl, h⟩ := h
        rw [cutL_snoc_ne hx h]
        rfl
    · rename_i hy
      rw [if_neg hy] at h
      cases hc : cutL c r with
      | nil => exact absurd hc (cutL_ne c r)
      | cons p ps =>
        rw [hc] at h
        simp only at h
        cases f with
        | nil =>
          simp at h
          obtain ⟨rfl, rfl⟩ := h
          rw [cutL_snoc_ne hx (f := []) (e := p) (by rw [hc]; rfl)]
          rfl
        | cons a b =>
          simp at h
          obtain ⟨rfl, rfl⟩ := h
          rw [cutL_snoc_ne hx (f := p :: b) (e := e) (by rw [hc]; rfl)]
          rfl
theorem cutL_mem_len (c : UInt8) : ∀ (t : Txt) (w : Txt), w ∈ cutL c t → w.length ≤ t.length
  | [], w, h => by simp [cutL] at h; simp [h]
  | x :: r, w, h => by
    have ih := cutL_mem_len c r
    simp only [cutL] at h
    split at h
    · rcases List.mem_cons.1 h with rfl | h
      · simp
      · have := ih w h
        simp
        omega
    · cases hc : cutL c r with
      | nil => exact absurd hc (cutL_ne c r)
      | cons p ps =>
        rw [hc] at h ih
        rcases List.mem_cons.1 h with rfl | h
        · have := ih p (by simp)
          simpa using this
        · have := ih w (by simp [h])
          simp
          omega
theorem binV_add {a b : Txt} (h : a.length + b.length ≤ 4611686018427387904) : binV .add (.string (bysL a)) (.string (bysL b)) = some (.string (bysL (a ++ b))) := by
  simp only [binV]
  rw [decide_eq_false (by rw [bysL_size, bysL_size]; show ¬ (((a.length + b.length : Nat) : Int) > 9223372036854775807); omega)]
  rw [bysL_add]
theorem dRows_len (l : List (List Dt)) : (dRows l).length = l.length := by simp [dRows]
theorem l39 : lowF Tryd.prog Tryd.f39 = some c39 := by kernel_rfl
def rowT (l : List Txt) : Bk := .row 1 (dRows (l.map tD))
set_option maxRecDepth 100000 in
set_option maxHeartbeats 8000000 in
theorem cut_body (t : Txt) (c : UInt8) (ht : t.length ≤ 4194304) : body Tryd.prog c39 [vT t, vInt .u8 c.toNat] [] (fun r m => FrzV m r (txV (cutL c t))) := by
  refine loop_keep (fun k => k ≤ t.length) [0, 1] (fun k => [(5, .rv (.one (.row 0 1 0 none))), (9, vInt .i64 (t.length : Nat)), (10, vInt .i64 (k : Nat))]) (fun k => [rowT (cutL c (t.take k))]) (fun k => t.length - k) 0 (Nat.zero_le _) ?_ (fun k hk => ?_)
  · refine View.of 1 [0] [] rfl rfl rfl rfl rfl rfl ?_ ?_
    · repeat (first | exact .nil | refine .junk ?_ | refine .eq rfl ?_ | refine .put (.ren (by rw [bysL_sizeI]; rfl)) ?_)
    · exact .put (by simp [memN]) rfl (.rowDE rfl) (.nil _)
  have hk : k ≤ t.length := hk
  obtain ⟨f, e, hfe⟩ := cutL_last c (t.take k)
  show aw Tryd.prog _ _ _ ⟨_, [rowT (cutL c (t.take k))]⟩
  rw [hfe]
  refine bB_dec (fun h5 => ?_) (fun h5 => ?_)
  · have hlt : k < t.length := by
      have h5 : (k : Int) < (t.length : Int) := h5
      omega
    have htk : t.take (k + 1) = t.take k ++ [t[k]] := by rw [List.take_succ_eq_append_getElem hlt]
    refine ok_some (getT hlt) ?_
    refine bB_beq (fun h6 => ?_) (fun h6 => ?_)
    · have hc : t[k] = c := UInt8.toNat_inj.1 (by omega)
      refine ⟨?_, k + 1, hlt, (show t.length - (k + 1) < t.length - k by omega), View.of 3 [2] [] rfl rfl rfl rfl rfl rfl ?_ ?_⟩
      · show ((dRows ((f ++ [e]).map tD)).length + 1) * 16 ≤ _
        have := cutL_len c (t.take k)
        rw [hfe] at this
        have h4 : (t.take k).length ≤ t.length := by rw [List.length_take]; omega
        rw [dRows_len, List.length_map]
        omega
      · repeat (first | exact .nil | refine .junk ?_ | refine .put (.ren (next_i64 (by omega)).symm) ?_ | refine .eq rfl ?_)
      · refine .put (by simp [memN]) rfl (.rowDE ?_) (.nil _)
        rw [htk, hc, cutL_snoc_eq, hfe, List.map_append (l₂ := [[]]), dRows_append]
        rfl
    · have hc : t[k] ≠ c := fun e => h6 (by rw [e])
      have hn : (dRows ((f ++ [e]).map tD)).length = f.length + 1 := by rw [dRows_len, List.length_map]; simp
      have hfl : f.length ≤ t.length := by
        have := cutL_len c (t.take k)
        rw [hfe] at this
        have h4 : (t.take k).length ≤ t.length := by rw [List.length_take]; omega
        simp at this
        omega
      have hidx : idxZ (IntKind.i64.wrap (((dRows ((f ++ [e]).map tD)).length : Int) - 1)) (dRows ((f ++ [e]).map tD)).length = some f.length := by
        rw [hn, show (((f.length + 1 : Nat) : Int) - 1) = (f.length : Int) by omega, wrapN (by omega)]
        exact idxZ_nat (by omega)
      have hnth : nth (dRows ((f ++ [e]).map tD)) f.length = some [.dat (.val (.string (bysL e)))] := by
        rw [nth_eq]; simp [dRows, tD]
      have hx : (bysL t).extract k (k + 1) = bysL [t[k]] := by
        rw [bysL_extract t _ _ (by omega), htk, List.drop_append_of_le_length (by rw [List.length_take]; omega), List.drop_of_length_le (by rw [List.length_take]; omega)]
        rfl
      refine ok_some hidx ?_
      refine ok_some hnth ?_
      refine ok_some (x := k + 1) ?_ ?_
      · show natX (.rv (.one (.dat (.val (.int .i64 (IntKind.i64.wrap ((k : Int) + 1))))))) = _
        rw [next_i64 (by omega)]
        rfl
      refine bB_yes ?_ ?_
      · show (Nat.ble k (k + 1) && Nat.ble (k + 1) (bysL t).size) = true
        rw [Bool.and_eq_true, Nat.ble_eq, Nat.ble_eq, bysL_size]
        omega
      refine ok_some (x := .string (bysL (e ++ [t[k]]))) ?_ ?_
      · have he := cutL_mem_len c (t.take k) e (by rw [hfe]; simp)
        have h4 : (t.take k).length ≤ t.length := by rw [List.length_take]; omega
        rw [hx]
        exact binV_add (by simp; omega)
      refine ok_some hidx ?_
      refine ok_some hnth ?_
      refine ⟨trivial, k + 1, hlt, (show t.length - (k + 1) < t.length - k by omega), View.of 1 [0] [] rfl rfl rfl rfl rfl rfl ?_ ?_⟩
      · repeat (first | exact .nil | refine .junk ?_ | refine .put (.ren (next_i64 (by omega)).symm) ?_ | refine .eq rfl ?_)
      · refine .put (by simp [memN]) rfl (.rowDE ?_) (.nil _)
        rw [htk, cutL_snoc_ne hc hfe, List.map_append (l₂ := [e ++ [t[k]]]), dRows_append]
        rw [setN_eq]
        simp [dRows, tD, addN]
  · have h5 : ¬ (k : Int) < (t.length : Int) := h5
    have : t.take k = t := List.take_of_length_le (by omega)
    rw [this] at hfe
    rw [hfe]
    exact .rv (.one (FrzC.rowD (ds := (f ++ [e]).map tD) rfl 0 none))
theorem cut_ok (t : Txt) (c : UInt8) (ht : t.length ≤ 4194304) {m : Mem} {K : CV → Mem → Prop} (h : K (txV (cutL c t)) m) : ACall Tryd.prog 39 [vT t, vInt .u8 c.toNat] m K :=
  acall_frame (acall_body Tryd.func39 l39 rfl (Nat.le_of_ble_eq_true rfl) (cut_body t c ht)) (by simp [vT, vStr, vInt, CV.isD, CC.isD]) fun r m1 hf => ⟨_, hf, h⟩
end Go.Proofs.YtoohefnephhmbaaDoor
