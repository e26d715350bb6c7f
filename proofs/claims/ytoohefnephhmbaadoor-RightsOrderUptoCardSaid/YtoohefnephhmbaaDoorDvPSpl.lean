import Derived.Test.YtoohefnephhmbaaDoorAmZ2
import Derived.Test.YtoohefnephhmbaaDoorDvPTxt2
import Derived.Test.YtoohefnephhmbaaDoorAmY
set_option linter.unusedVariables false
set_option linter.unusedSimpArgs false
namespace Go.Proofs.YtoohefnephhmbaaDoor
open Go.AM Go.ChangeShapes Go.WideShapes Go.ChangeAt Go.RowKit
def c9 : LF := ⟨37, [.cell false 1 2, .cell false 1 3, .cell false 1 4], (.seq (.reg [
    ⟨(some 2), .alloc [.esl], none⟩,
    ⟨(some 3), .alloc [(.dat (.val (.bool false)))], none⟩,
    ⟨(some 4), .alloc [(.dat (.val (.int .i64 (0))))], none⟩]) (.seq (.seq (.reg [
    ⟨(some 7), .mov (.t 0), none⟩,
    ⟨(some 8), .bin .eql (.t 7) (.c (.rv (.one (.dat (.val (.string ⟨#[]⟩)))))), none⟩]) (.cond (.t 8) (.seq (.reg [
    ⟨none, .store 1 (.t 2) (.c (.rv (.one .esl))), none⟩,
    ⟨none, .store 1 (.t 3) (.c (.rv (.one (.dat (.val (.bool false)))))), none⟩,
    ⟨none, .store 1 (.t 4) (.c (.rv (.one (.dat (.val (.int .i64 (2))))))), none⟩]) .ret) .skip)) (.seq (.seq (.reg [
    ⟨(some 9), .mov (.t 0), none⟩,
    ⟨(some 10), .len 0 (.t 9), none⟩,
    ⟨(some 11), .bin .gtr (.t 10) (.c (.rv (.one (.dat (.val (.int .i64 (60))))))), none⟩]) (.cond (.t 11) (.seq (.reg [
    ⟨none, .store 1 (.t 2) (.c (.rv (.one .esl))), none⟩,
    ⟨none, .store 1 (.t 3) (.c (.rv (.one (.dat (.val (.bool false)))))), none⟩,
    ⟨none, .store 1 (.t 4) (.c (.rv (.one (.dat (.val (.int .i64 (4))))))), none⟩]) .ret) .skip)) (.seq (.reg [
    ⟨(some 5), .alloc [.esl], none⟩]) (.seq (.seq (.reg [
    ⟨(some 12), .mov (.t 0), none⟩,
    ⟨(some 13), .call (.c (.rv (.one (.fn 38 [])))) [(.t 12), (.c (.rv (.one (.dat (.val (.string ⟨#[47]⟩))))))], none⟩]) (.block 0 (.rfun (.t 13) 14 (.reg [
    ⟨(some 6), .mov (.t 14), none⟩]) (.block 1 (.block 2 (.seq (.reg [
    ⟨(some 16), .mov (.t 6), none⟩,
    ⟨(some 17), .bin .eql (.t 16) (.c (.rv (.one (.dat (.val (.string ⟨#[]⟩)))))), none⟩,
    ⟨(some 18), .mov (.t 17), none⟩,
    ⟨(some 19), .mov (.t 6), (some (18, false))⟩,
    ⟨(some 20), .bin .eql (.t 19) (.c (.rv (.one (.dat (.val (.string ⟨#[46]⟩)))))), (some (18, false))⟩,
    ⟨(some 21), .pick (.t 18) (.c (.rv (.one (.dat (.val (.bool true)))))) (.t 20), none⟩,
    ⟨(some 15), .mov (.t 21), none⟩]) (.cond (.t 15) .skip (.seq (.reg [
    ⟨(some 23), .mov (.t 6), none⟩,
    ⟨(some 24), .bin .eql (.t 23) (.c (.rv (.one (.dat (.val (.string ⟨#[46, 46]⟩)))))), none⟩,
    ⟨(some 25), .mov (.t 24), none⟩,
    ⟨(some 26), .mov (.t 6), (some (25, false))⟩,
    ⟨(some 27), .call (.c (.rv (.one (.fn 12 [])))) [(.t 26)], (some (25, false))⟩,
    ⟨(some 28), .pick (.t 25) (.c (.rv (.one (.dat (.val (.bool true)))))) (.t 27), none⟩,
    ⟨(some 22), .mov (.t 28), none⟩]) (.cond (.t 22) (.reg [
    ⟨(some 29), .load false 1 (.t 5), none⟩,
    ⟨(some 30), .mov (.t 6), none⟩,
    ⟨(some 31), .bsl 1 [(.dat (.val (.string ⟨#[]⟩)))] 1 [(0, (.t 30))], none⟩,
    ⟨(some 32), .app 1 16 (.t 29) (.t 31), none⟩,
    ⟨none, .store 1 (.t 5) (.t 32), none⟩]) (.seq (.reg [
    ⟨none, .store 1 (.t 2) (.c (.rv (.one .esl))), none⟩,
    ⟨none, .store 1 (.t 3) (.c (.rv (.one (.dat (.val (.bool false)))))), none⟩,
    ⟨none, .store 1 (.t 4) (.c (.rv (.one (.dat (.val (.int .i64 (7))))))), none⟩]) .ret)))))))))) (.seq (.draw [
    ⟨(some 33), .load false 1 (.t 5), none⟩,
    ⟨(some 34), .mov (.t 0), none⟩,
    ⟨(some 35), .sidx (.t 34) (.c (.rv (.one (.dat (.val (.int .i64 (0))))))), none⟩,
    ⟨(some 36), .bin .eql (.t 35) (.c (.rv (.one (.dat (.val (.int .u8 (47))))))), none⟩,
    ⟨none, .store 1 (.t 2) (.t 33), none⟩,
    ⟨none, .store 1 (.t 3) (.t 36), none⟩,
    ⟨none, .store 1 (.t 4) (.c (.rv (.one (.dat (.val (.int .i64 (0))))))), none⟩]
    [(.cons 0 none (.cons 1 none (.cons 2 none (.cons 3 none (.cons 4 (some []) (.cons 5 (some []) (.cons 6 (some []) .nil)))))))]) .ret))))))⟩
def c38 : LF := ⟨8, [.tmp 4], (.seq (.reg [
    ⟨(some 4), .mov (.c (.rv (.one (.dat (.val .nilFunc))))), none⟩]) (.seq (.reg [
    ⟨(some 5), .mov (.t 0), none⟩,
    ⟨(some 6), .mov (.t 1), none⟩,
    ⟨(some 7), .call (.c (.rv (.one (.fn 43 [])))) [(.t 5), (.t 6), (.c (.rv (.one (.dat (.val (.int .i64 (0)))))))], none⟩,
    ⟨(some 4), .mov (.t 7), none⟩]) .ret))⟩
def c43 : LF := ⟨8, [.tmp 6], (.seq (.reg [
    ⟨(some 3), .box (.t 0), none⟩,
    ⟨(some 4), .box (.t 1), none⟩,
    ⟨(some 5), .box (.t 2), none⟩,
    ⟨(some 6), .mov (.c (.rv (.one (.dat (.val .nilFunc))))), none⟩]) (.seq (.reg [
    ⟨(some 7), .fn 49 [(.t 4), (.t 3), (.t 5)], none⟩,
    ⟨(some 6), .mov (.t 7), none⟩]) .ret))⟩
theorem l43 : lowF Tryd.prog Tryd.f43 = some c43 := by kernel_rfl
theorem l38 : lowF Tryd.prog Tryd.f38 = some c38 := by kernel_rfl
def strC (s : ByteArray) : Bk := .var [.dat (.val (.string s))]
def sqM (s sep : ByteArray) (b0 b1 b2 b3 : Bk) : Mem := [b0, b1, b2, b3, strC s, strC sep, .var [.dat (.val (.int .i64 0))]]
set_option maxRecDepth 100000 in
theorem sq43 (s sep : ByteArray) {b0 b1 b2 b3 : Bk} {K : CV → Mem → Prop} (h : K (.rv (.one (.fn 49 [5, 4, 6]))) (sqM s sep b0 b1 b2 b3)) : ACall Tryd.prog 43 [vStr s, vStr sep, vInt .i64 0] [b0, b1, b2, b3] K :=
  acall_body Tryd.func43 l43 rfl (Nat.le_of_ble_eq_true rfl) h
set_option maxRecDepth 100000 in
theorem sq38 (s sep : ByteArray) {b0 b1 b2 b3 : Bk} {K : CV → Mem → Prop} (h : K (.rv (.one (.fn 49 [5, 4, 6]))) (sqM s sep b0 b1 b2 b3)) : ACall Tryd.prog 38 [vStr s, vStr sep] [b0, b1, b2, b3] K := by
  refine acall_body Tryd.func38 l38 rfl (Nat.le_of_ble_eq_true rfl) ?_
  exact sq43 s sep h
theorem cutL_len (c : UInt8) : ∀ t : Txt, (cutL c t).length ≤ t.length + 1
  | [] => by simp [cutL]
  | x :: r => by
    have ih := cutL_len c r
    simp only [cutL]
    split
    · simp; exact ih
    · split
      · simp
      · rename_i h
        rw [h] at ih
        simp at ih ⊢
        omega
theorem dRows_append (a b : List (List Dt)) : dRows (a ++ b) = dRows a ++ dRows b := by simp [dRows]
theorem first47 (c : UInt8) (r : Txt) : decide ((c :: r)[0]? = some 47) = ((c.toNat : Int) == 47) := by
  by_cases h : c = 47
  · subst h; rfl
  · have h2 : (c.toNat : Int) ≠ 47 := by
      intro e
      have e2 : c.toNat = (47 : UInt8).toNat := by
        show c.toNat = 47
        omega
      exact h (UInt8.toNat_inj.1 e2)
    simp [h, h2]
theorem l9 : lowF Tryd.prog Tryd.f9 = some c9 := by kernel_rfl
def tD (t : Txt) : List Dt := [.val (.string (bysL t))]
def txD (l : List Txt) : Dt := .sl 1 (l.map tD)
def txV (l : List Txt) : CV := .rv (.one (.dat (txD l)))
def keepT (w : Txt) : Bool := !(decide (w = []) || decide (w = [46]))
def goodT (w : Txt) : Bool := decide (w = []) || decide (w = [46]) || decide (w = [46, 46]) || nameOk w
def partsS (t : Txt) : List Txt := (cutL 47 t).filter keepT
/-- what a path's parts are -/
def splitS (t : Txt) : List Txt × Bool × Int :=
  if t = [] then ([], false, 2) else if 60 < t.length then ([], false, 4) else if (cutL 47 t).all goodT then (partsS t, decide (t[0]? = some 47), 0) else ([], false, 7)
def spRV (p : List Txt × Bool × Int) : CV := .tup [.one (.dat (txD p.1)), .one (.dat (.val (.bool p.2.1))), .one (.dat (.val (.int .i64 p.2.2)))]
def pt (id : Nat) : CV := .rv (.one (.ptr id 0))
def spE (t : Txt) : List CV := vT t :: .junk :: pt 0 :: pt 1 :: pt 2 :: pt 3 :: repl 31 .junk
def spM : List Txt → Mem
  | [] => [.var [.esl], .var [.dat (.val (.bool false))], .var [.dat (.val (.int .i64 0))], .var [.esl]]
  | x :: r => [.var [.esl], .var [.dat (.val (.bool false))], .var [.dat (.val (.int .i64 0))], .var [.row 4 1 0 none], .row 1 (dRows ((x :: r).map tD))]
theorem pieces_get {c : UInt8} {t : Txt} {k : Nat} {y : ByteArray} (h : (pieces c (bysL t))[k]? = some y) : ∃ w, (cutL c t)[k]? = some w ∧ y = bysL w := by
  simp only [pieces, bysL_data, List.getElem?_map] at h
  cases hc : (cutL c t)[k]? with
  | none => rw [hc] at h; cases h
  | some w => rw [hc] at h; cases h; exact ⟨w, rfl, rfl⟩
theorem frz3 {m : Mem} {c : CC} {l : List Txt} {b : Bool} {e : Int} (h : FrzC m c (.dat (txD l))) : FrzV m (.tup [.one c, .one (.dat (.val (.bool b))), .one (.dat (.val (.int .i64 e)))]) (spRV (l, b, e)) := by
  refine .tup rfl fun i r r' h1 h2 => ?_
  match i with
  | 0 => cases h1; cases h2; exact .one h
  | 1 => cases h1; cases h2; exact .one (.dat _)
  | 2 => cases h1; cases h2; exact .one (.dat _)
  | n + 3 => simp at h1
set_option maxRecDepth 100000 in
set_option maxHeartbeats 8000000 in
theorem split_body (t : Txt) : body Tryd.prog c9 [vT t] [] (fun r m => FrzV m r (spRV (splitS t))) := by
  refine bB_str (b := []) (fun h => ?_) (fun h0 => ?_)
  · subst h
    exact frz3 (.esl 1)
  refine bB_dec (fun h => ?_) (fun h1 => ?_)
  · rw [bysL_sizeI] at h
    have : splitS t = ([], false, 4) := by rw [splitS, if_neg h0, if_pos (by omega)]
    rw [this]
    exact frz3 (.esl 1)
  rw [bysL_sizeI] at h1
  refine sq38 (bysL t) ⟨#[47]⟩ ?_
  refine ⟨49, [5, 4, 6], [.string ⟨#[47]⟩, .string (bysL t), .int .i64 0], pieces 47 (bysL t), List Txt, fun k out => out = ((cutL 47 t).take k).filter keepT ∧ ((cutL 47 t).take k).all goodT = true, fun out => ⟨spE t, spM out⟩, rfl,
    ⟨⟨rfl, rfl⟩, ⟨rfl, rfl⟩, ⟨rfl, rfl⟩, trivial⟩, ⟨by decide, by simp⟩, split_seq (bysL t) 47 (by rw [bysL_sizeI]; omega), ⟨[], ⟨by simp, by simp⟩, ?_⟩, ?_, ?_⟩
  · refine View.of 7 [0, 1, 2, 3] [] rfl rfl rfl rfl rfl rfl ?_ ?_
    · repeat (first | exact .nil | refine .junk ?_ | refine .eq rfl ?_)
    · repeat (first | exact .nil _ | refine .put (by simp [memN]) rfl (.eq rfl (by simp)) ?_)
  · intro k y out hk hJ
    obtain ⟨w, hw, rfl⟩ := pieces_get hk
    obtain ⟨ho, hg⟩ := hJ
    have htk : (cutL 47 t).take (k + 1) = (cutL 47 t).take k ++ [w] := by rw [List.take_add_one, hw]; rfl
    have skip : w = [] ∨ w = [46] → out = ((cutL 47 t).take (k + 1)).filter keepT ∧ ((cutL 47 t).take (k + 1)).all goodT = true := by
      intro h
      rw [htk, List.filter_append, List.all_append, ← ho, hg]
      rcases h with rfl | rfl <;> simp [keepT, goodT]
    have keep : w ≠ [] → w ≠ [46] → (w = [46, 46] ∨ nameOk w = true) → out ++ [w] = ((cutL 47 t).take (k + 1)).filter keepT ∧ ((cutL 47 t).take (k + 1)).all goodT = true := by
      intro h1 h2 h3
      rw [htk, List.filter_append, List.all_append, ← ho, hg]
      rcases h3 with rfl | h3
      · simp [keepT, goodT]
      · simp [keepT, goodT, h1, h2, h3]
    have bad : w ≠ [] → w ≠ [46] → w ≠ [46, 46] → nameOk w = false → splitS t = ([], false, 7) := by
      intro h1 h2 h3 h4
      have : (cutL 47 t).all goodT = false := by
        rw [List.all_eq_false]
        exact ⟨w, List.mem_of_getElem? hw, by simp [goodT, h1, h2, h3, h4]⟩
      rw [splitS, if_neg h0, if_neg (by omega), this]
      rfl
    have hlen : out.length ≤ 61 := by
      rw [ho]
      have h2 := List.length_filter_le keepT ((cutL 47 t).take k)
      have h3 := cutL_len 47 t
      have h4 : ((cutL 47 t).take k).length ≤ (cutL 47 t).length := by rw [List.length_take]; omega
      omega
    clear ho hg htk hk
    cases out with
    | nil =>
      have same : View 0 ⟨spE t, spM []⟩ ⟨spE t, spM []⟩ := by
        refine View.of 4 [0, 1, 2, 3] [] rfl rfl rfl rfl rfl rfl ?_ ?_
        · repeat (first | exact .nil | refine .junk ?_ | refine .eq rfl ?_)
        · repeat (first | exact .nil _ | refine .put (by simp [memN]) rfl (.eq rfl (by simp)) ?_)
      have fin : ∀ m, m = ([.var [.esl], .var [.dat (.val (.bool false))], .var [.dat (.val (.int .i64 0))], .var [.row 5 1 0 none], .dead, .row 1 ([] ++ [[.dat (.val (.string (bysL w)))]])] : Mem) → View 0 ⟨spE t, m⟩ ⟨spE t, spM ([] ++ [w])⟩ := by
        rintro m rfl
        refine View.of 6 [0, 1, 2, 3, 5] [] rfl rfl rfl rfl rfl rfl ?_ ?_
        · repeat (first | exact .nil | refine .junk ?_ | refine .eq rfl ?_)
        · repeat (first | exact .nil _ | refine .put (by simp [memN]) rfl (.eq rfl (by simp)) ?_)
      refine bB_str (b := []) (fun e1 => ?_) (fun e1 => ?_)
      · exact ⟨[], skip (.inl e1), same⟩
      refine bB_str (b := [46]) (fun e2 => ?_) (fun e2 => ?_)
      · exact ⟨[], skip (.inr e2), same⟩
      refine bB_str (b := [46, 46]) (fun e3 => ?_) (fun e3 => ?_)
      · exact ⟨(show 1 * 16 ≤ 140737488355328 by omega), _, keep e1 e2 (.inl e3), fin _ rfl⟩
      · refine name_ok w ?_
        refine bB_split (fun e4 => ?_) (fun e4 => ?_)
        · exact ⟨(show 1 * 16 ≤ 140737488355328 by omega), _, keep e1 e2 (.inr e4), fin _ rfl⟩
        · rw [bad e1 e2 e3 e4]
          exact frz3 (.esl 1)
    | cons x r =>
      have same : View 0 ⟨spE t, spM (x :: r)⟩ ⟨spE t, spM (x :: r)⟩ := by
        refine View.of 5 [0, 1, 2, 3, 4] [] rfl rfl rfl rfl rfl rfl ?_ ?_
        · repeat (first | exact .nil | refine .junk ?_ | refine .eq rfl ?_)
        · refine .put (by simp [memN]) rfl (.eq rfl (by simp)) (.put (by simp [memN]) rfl (.eq rfl (by simp)) (.put (by simp [memN]) rfl (.eq rfl (by simp)) (.put (by simp [memN]) rfl (.eq rfl (by simp)) (.put (by simp [memN]) rfl (.rowDE rfl) (.nil _)))))
      have fin : ∀ m, m = ([.var [.esl], .var [.dat (.val (.bool false))], .var [.dat (.val (.int .i64 0))], .var [.row 6 1 0 none], .dead, .dead, .row 1 (dRows ((x :: r).map tD) ++ [[.dat (.val (.string (bysL w)))]])] : Mem) → View 0 ⟨spE t, m⟩ ⟨spE t, spM ((x :: r) ++ [w])⟩ := by
        rintro m rfl
        refine View.of 7 [0, 1, 2, 3, 6] [] rfl rfl rfl rfl rfl rfl ?_ ?_
        · repeat (first | exact .nil | refine .junk ?_ | refine .eq rfl ?_)
        · refine .put (by simp [memN]) rfl (.eq rfl (by simp)) (.put (by simp [memN]) rfl (.eq rfl (by simp)) (.put (by simp [memN]) rfl (.eq rfl (by simp)) (.put (by simp [memN]) rfl (.eq rfl (by simp)) (.put (by simp [memN]) rfl (.rowDE ?_) (.nil _)))))
          show _ = dRows (((x :: r) ++ [w]).map tD)
          rw [List.map_append, dRows_append]
          rfl
      have big : ((dRows ((x :: r).map tD)).length + 1) * 16 ≤ 140737488355328 := by
        simp [dRows]
        simp at hlen
        omega
      refine bB_str (b := []) (fun e1 => ?_) (fun e1 => ?_)
      · exact ⟨_, skip (.inl e1), same⟩
      refine bB_str (b := [46]) (fun e2 => ?_) (fun e2 => ?_)
      · exact ⟨_, skip (.inr e2), same⟩
      refine bB_str (b := [46, 46]) (fun e3 => ?_) (fun e3 => ?_)
      · exact ⟨big, _, keep e1 e2 (.inl e3), fin _ rfl⟩
      · refine name_ok w ?_
        refine bB_split (fun e4 => ?_) (fun e4 => ?_)
        · exact ⟨big, _, keep e1 e2 (.inr e4), fin _ rfl⟩
        · rw [bad e1 e2 e3 e4]
          exact frz3 (.esl 1)
  · intro out hJ
    obtain ⟨ho, hg⟩ := hJ
    have hpl : (pieces 47 (bysL t)).length = (cutL 47 t).length := by simp [pieces]
    rw [hpl, List.take_length] at ho hg
    have hs : splitS t = (out, decide (t[0]? = some 47), 0) := by
      rw [splitS, if_neg h0, if_neg (by omega), hg]
      simp [partsS, ho]
    rw [hs]
    obtain ⟨c, r, rfl⟩ : ∃ c r, t = c :: r := by
      cases t with
      | nil => exact absurd rfl h0
      | cons c r => exact ⟨c, r, rfl⟩
    have hc : decide ((c :: r)[0]? = some 47) = ((c.toNat : Int) == 47) := first47 c r
    cases out with
    | nil =>
      rw [hc]
      refine ⟨trivial, trivial, trivial, ?_⟩
      exact frz3 (l := []) (c := .esl) (.esl 1)
    | cons x r =>
      rw [hc]
      refine ⟨trivial, trivial, trivial, ?_⟩
      exact frz3 (l := x :: r) (c := .row 4 1 0 none) (FrzC.rowD (ds := (x :: r).map tD) rfl 0 none)
theorem split_ok (t : Txt) {m : Mem} {K : CV → Mem → Prop} (h : K (spRV (splitS t)) m) : ACall Tryd.prog 9 [vT t] m K :=
  acall_frame (acall_body Tryd.func9 l9 rfl (Nat.le_of_ble_eq_true rfl) (split_body t)) (by simp [vT, vStr, CV.isD, CC.isD]) fun r m1 hf => ⟨_, hf, h⟩
end Go.Proofs.YtoohefnephhmbaaDoor
