import Derived.Test.YtflieebgiejjpaaAmZ2
import Derived.Test.YtflieebgiejjpaaDvCh4
import Derived.Test.YtflieebgiejjpaaAmY
set_option linter.unusedVariables false
set_option linter.unusedSimpArgs false
namespace Go.Proofs.Ytflieebgiejjpaa
open Go.AM Go.ChangeShapes Go.WideShapes Go.ChangeAt Go.RowKit
def c95 : LF := ⟨33, [.tmp 6], (.seq (.reg [
    ⟨(some 6), .mov (.c (.rv (.one .esl))), none⟩]) (.seq (.reg [
    ⟨(some 8), .mov (.t 0), none⟩,
    ⟨(some 9), .mov (.t 1), none⟩,
    ⟨(some 10), .mov (.t 2), none⟩,
    ⟨(some 11), .mov (.t 0), none⟩,
    ⟨(some 12), .len 1 (.t 11), none⟩,
    ⟨(some 13), .slc 4 (.t 8) (some (.t 9)) (some (.t 10)) (some (.t 12)), none⟩]) (.seq (.seq (.reg [
    ⟨(some 14), .mov (.t 1), none⟩,
    ⟨(some 15), .mov (.t 2), none⟩,
    ⟨(some 16), .bin .eql (.t 14) (.t 15), none⟩]) (.cond (.t 16) (.seq (.reg [
    ⟨(some 17), .mov (.t 0), none⟩,
    ⟨(some 6), .mov (.t 17), none⟩]) .ret) .skip)) (.seq (.reg [
    ⟨(some 18), .mov (.t 0), none⟩,
    ⟨(some 19), .len 1 (.t 18), none⟩,
    ⟨(some 7), .mov (.t 19), none⟩]) (.seq (.draw [
    ⟨(some 20), .mov (.t 0), none⟩,
    ⟨(some 21), .mov (.t 1), none⟩,
    ⟨(some 22), .slc 4 (.t 20) none (some (.t 21)) none, none⟩,
    ⟨(some 23), .mov (.t 0), none⟩,
    ⟨(some 24), .mov (.t 2), none⟩,
    ⟨(some 25), .slc 4 (.t 23) (some (.t 24)) none none, none⟩,
    ⟨(some 26), .app 4 48 (.t 22) (.t 25), none⟩,
    ⟨(some 0), .mov (.t 26), none⟩]
    [(.cons 0 none (.cons 1 none (.cons 2 none (.cons 3 none (.cons 4 none (.cons 5 none (.cons 6 (some []) (.cons 7 none .nil))))))))]) (.seq (.reg [
    ⟨(some 27), .mov (.t 0), none⟩,
    ⟨(some 28), .mov (.t 0), none⟩,
    ⟨(some 29), .len 1 (.t 28), none⟩,
    ⟨(some 30), .mov (.t 7), none⟩,
    ⟨(some 31), .slc 4 (.t 27) (some (.t 29)) (some (.t 30)) none, none⟩,
    ⟨none, .clr 4 [.esl, (.dat (.val (.bool false))), (.dat (.val (.int .i64 (0)))), (.dat (.val (.int .i64 (0))))] (.t 31), none⟩]) (.seq (.reg [
    ⟨(some 32), .mov (.t 0), none⟩,
    ⟨(some 6), .mov (.t 32), none⟩]) .ret)))))))⟩
/-! Delete of the first, Recv -/
def zeroM : List CC := [.esl, .dat (.val (.bool false)), .dat (.val (.int .i64 0)), .dat (.val (.int .i64 0))]
theorem noOwnRows_dRows : ∀ ds : List (List Dt), noOwnRows (dRows ds) = true
  | [] => rfl
  | d :: r => by
    have h1 : ∀ e : List Dt, noOwnL (e.map CC.dat) = true := by
      intro e
      induction e with
      | nil => rfl
      | cons x e ih => simpa [noOwnL, CC.noOwn] using ih
    have := noOwnRows_dRows r
    simp only [dRows, List.map_cons, noOwnRows] at this ⊢
    rw [h1, this]
    rfl
theorem l95 : lowF Try.prog Try.f95 = some c95 := by kernel_rfl
def delRows (x : Msg) (r : List Msg) : List (List CC) := dRows (r.map Msg.enc) ++ [zeroM]
set_option maxRecDepth 100000 in
set_option maxHeartbeats 8000000 in
theorem del_body (x : Msg) (r : List Msg) (hl : r.length ≤ 4194303) : body Try.prog c95 [.rv (.one (.row 0 4 0 none)), vInt .i64 0, vInt .i64 1] [.row 4 (dRows ((x :: r).map Msg.enc))] (fun v m => v = .rv (.one (.row 0 4 0 (some r.length))) ∧ m = [.row 4 (delRows x r)]) := by
  have hlen : (dRows ((x :: r).map Msg.enc)).length = r.length + 1 := by simp [dRows]
  have hdrop : (dRows ((x :: r).map Msg.enc)).drop 1 = dRows (r.map Msg.enc) := rfl
  generalize dRows ((x :: r).map Msg.enc) = D at hlen hdrop
  have hL : lenOf D.length 0 none = r.length + 1 := by rw [lenOf_eq, hlen]; rfl
  have hE : subL D 1 (some (r.length + 1)) = dRows (r.map Msg.enc) := by
    rw [subL_eq]
    simp only
    rw [← hlen, List.take_length, hdrop]
  have hEl : (dRows (r.map Msg.enc)).length = r.length := by simp [dRows]
  refine bB_yes ?_ ?_
  · show (Nat.ble 0 1 && (Nat.ble 1 (lenOf D.length 0 none) && Nat.ble (lenOf D.length 0 none) (subL D 0 none).length)) = true
    rw [hL]
    simp [subL, hlen, Nat.ble_eq]
  rw [hL]
  refine bB_yes ?_ ?_
  · show (Nat.ble 1 (lenOf D.length 0 none) && Nat.ble (lenOf D.length 0 none) (D.length - 0)) = true
    rw [hL, hlen]
    simp [Nat.ble_eq]
  rw [hL]
  refine bB_yes ?_ ?_
  · show (Nat.beq 0 0 && (Nat.beq 4 4 && (Nat.beq 4 4 && (Nat.ble 1 D.length && (Nat.ble (0 + (subL D 1 (some (r.length + 1))).length) D.length && noOwnRows (subL D 1 (some (r.length + 1)))))))) = true
    rw [hE, noOwnRows_dRows, hEl, hlen]
    simp [Nat.ble_eq]
  refine ⟨?_, ?_⟩
  · rw [hlen]; omega
  refine ⟨trivial, ?_⟩
  have hsp : (splice D 0 (dRows (r.map Msg.enc))).length = r.length + 1 := by rw [splice_len (by rw [hEl, hlen]; omega), hlen]
  refine bB_yes ?_ ?_
  · simp only [addN_eq, Nat.zero_add, hE, hEl, lenOf_eq, Option.getD_some, Nat.sub_zero, hsp]
    simp [Nat.ble_eq]
  refine bB_yes ?_ ?_
  · simp only [addN_eq, Nat.zero_add, hE, hEl, lenOf_eq, Option.getD_some, Nat.sub_zero, hsp, hiOf]
    simp [Nat.ble_eq]
  refine bB_yes ?_ ?_
  · simp only [addN_eq, Nat.zero_add, hE, hEl, lenOf_eq, Option.getD_some, Nat.sub_zero, hsp, hiOf]
    simp [Nat.blt_eq]
  have hfin : splice (splice D 0 (dRows (r.map Msg.enc))) r.length (repl 1 zeroM) = delRows x r := by
    have h1 : splice D 0 (dRows (r.map Msg.enc)) = dRows (r.map Msg.enc) ++ D.drop r.length := by
      simp [splice, hEl]
    rw [h1]
    simp only [splice, repl_eq, delRows]
    rw [List.take_append_of_le_length (by rw [hEl]; exact Nat.le_refl _), List.take_of_length_le (by rw [hEl]; exact Nat.le_refl _)]
    congr 1
    have : (dRows (r.map Msg.enc) ++ D.drop r.length).length = r.length + 1 := by simp [hEl, hlen]
    rw [List.drop_of_length_le (by rw [this]; simp)]
    rfl
  refine ⟨?_, ?_⟩
  · show CV.rv (.one (.row 0 4 0 (some (0 + (subL D (addN 0 1) (some (addN 0 (r.length + 1)))).length)))) = _
    simp only [addN_eq, Nat.zero_add, hE, hEl]
  · rw [← hfin]
    show [Bk.row 4 (splice (splice D 0 (subL D (addN 0 1) (some (addN 0 (r.length + 1))))) _ (repl (_ - _) zeroM))] = _
    simp only [addN_eq, Nat.zero_add, hE, hEl, lenOf_eq, Option.getD_some, Nat.sub_zero, hsp, hiOf, Nat.add_sub_cancel_left]
set_option maxRecDepth 100000 in
/-- a queue's first goes -/
theorem del_ok (x : Msg) (r : List Msg) (hl : r.length ≤ 4194303) {m : Mem} {K : CV → Mem → Prop} (id : Nat) (hb : nth m id = some (.row 4 (dRows ((x :: r).map Msg.enc)))) (h : K (.rv (.one (.row id 4 0 (some r.length)))) (setN m id (.row 4 (delRows x r)))) :
    ACall Try.prog 95 [.rv (.one (.row id 4 0 none)), vInt .i64 0, vInt .i64 1] m K := by
  have hid : id < m.length := by
    rw [nth_eq] at hb
    exact (List.getElem?_eq_some_iff.1 hb).1
  refine acall_borrow [id] m.length rfl rfl rfl (by simp [allLt, hid]) (args0 := [.rv (.one (.row 0 4 0 none)), vInt .i64 0, vInt .i64 1]) rfl (fun i b' hi => ?_) (acall_body Try.func95 l95 rfl (Nat.le_of_ble_eq_true rfl) (del_body x r hl)) (fun r1 m1 hr => ?_)
  · cases i with
    | zero =>
      simp at hi
      subst hi
      refine .inr ⟨fun h => h, _, ?_, .rowDE rfl⟩
      rw [nth_eq] at hb
      exact hb
    | succ i => simp at hi
  · obtain ⟨rfl, rfl⟩ := hr
    refine ⟨Nat.le_refl _, ?_⟩
    have hren : (Bk.row 4 (delRows x r)).ren (sg [id] m.length) = .row 4 (delRows x r) := by
      simp only [Bk.ren, delRows, List.map_append, dRows_ren]
      rfl
    show K (.rv (.one (.row id 4 0 (some r.length)))) (weave m [id] [(Bk.row 4 (delRows x r)).ren (sg [id] m.length)])
    rw [hren]
    simp only [weave, app2_eq, List.append_nil]
    exact h
end Go.Proofs.Ytflieebgiejjpaa
