import Derived.Test.YtflieebgiejjpaaAmZ2
import Derived.Test.YtflieebgiejjpaaDvRd4
import Derived.Test.YtflieebgiejjpaaAmY
set_option linter.unusedVariables false
set_option linter.unusedSimpArgs false
namespace Go.Proofs.Ytflieebgiejjpaa
open Go.AM Go.ChangeShapes Go.WideShapes Go.ChangeAt Go.RowKit
def c27 : LF := ⟨54, [.tmp 4, .tmp 5, .tmp 6], (.seq (.reg [
    ⟨(some 3), .box (.t 1), none⟩,
    ⟨(some 4), .mov (.c (.rv (.one .esl))), none⟩,
    ⟨(some 5), .mov (.c (.rv (.one (.dat (.val (.int .i64 (0))))))), none⟩,
    ⟨(some 6), .mov (.c (.rv (.one (.dat (.val (.int .i64 (0))))))), none⟩]) (.seq (.seq (.reg [
    ⟨(some 9), .fadr 1 (.t 3), none⟩,
    ⟨(some 10), .load false 1 (.t 9), none⟩,
    ⟨(some 11), .bin .lss (.t 10) (.c (.rv (.one (.dat (.val (.int .i64 (0))))))), none⟩,
    ⟨(some 12), .mov (.t 11), none⟩,
    ⟨(some 13), .fadr 1 (.t 3), (some (12, false))⟩,
    ⟨(some 14), .load false 1 (.t 13), (some (12, false))⟩,
    ⟨(some 15), .bin .gtr (.t 14) (.c (.rv (.one (.dat (.val (.int .i64 (4095))))))), (some (12, false))⟩,
    ⟨(some 16), .pick (.t 12) (.c (.rv (.one (.dat (.val (.bool true)))))) (.t 15), none⟩,
    ⟨(some 17), .mov (.t 16), none⟩,
    ⟨(some 18), .fadr 0 (.t 3), (some (17, false))⟩,
    ⟨(some 19), .load false 1 (.t 18), (some (17, false))⟩,
    ⟨(some 20), .bin .lss (.t 19) (.c (.rv (.one (.dat (.val (.int .i64 (0))))))), (some (17, false))⟩,
    ⟨(some 21), .pick (.t 17) (.c (.rv (.one (.dat (.val (.bool true)))))) (.t 20), none⟩]) (.cond (.t 21) (.seq (.reg [
    ⟨(some 4), .mov (.c (.rv (.one .esl))), none⟩,
    ⟨(some 5), .mov (.c (.rv (.one (.dat (.val (.int .i64 (0))))))), none⟩,
    ⟨(some 6), .mov (.c (.rv (.one (.dat (.val (.int .i64 (3))))))), none⟩]) .ret) .skip)) (.seq (.reg [
    ⟨(some 22), .bsl 3 [(.dat (.val (.bool false))), (.dat (.val (.int .i64 (0)))), (.dat (.val (.int .i64 (0))))] 0 [], none⟩,
    ⟨(some 23), .mov (.t 0), none⟩,
    ⟨(some 24), .app 3 24 (.t 22) (.t 23), none⟩,
    ⟨(some 7), .mov (.t 24), none⟩]) (.seq (.seq (.reg [
    ⟨(some 25), .mov (.t 7), none⟩,
    ⟨(some 26), .len 1 (.t 25), none⟩,
    ⟨(some 27), .mov (.c (.rv (.one (.dat (.val (.int .i64 (0))))))), none⟩]) (.block 0 (.loop (.seq (.reg [
    ⟨(some 28), .bin .lss (.t 27) (.t 26), none⟩]) (.seq (.cond (.t 28) .skip (.exit 0)) (.seq (.block 1 (.seq (.reg [
    ⟨(some 29), .mov (.t 27), none⟩,
    ⟨(some 8), .mov (.t 29), none⟩]) (.seq (.reg [
    ⟨(some 30), .mov (.t 7), none⟩,
    ⟨(some 31), .mov (.t 8), none⟩,
    ⟨(some 32), .idx 3 (.t 30) (.t 31), none⟩,
    ⟨(some 33), .fadr 0 (.t 32), none⟩,
    ⟨(some 34), .load false 1 (.t 33), none⟩,
    ⟨(some 35), .un .not (.t 34), none⟩]) (.cond (.t 35) (.seq (.reg [
    ⟨(some 36), .mov (.t 7), none⟩,
    ⟨(some 37), .mov (.t 8), none⟩,
    ⟨(some 38), .load true 2 (.t 3), none⟩,
    ⟨(some 39), .build [(.dat (.val (.bool false))), (.dat (.val (.int .i64 (0)))), (.dat (.val (.int .i64 (0))))] [(0, 1, (.c (.rv (.one (.dat (.val (.bool true))))))), (1, 2, (.t 38))], none⟩,
    ⟨(some 40), .idx 3 (.t 36) (.t 37), none⟩,
    ⟨none, .store 3 (.t 40) (.t 39), none⟩]) (.seq (.reg [
    ⟨(some 41), .mov (.t 7), none⟩,
    ⟨(some 42), .mov (.t 8), none⟩,
    ⟨(some 4), .mov (.t 41), none⟩,
    ⟨(some 5), .mov (.t 42), none⟩,
    ⟨(some 6), .mov (.c (.rv (.one (.dat (.val (.int .i64 (0))))))), none⟩]) .ret)) .skip)))) (.reg [
    ⟨(some 43), .bin .add (.t 27) (.c (.rv (.one (.dat (.val (.int .i64 (1))))))), none⟩,
    ⟨(some 27), .mov (.t 43), none⟩]))))))) (.seq (.seq (.reg [
    ⟨(some 44), .mov (.t 7), none⟩,
    ⟨(some 45), .len 1 (.t 44), none⟩,
    ⟨(some 46), .bin .geq (.t 45) (.c (.rv (.one (.dat (.val (.int .i64 (10))))))), none⟩]) (.cond (.t 46) (.seq (.reg [
    ⟨(some 4), .mov (.c (.rv (.one .esl))), none⟩,
    ⟨(some 5), .mov (.c (.rv (.one (.dat (.val (.int .i64 (0))))))), none⟩,
    ⟨(some 6), .mov (.c (.rv (.one (.dat (.val (.int .i64 (15))))))), none⟩]) .ret) .skip)) (.seq (.reg [
    ⟨(some 47), .mov (.t 7), none⟩,
    ⟨(some 48), .load true 2 (.t 3), none⟩,
    ⟨(some 49), .build [(.dat (.val (.bool false))), (.dat (.val (.int .i64 (0)))), (.dat (.val (.int .i64 (0))))] [(0, 1, (.c (.rv (.one (.dat (.val (.bool true))))))), (1, 2, (.t 48))], none⟩,
    ⟨(some 50), .bsl 3 [(.dat (.val (.bool false))), (.dat (.val (.int .i64 (0)))), (.dat (.val (.int .i64 (0))))] 1 [(0, (.t 49))], none⟩,
    ⟨(some 51), .app 3 24 (.t 47) (.t 50), none⟩,
    ⟨(some 52), .mov (.t 0), none⟩,
    ⟨(some 53), .len 1 (.t 52), none⟩,
    ⟨(some 4), .mov (.t 51), none⟩,
    ⟨(some 5), .mov (.t 53), none⟩,
    ⟨(some 6), .mov (.c (.rv (.one (.dat (.val (.int .i64 (0))))))), none⟩]) .ret))))))⟩
/-! Put of the document: what it says fits -/
structure Sl3 where
  has : Bool
  opn : Int
  rts : Int
def Sl3.enc (s : Sl3) : List Dt := [.val (.bool s.has), .val (.int .i64 s.opn), .val (.int .i64 s.rts)]
def sl3D (l : List Sl3) : Dt := .sl 3 (l.map Sl3.enc)
def sl3R (l : List Sl3) : RV := .one (.dat (sl3D l))
def sl3V (l : List Sl3) : CV := .rv (.one (.dat (sl3D l)))
theorem dRows_nth' {α : Type} (f : α → List Dt) (l : List α) {k : Nat} (h : k < l.length) : nth (dRows (l.map f)) k = some ((f l[k]).map .dat) := by
  rw [nth_eq, dRows, List.getElem?_map, List.getElem?_map, List.getElem?_eq_getElem h]; rfl
theorem dRows_set' {α : Type} (f : α → List Dt) (l : List α) (k : Nat) (x : α) : setN (dRows (l.map f)) k ((f x).map .dat) = dRows ((l.set k x).map f) := by
  rw [setN_eq, dRows, dRows, List.map_set, List.map_set]
theorem frz3b {m : Mem} {a b : RV} {x y : Int} (h : FrzR m a b) : FrzV m (.tup [a, iRV x, iRV y]) (.tup [b, iRV x, iRV y]) := frz3 h (FrzR.self rfl)
theorem l27 : lowF Try.prog Try.f27 = some c27 := by kernel_rfl
set_option maxRecDepth 100000 in
set_option maxHeartbeats 8000000 in
theorem rput_body (l : List Sl3) (hl : l.length ≤ 10) (opn rts : Int) : body Try.prog c27 [sl3V l, .rv (.agg [.dat (.val (.int .i64 opn)), .dat (.val (.int .i64 rts))])] []
    (fun r m => ∃ (y : List Sl3) (fd e : Int), (e = 0 → y.length ≤ 10) ∧ FrzV m r (.tup [sl3R y, iRV fd, iRV e])) := by
  have bad : ∀ m e, e ≠ 0 → ∃ (y : List Sl3) (fd : Int) (e' : Int), (e' = 0 → y.length ≤ 10) ∧ FrzV m (.tup [.one .esl, iRV 0, iRV e]) (.tup [sl3R y, iRV fd, iRV e']) := fun m e he => ⟨[], 0, e, fun h => absurd h he, frz3b (.one (.esl 3))⟩
  refine bB_dec (fun h => ?_) (fun h1 => ?_)
  · exact bad _ 3 (by decide)
  refine bB_dec (fun h => ?_) (fun h2 => ?_)
  · exact bad _ 3 (by decide)
  refine bB_dec (fun h => ?_) (fun h3 => ?_)
  · exact bad _ 3 (by decide)
  refine ⟨by simp [dRows, subL] <;> omega, ?_⟩
  refine loop_keep (fun k => k ≤ l.length) [0, 3, 26] (fun k => [(27, vInt .i64 (k : Nat)), (7, .rv (.one (.row 1 3 0 none))), (25, .rv (.one (.row 1 3 0 none)))])
    (fun _ => [.var [.dat (.val (.int .i64 opn)), .dat (.val (.int .i64 rts))], .row 3 (dRows (l.map Sl3.enc))]) (fun k => l.length - k) 0 (Nat.zero_le _) ?_ (fun k hk => ?_)
  · refine View.of 3 [0, 2] [] rfl rfl rfl rfl rfl rfl ?_ ?_
    · repeat (first | exact .nil | refine .junk ?_ | refine .eq rfl ?_)
    · exact .put (notF rfl) rfl (.eq rfl (by simp)) (.put (notF rfl) rfl (.rowDE (by simp [subL, dRows])) (.nil _))
  have hk : k ≤ l.length := hk
  have hlen : (dRows (l.map Sl3.enc)).length = l.length := by simp [dRows]
  refine bB_dec (fun h => ?_) (fun h => ?_)
  · have hlt : k < l.length := by
      have h : (k : Int) < (((([] : List (List CC)) ++ dRows (l.map Sl3.enc)).length : Nat) : Int) := h
      rw [List.nil_append, hlen] at h
      omega
    have hidx : idxZ (k : Int) (lenOf (dRows (l.map Sl3.enc)).length 0 none) = some k := idxZ_nat (by simpa [hlen, lenOf] using hlt)
    refine ok_some hidx ?_
    refine ok_some (dRows_nth' Sl3.enc l hlt) ?_
    have hk2 : k < 10 := by omega
    generalize l[k] = s
    refine bB_split (fun _ => ?_) (fun _ => ?_)
    · refine ok_some hidx ?_
      refine ok_some (dRows_nth' Sl3.enc l hlt) ?_
      refine ⟨l.set k ⟨true, opn, rts⟩, k, 0, fun _ => by simpa using hl, frz3b (.one (FrzC.rowD ?_ 0 none))⟩
      show some (Bk.row 3 (setN (dRows (l.map Sl3.enc)) k _)) = _
      rw [← dRows, ← dRows_set' Sl3.enc]
      rfl
    · refine ⟨k + 1, hlt, (show l.length - (k + 1) < l.length - k by omega), View.of 2 [0, 1] [] rfl rfl rfl rfl rfl rfl ?_ ?_⟩
      · repeat (first | exact .nil | refine .junk ?_ | refine .put (.ren (next_i64 (by omega)).symm) ?_ | refine .eq rfl ?_)
      · exact .put (notF rfl) rfl (.eq rfl (by simp)) (.put (notF rfl) rfl (.rowDE rfl) (.nil _))
  · refine bB_dec (fun h => ?_) (fun h10 => ?_)
    · exact bad _ 15 (by decide)
    · have h10 : l.length < 10 := by
        have h : ¬ (((dRows (l.map Sl3.enc)).length : Int) ≥ 10) := h10
        rw [hlen] at h
        omega
      refine ⟨by simp [dRows, subL] <;> omega, ?_⟩
      refine ⟨l ++ [⟨true, opn, rts⟩], _, 0, fun _ => by simp <;> omega, frz3b (.one (FrzC.rowD ?_ 0 none))⟩
      show some (Bk.row 3 _) = some (Bk.row 3 _)
      simp [subL, dRows, Sl3.enc]
set_option maxRecDepth 100000 in
theorem rput_ok (l : List Sl3) (hl : l.length ≤ 10) (opn rts : Int) {m : Mem} {K : CV → Mem → Prop} (h : ∀ (y : List Sl3) (fd e : Int), (e = 0 → y.length ≤ 10) → K (.tup [sl3R y, iRV fd, iRV e]) m) :
    ACall Try.prog 27 [sl3V l, .rv (.agg [.dat (.val (.int .i64 opn)), .dat (.val (.int .i64 rts))])] m K := by
  refine acall_frame (K0 := fun r m => ∃ (y : List Sl3) (fd e : Int), (e = 0 → y.length ≤ 10) ∧ FrzV m r (.tup [sl3R y, iRV fd, iRV e])) (acall_body (args := [sl3V l, .rv (.agg [.dat (.val (.int .i64 opn)), .dat (.val (.int .i64 rts))])]) Try.func27 l27 rfl (Nat.le_of_ble_eq_true rfl) (rput_body l hl opn rts)) (by simp [sl3V, sl3D, CV.isD, CC.isD, RV.isD]) fun r m1 hr => ?_
  obtain ⟨y, fd, e, hy, hf⟩ := hr
  exact ⟨_, hf, h y fd e hy⟩
end Go.Proofs.Ytflieebgiejjpaa
