import Derived.Test.YtjofmgkcllffnaaAmZ2
import Derived.Test.YtjofmgkcllffnaaDvGc
import Derived.Test.YtjofmgkcllffnaaAmY
set_option linter.unusedVariables false
set_option linter.unusedSimpArgs false
namespace Go.Proofs.Ytjofmgkcllffnaa
open Go.AM Go.ChangeShapes Go.WideShapes Go.ChangeAt Go.RowKit
/-! sweep.once: the walk -/
def endP (L : List Obj) (t : Nat) (o : Prc) : Bool := decide (0 < t) && (o.live && !(L.any (heldB (t : Int))))
def opS (b : Mk) (k : Nat) (t : Nat) (o : Opn) : Opn := if (decide (t < k) && !(b.P[t]? == some true)) = true then ⟨-1, 0⟩ else o
def prS (L : List Obj) (k : Nat) (t : Nat) (o : Prc) : Prc := if (decide (t < k) && endP L t o) = true then zeroP else o
def endsS (L : List Obj) (ps : List Prc) (k : Nat) : Bool := (List.range k).any fun t => match ps[t]? with
  | some o => endP L t o
  | none => false
structure OnceOK (l : List Obj) (ops : List Opn) (ps : List Prc) (L : List Obj) (L2 : List Opn) (L3 : List Prc) (en : Bool) : Prop where
  ex : ∃ b, MarkOK l ops ps b ∧ Pt l L (onceAt b l l.length) ∧ Pt ops L2 (opS b ops.length)
  pr : Pt ps L3 (prS L ps.length)
  en : en = endsS L ps ps.length
structure StL where
  i : Nat
  L : List Obj
structure StO2 where
  i : Nat
  L : List Opn
structure St3 where
  i : Nat
  L : List Prc
  en : Bool
theorem op_idx {l : List Opn} {n : Nat} (h : n < l.length) : idxZ (n : Int) (lenOf (dRows (l.map Opn.enc)).length 0 none) = some n := idxZ_nat (by show n < (dRows (l.map Opn.enc)).length; rw [dRows_len, List.length_map]; exact h)
theorem pr_idx {l : List Prc} {n : Nat} (h : n < l.length) : idxZ (n : Int) (lenOf (dRows (l.map Prc.enc)).length 0 none) = some n := idxZ_nat (by show n < (dRows (l.map Prc.enc)).length; rw [dRows_len, List.length_map]; exact h)
theorem len_lt {α : Type} {f : α → List Dt} {l : List α} {k : Nat} (h : (k : Int) < (((dRows (l.map f)).length : Nat) : Int)) : k < l.length := by
  rw [dRows_len, List.length_map] at h; omega
theorem len_ge {α : Type} {f : α → List Dt} {l : List α} {k : Nat} (h : ¬ (k : Int) < (((dRows (l.map f)).length : Nat) : Int)) : l.length ≤ k := by
  rw [dRows_len, List.length_map] at h; omega
theorem endsS_succ {L : List Obj} {ps : List Prc} {p : Nat} (h : p < ps.length) : endsS L ps (p + 1) = (endsS L ps p || endP L p ps[p]) := by
  unfold endsS
  rw [List.range_succ, List.any_append, List.getElem?_eq_getElem h |> fun e => (by simp [e] : (List.any [p] fun t => match ps[t]? with | some o => endP L t o | none => false) = endP L p ps[p])]
set_option maxRecDepth 100000 in
theorem contBorrow (L : List Obj) (L2 : List Opn) (L3 : List Prc) (b : Mk) (p : Nat) (hl : L.length ≤ 4194304) {K : CV → Mem → Prop}
    (h : K (vBool (L.any (heldB (p : Int)))) [.var [.row 1 9 0 none, .row 2 2 0 none, .row 3 4 0 none], .row 9 (dRows (L.map Obj.enc)), .row 2 (dRows (L2.map Opn.enc)), .row 4 (dRows (L3.map Prc.enc)), .var [.ptr 0 0, .row 5 1 0 none, .row 6 1 0 none], .row 1 (dRows (b.O.map bE)), .row 1 (dRows (b.P.map bE)), .var [.dat (.val (.int .i64 (p : Nat)))]]) : ACall Try.prog 46 [.rv (.one (.row 1 9 0 none)), .rv (.one (.fn 62 [7]))] [.var [.row 1 9 0 none, .row 2 2 0 none, .row 3 4 0 none], .row 9 (dRows (L.map Obj.enc)), .row 2 (dRows (L2.map Opn.enc)), .row 4 (dRows (L3.map Prc.enc)), .var [.ptr 0 0, .row 5 1 0 none, .row 6 1 0 none], .row 1 (dRows (b.O.map bE)), .row 1 (dRows (b.P.map bE)), .var [.dat (.val (.int .i64 (p : Nat)))]] K := by
  refine acall_borrow [1, 7] 8 rfl rfl rfl rfl (args0 := [.rv (.one (.row 0 9 0 none)), .rv (.one (.fn 62 [1]))]) rfl (fun i b' hi => ?_) (contR_ok L hl 62 [.val (.int .i64 (p : Nat))] (heldB (p : Int)) (fun s K hK => clo116 s p K hK)) (fun r m1 hr => ?_)
  · match i, hi with
    | 0, hi => cases hi; exact .inr ⟨fun h => h, _, rfl, .rowDE rfl⟩
    | 1, hi => cases hi; exact .inr ⟨fun h => h, _, rfl, .varDE rfl⟩
    | n + 2, hi => simp at hi
  · obtain ⟨rfl, rfl⟩ := hr
    refine ⟨Nat.le_refl _, ?_⟩
    have e : (Bk.row 9 (dRows (L.map Obj.enc))).ren (sg [1, 7] 8) = .row 9 (dRows (L.map Obj.enc)) := by simp only [Bk.ren, dRows_ren]
    show K _ [.var [.row 1 9 0 none, .row 2 2 0 none, .row 3 4 0 none], (Bk.row 9 (dRows (L.map Obj.enc))).ren (sg [1, 7] 8), .row 2 (dRows (L2.map Opn.enc)), .row 4 (dRows (L3.map Prc.enc)), .var [.ptr 0 0, .row 5 1 0 none, .row 6 1 0 none], .row 1 (dRows (b.O.map bE)), .row 1 (dRows (b.P.map bE)), .var [.dat (.val (.int .i64 (p : Nat)))]]
    rw [e]
    exact h
theorem l45 : lowF Try.prog Try.f45 = some c45 := by kernel_rfl
set_option maxRecDepth 100000 in
set_option maxHeartbeats 32000000 in
theorem once_body (l : List Obj) (ops : List Opn) (ps : List Prc) (g : ∀ o, o ∈ l → o.sm) (hl : l.length ≤ 4194304) (ho : ops.length ≤ 4194304) (hpl : ps.length ≤ 4194304) (hps : ∀ p, p ∈ ps → p.slots.length ≤ 10) :
    body Try.prog c45 [.rv (.one (.ptr 0 0))] [.var [.row 1 9 0 none, .row 2 2 0 none, .row 3 4 0 none], .row 9 (dRows (l.map Obj.enc)), .row 2 (dRows (ops.map Opn.enc)), .row 4 (dRows (ps.map Prc.enc))]
      (fun r m => ∃ r' m', View 4 ⟨[r], m⟩ ⟨[r'], m'⟩ ∧ ∃ L L2 L3 en, OnceOK l ops ps L L2 L3 en ∧ r' = vBool en ∧ m' = [.var [.row 1 9 0 none, .row 2 2 0 none, .row 3 4 0 none], .row 9 (dRows (L.map Obj.enc)), .row 2 (dRows (L2.map Opn.enc)), .row 4 (dRows (L3.map Prc.enc))]) := by
  refine (mark_okR l ops ps g hl ho hpl hps).mono fun r m ⟨b, hb, hr, hm⟩ => ?_
  subst hr hm
  have hbO := hb.len.1
  have hbP := hb.len.2
  refine loop_keep (fun (s : StL) => s.i ≤ l.length ∧ Pt l s.L (onceAt b l s.i)) [0, 3, 16] (fun s => [(17, vInt .i64 (s.i : Nat))]) (fun s => [.var [.row 1 9 0 none, .row 2 2 0 none, .row 3 4 0 none], .row 9 (dRows (s.L.map Obj.enc)), .row 2 (dRows (ops.map Opn.enc)), .row 4 (dRows (ps.map Prc.enc)), .var [.ptr 0 0, .row 5 1 0 none, .row 6 1 0 none], .row 1 (dRows (b.O.map bE)), .row 1 (dRows (b.P.map bE))]) (fun s => l.length - s.i) ⟨0, l⟩ ⟨Nat.zero_le _, (Pt.refl l).congr fun t o _ => (onceAt_zero b l t o).symm⟩ ?_ (fun s hs => ?_)
  · refine View.of 7 [0, 1, 2, 3, 4, 5, 6] [] rfl rfl rfl rfl rfl rfl ?_ ?_
    · repeat (first | exact .nil | refine .junk ?_ | refine .eq rfl ?_)
    · exact (.put (notF rfl) rfl (.eq rfl (by simp)) (.put (notF rfl) rfl (.rowDE rfl) (.put (notF rfl) rfl (.rowDE rfl) (.put (notF rfl) rfl (.rowDE rfl) (.put (notF rfl) rfl (.eq rfl (by simp)) (.put (notF rfl) rfl (.rowDE rfl) (.put (notF rfl) rfl (.rowDE rfl) (.nil _))))))))
  obtain ⟨i, L⟩ := s
  obtain ⟨hi, hPt⟩ := hs
  have hi : i ≤ l.length := hi
  have hPt : Pt l L (onceAt b l i) := hPt
  refine bB_dec (fun h => ?_) (fun h => ?_)
  · have hlt : i < l.length := len_lt h
    have hiO : i < b.O.length := by omega
    refine ok_some (b_idx hiO) ?_
    refine ok_some (bO_get hiO) ?_
    have hgo : ∀ (hd : deadB b l i = false), Pt l L (onceAt b l (i + 1)) := fun hd => hPt.congr fun t o _ => onceAt_no hd t o
    refine bB_split (fun h2 => ?_) (fun h2 => ?_)
    · have hd : deadB b l i = false := by
        unfold deadB
        rw [List.getElem?_eq_getElem hlt, List.getElem?_eq_getElem hiO, h2]
        simp
      refine ⟨⟨i + 1, L⟩, ⟨hlt, hgo hd⟩, (show l.length - (i + 1) < l.length - i by omega), View.of 7 [0, 1, 2, 3, 4, 5, 6] [] rfl rfl rfl rfl rfl rfl ?_ ?_⟩
      · repeat (first | exact .nil | refine .junk ?_ | refine .put (.ren (next_i64 (by omega)).symm) ?_ | refine .eq rfl ?_)
      · exact (.put (notF rfl) rfl (.eq rfl (by simp)) (.put (notF rfl) rfl (.rowDE rfl) (.put (notF rfl) rfl (.rowDE rfl) (.put (notF rfl) rfl (.rowDE rfl) (.put (notF rfl) rfl (.eq rfl (by simp)) (.put (notF rfl) rfl (.rowDE rfl) (.put (notF rfl) rfl (.rowDE rfl) (.nil _))))))))
    · obtain ⟨hL, hLi⟩ := hPt.at hlt
      have hki : L[i].kind = l[i].kind := by rw [hLi, onceAt_kind]
      refine ok_some (o_idx hL) ?_
      refine ok_some (dRows_nth' Obj.enc L hL) ?_
      refine bB_beq (fun h3 => ?_) (fun h3 => ?_)
      · have h3 : L[i].kind = 0 := h3
        have hd : deadB b l i = false := by
          unfold deadB
          rw [List.getElem?_eq_getElem hlt]
          show (!(b.O[i]? == some true) && l[i].kind != 0) = false
          rw [← hki, h3]
          simp
        refine ⟨⟨i + 1, L⟩, ⟨hlt, hgo hd⟩, (show l.length - (i + 1) < l.length - i by omega), View.of 7 [0, 1, 2, 3, 4, 5, 6] [] rfl rfl rfl rfl rfl rfl ?_ ?_⟩
        · repeat (first | exact .nil | refine .junk ?_ | refine .put (.ren (next_i64 (by omega)).symm) ?_ | refine .eq rfl ?_)
        · exact (.put (notF rfl) rfl (.eq rfl (by simp)) (.put (notF rfl) rfl (.rowDE rfl) (.put (notF rfl) rfl (.rowDE rfl) (.put (notF rfl) rfl (.rowDE rfl) (.put (notF rfl) rfl (.eq rfl (by simp)) (.put (notF rfl) rfl (.rowDE rfl) (.put (notF rfl) rfl (.rowDE rfl) (.nil _))))))))
      · have h3 : L[i].kind ≠ 0 := h3
        have hd : deadB b l i = true := by
          unfold deadB
          rw [List.getElem?_eq_getElem hlt, List.getElem?_eq_getElem hiO, h2]
          simp [← hki, h3]
        have hLl := hPt.1
        refine loop_keep (fun (s : StL) => s.i ≤ l.length ∧ Pt l s.L (fun t o => if t < s.i then onceIn i (onceAt b l i t o) else onceAt b l i t o)) [0, 3, 4, 16, 17, 42] (fun s => [(43, vInt .i64 (s.i : Nat))]) (fun s => [.var [.row 1 9 0 none, .row 2 2 0 none, .row 3 4 0 none], .row 9 (dRows (s.L.map Obj.enc)), .row 2 (dRows (ops.map Opn.enc)), .row 4 (dRows (ps.map Prc.enc)), .var [.ptr 0 0, .row 5 1 0 none, .row 6 1 0 none], .row 1 (dRows (b.O.map bE)), .row 1 (dRows (b.P.map bE))]) (fun s => l.length - s.i) ⟨0, L⟩ ⟨Nat.zero_le _, hPt.congr fun t o _ => by simp⟩ ?_ (fun s hs => ?_)
        · refine View.of 7 [0, 1, 2, 3, 4, 5, 6] [] rfl rfl rfl rfl rfl rfl ?_ ?_
          · repeat (first | exact .nil | refine .junk ?_ | refine .eq rfl ?_)
          · exact (.put (notF rfl) rfl (.eq rfl (by simp)) (.put (notF rfl) rfl (.rowDE rfl) (.put (notF rfl) rfl (.rowDE rfl) (.put (notF rfl) rfl (.rowDE rfl) (.put (notF rfl) rfl (.eq rfl (by simp)) (.put (notF rfl) rfl (.rowDE rfl) (.put (notF rfl) rfl (.rowDE rfl) (.nil _))))))))
        clear hPt hgo
        obtain ⟨j, M⟩ := s
        obtain ⟨hj, hPt⟩ := hs
        have hj : j ≤ l.length := hj
        have hPt : Pt l M (fun t o => if t < j then onceIn i (onceAt b l i t o) else onceAt b l i t o) := hPt
        have hMl := hPt.1
        refine bB_dec (fun hjl => ?_) (fun hjl => ?_)
        · have hjlt : j < L.length := len_lt hjl
          have hjl2 : j < l.length := by omega
          obtain ⟨hM, hMj⟩ := hPt.at hjl2
          simp only [Nat.lt_irrefl, if_false] at hMj
          have hset := fun x => hPt.set (j := j) (x := x) (g := fun t o => if t < j + 1 then onceIn i (onceAt b l i t o) else onceAt b l i t o)
          have hsame := fun (hh : onceIn i M[j] = M[j]) => hPt.congr (g := fun t o => if t < j + 1 then onceIn i (onceAt b l i t o) else onceAt b l i t o) fun t o ho => by
            by_cases htj : t = j
            · subst htj
              rw [List.getElem?_eq_getElem hjl2] at ho
              cases ho
              simp only [Nat.lt_irrefl, if_false, Nat.lt_succ_self, if_true]
              rw [← hMj, hh]
            · have e1 : (t < j + 1) ↔ (t < j) := by omega
              simp only [e1]
          refine ok_some (o_idx hM) ?_
          refine ok_some (dRows_nth' Obj.enc M hM) ?_
          have hnx := dRows_nth' Obj.enc M hM
          generalize hx : M[j] = x at hMj hsame hnx
          refine bB_beq (fun h4 => ?_) (fun h4 => ?_)
          · have h4 : x.kind = 4 := h4
            refine ok_some (o_idx hM) ?_
            refine ok_some hnx ?_
            refine bB_beq (fun h5 => ?_) (fun h5 => ?_)
            · have h5 : x.peer = (i : Int) := h5
              refine ok_some (o_idx hM) ?_
              refine ok_some hnx ?_
              have hs := hset { x with peer := -1 } (fun o ho => by
                rw [List.getElem?_eq_getElem hjl2] at ho
                cases ho
                simp only [Nat.lt_succ_self, if_true]
                rw [← hMj]
                simp [onceIn, h4, h5]) (fun t o htj _ => by
                have e1 : (t < j + 1) ↔ (t < j) := by omega
                simp only [e1])
              refine ⟨⟨j + 1, M.set j { x with peer := -1 }⟩, ⟨hjl2, hs⟩, (show l.length - (j + 1) < l.length - j by omega), View.of 7 [0, 1, 2, 3, 4, 5, 6] [] rfl rfl rfl rfl rfl rfl ?_ ?_⟩
              · repeat (first | exact .nil | refine .junk ?_ | refine .put (.ren (next_i64 (by omega)).symm) ?_ | refine .eq rfl ?_)
              · exact (.put (notF rfl) rfl (.eq rfl (by simp)) (.put (notF rfl) rfl (.rowDE (dRows_set' Obj.enc M j { x with peer := -1 })) (.put (notF rfl) rfl (.rowDE rfl) (.put (notF rfl) rfl (.rowDE rfl) (.put (notF rfl) rfl (.eq rfl (by simp)) (.put (notF rfl) rfl (.rowDE rfl) (.put (notF rfl) rfl (.rowDE rfl) (.nil _))))))))
            · have h5 : x.peer ≠ (i : Int) := h5
              refine ⟨⟨j + 1, M⟩, ⟨hjl2, hsame (by simp [onceIn, h5])⟩, (show l.length - (j + 1) < l.length - j by omega), View.of 7 [0, 1, 2, 3, 4, 5, 6] [] rfl rfl rfl rfl rfl rfl ?_ ?_⟩
              · repeat (first | exact .nil | refine .junk ?_ | refine .put (.ren (next_i64 (by omega)).symm) ?_ | refine .eq rfl ?_)
              · exact (.put (notF rfl) rfl (.eq rfl (by simp)) (.put (notF rfl) rfl (.rowDE rfl) (.put (notF rfl) rfl (.rowDE rfl) (.put (notF rfl) rfl (.rowDE rfl) (.put (notF rfl) rfl (.eq rfl (by simp)) (.put (notF rfl) rfl (.rowDE rfl) (.put (notF rfl) rfl (.rowDE rfl) (.nil _))))))))
          · have h4 : x.kind ≠ 4 := h4
            refine ⟨⟨j + 1, M⟩, ⟨hjl2, hsame (by simp [onceIn, h4])⟩, (show l.length - (j + 1) < l.length - j by omega), View.of 7 [0, 1, 2, 3, 4, 5, 6] [] rfl rfl rfl rfl rfl rfl ?_ ?_⟩
            · repeat (first | exact .nil | refine .junk ?_ | refine .put (.ren (next_i64 (by omega)).symm) ?_ | refine .eq rfl ?_)
            · exact (.put (notF rfl) rfl (.eq rfl (by simp)) (.put (notF rfl) rfl (.rowDE rfl) (.put (notF rfl) rfl (.rowDE rfl) (.put (notF rfl) rfl (.rowDE rfl) (.put (notF rfl) rfl (.eq rfl (by simp)) (.put (notF rfl) rfl (.rowDE rfl) (.put (notF rfl) rfl (.rowDE rfl) (.nil _))))))))
        · have hje : L.length ≤ j := len_ge hjl
          have hM : i < M.length := by omega
          refine ok_some (o_idx hM) ?_
          refine ok_some (dRows_nth' Obj.enc M hM) ?_
          have hs := hPt.set (j := i) (x := zeroO) (g := onceAt b l (i + 1)) (fun o _ => onceAt_self hd o) (fun t o hti ht => by
            have : t < j := by have := (List.getElem?_eq_some_iff.1 ht).1; omega
            rw [if_pos this, onceAt_yes hd hti])
          refine ⟨⟨i + 1, M.set i zeroO⟩, ⟨hlt, hs⟩, (show l.length - (i + 1) < l.length - i by omega), View.of 7 [0, 1, 2, 3, 4, 5, 6] [] rfl rfl rfl rfl rfl rfl ?_ ?_⟩
          · repeat (first | exact .nil | refine .junk ?_ | refine .put (.ren (next_i64 (by omega)).symm) ?_ | refine .eq rfl ?_)
          · exact (.put (notF rfl) rfl (.eq rfl (by simp)) (.put (notF rfl) rfl (rowZ M i) (.put (notF rfl) rfl (.rowDE rfl) (.put (notF rfl) rfl (.rowDE rfl) (.put (notF rfl) rfl (.eq rfl (by simp)) (.put (notF rfl) rfl (.rowDE rfl) (.put (notF rfl) rfl (.rowDE rfl) (.nil _))))))))
  · have h9 : l.length ≤ i := len_ge h
    have hie : i = l.length := by omega
    subst hie
    have hLl := hPt.1
    refine loop_keep (fun (s : StO2) => s.i ≤ ops.length ∧ Pt ops s.L (opS b s.i)) [0, 3, 87] (fun s => [(88, vInt .i64 (s.i : Nat))]) (fun s => [.var [.row 1 9 0 none, .row 2 2 0 none, .row 3 4 0 none], .row 9 (dRows (L.map Obj.enc)), .row 2 (dRows (s.L.map Opn.enc)), .row 4 (dRows (ps.map Prc.enc)), .var [.ptr 0 0, .row 5 1 0 none, .row 6 1 0 none], .row 1 (dRows (b.O.map bE)), .row 1 (dRows (b.P.map bE))]) (fun s => ops.length - s.i) ⟨0, ops⟩ ⟨Nat.zero_le _, (Pt.refl ops).congr fun t o _ => by simp [opS]⟩ ?_ (fun s hs => ?_)
    · refine View.of 7 [0, 1, 2, 3, 4, 5, 6] [] rfl rfl rfl rfl rfl rfl ?_ ?_
      · repeat (first | exact .nil | refine .junk ?_ | refine .eq rfl ?_)
      · exact (.put (notF rfl) rfl (.eq rfl (by simp)) (.put (notF rfl) rfl (.rowDE rfl) (.put (notF rfl) rfl (.rowDE rfl) (.put (notF rfl) rfl (.rowDE rfl) (.put (notF rfl) rfl (.eq rfl (by simp)) (.put (notF rfl) rfl (.rowDE rfl) (.put (notF rfl) rfl (.rowDE rfl) (.nil _))))))))
    obtain ⟨k, L2⟩ := s
    obtain ⟨hk, hP2⟩ := hs
    have hk : k ≤ ops.length := hk
    have hP2 : Pt ops L2 (opS b k) := hP2
    have hL2l := hP2.1
    refine bB_dec (fun h => ?_) (fun h => ?_)
    · have hklt : k < ops.length := len_lt h
      have hkP : k < b.P.length := by omega
      refine ok_some (b_idx hkP) ?_
      refine ok_some (bO_get hkP) ?_
      have hno : ∀ t, t ≠ k → decide (t < k + 1) = decide (t < k) := fun t ht => decide_eq_decide.2 (by omega)
      refine bB_split (fun h2 => ?_) (fun h2 => ?_)
      · have h2 : b.P[k] = false := by simpa using h2
        have hL2 : k < L2.length := by omega
        refine ok_some (op_idx hL2) ?_
        refine ok_some (dRows_nth' Opn.enc L2 hL2) ?_
        have hs := hP2.set (j := k) (x := ⟨-1, 0⟩) (g := opS b (k + 1)) (fun o _ => by simp [opS, List.getElem?_eq_getElem hkP, h2]) (fun t o htk _ => by unfold opS; rw [hno t htk])
        refine ⟨⟨k + 1, L2.set k ⟨-1, 0⟩⟩, ⟨hklt, hs⟩, (show ops.length - (k + 1) < ops.length - k by omega), View.of 7 [0, 1, 2, 3, 4, 5, 6] [] rfl rfl rfl rfl rfl rfl ?_ ?_⟩
        · repeat (first | exact .nil | refine .junk ?_ | refine .put (.ren (next_i64 (by omega)).symm) ?_ | refine .eq rfl ?_)
        · exact (.put (notF rfl) rfl (.eq rfl (by simp)) (.put (notF rfl) rfl (.rowDE rfl) (.put (notF rfl) rfl (.rowDE (dRows_set' Opn.enc L2 k ⟨-1, 0⟩)) (.put (notF rfl) rfl (.rowDE rfl) (.put (notF rfl) rfl (.eq rfl (by simp)) (.put (notF rfl) rfl (.rowDE rfl) (.put (notF rfl) rfl (.rowDE rfl) (.nil _))))))))
      · have h2 : b.P[k] = true := by simpa using h2
        have hs := hP2.congr (g := opS b (k + 1)) fun t o _ => by
          by_cases htk : t = k
          · subst htk; simp [opS, List.getElem?_eq_getElem hkP, h2]
          · unfold opS; rw [hno t htk]
        refine ⟨⟨k + 1, L2⟩, ⟨hklt, hs⟩, (show ops.length - (k + 1) < ops.length - k by omega), View.of 7 [0, 1, 2, 3, 4, 5, 6] [] rfl rfl rfl rfl rfl rfl ?_ ?_⟩
        · repeat (first | exact .nil | refine .junk ?_ | refine .put (.ren (next_i64 (by omega)).symm) ?_ | refine .eq rfl ?_)
        · exact (.put (notF rfl) rfl (.eq rfl (by simp)) (.put (notF rfl) rfl (.rowDE rfl) (.put (notF rfl) rfl (.rowDE rfl) (.put (notF rfl) rfl (.rowDE rfl) (.put (notF rfl) rfl (.eq rfl (by simp)) (.put (notF rfl) rfl (.rowDE rfl) (.put (notF rfl) rfl (.rowDE rfl) (.nil _))))))))
    · have h9 : ops.length ≤ k := len_ge h
      have hke : k = ops.length := by omega
      subst hke
      refine loop_keep (fun (s : St3) => s.i ≤ ps.length ∧ Pt ps s.L (prS L s.i) ∧ s.en = endsS L ps s.i) [0, 3, 111] (fun s => [(112, vInt .i64 (s.i : Nat)), (7, vBool s.en)]) (fun s => [.var [.row 1 9 0 none, .row 2 2 0 none, .row 3 4 0 none], .row 9 (dRows (L.map Obj.enc)), .row 2 (dRows (L2.map Opn.enc)), .row 4 (dRows (s.L.map Prc.enc)), .var [.ptr 0 0, .row 5 1 0 none, .row 6 1 0 none], .row 1 (dRows (b.O.map bE)), .row 1 (dRows (b.P.map bE))]) (fun s => ps.length - s.i) ⟨0, ps, false⟩ ⟨Nat.zero_le _, (Pt.refl ps).congr fun t o _ => by simp [prS], rfl⟩ ?_ (fun s hs => ?_)
      · refine View.of 7 [0, 1, 2, 3, 4, 5, 6] [] rfl rfl rfl rfl rfl rfl ?_ ?_
        · repeat (first | exact .nil | refine .junk ?_ | refine .eq rfl ?_)
        · exact (.put (notF rfl) rfl (.eq rfl (by simp)) (.put (notF rfl) rfl (.rowDE rfl) (.put (notF rfl) rfl (.rowDE rfl) (.put (notF rfl) rfl (.rowDE rfl) (.put (notF rfl) rfl (.eq rfl (by simp)) (.put (notF rfl) rfl (.rowDE rfl) (.put (notF rfl) rfl (.rowDE rfl) (.nil _))))))))
      obtain ⟨p, L3, en⟩ := s
      obtain ⟨hp, hP3, hen⟩ := hs
      have hp : p ≤ ps.length := hp
      have hP3 : Pt ps L3 (prS L p) := hP3
      have hen : en = endsS L ps p := hen
      have hL3l := hP3.1
      refine bB_dec (fun h => ?_) (fun h => ?_)
      · have hplt : p < ps.length := len_lt h
        obtain ⟨hL3, hL3p⟩ := hP3.at hplt
        have hL3p : L3[p] = ps[p] := by rw [hL3p]; simp [prS]
        have hno : ∀ t, t ≠ p → decide (t < p + 1) = decide (t < p) := fun t ht => decide_eq_decide.2 (by omega)
        have hens := endsS_succ (L := L) hplt
        have hskip : endP L p ps[p] = false → Pt ps L3 (prS L (p + 1)) ∧ en = endsS L ps (p + 1) := fun hf => ⟨hP3.congr fun t o hto => by
          by_cases htp : t = p
          · subst htp
            rw [List.getElem?_eq_getElem hplt] at hto
            cases hto
            simp [prS, hf]
          · unfold prS; rw [hno t htp], by rw [hens, hf, hen]; simp⟩
        refine contBorrow L L2 L3 b p (by omega) ?_
        refine bB_dec (fun hp0 => ?_) (fun hp0 => ?_)
        · have hp0 : 0 < p := by
            have h : (p : Int) > 0 := hp0
            omega
          refine ok_some (pr_idx hL3) ?_
          refine ok_some (dRows_nth' Prc.enc L3 hL3) ?_
          refine bB_split (fun hlv => ?_) (fun hlv => ?_)
          · refine bB_split (fun han => ?_) (fun han => ?_)
            · refine ok_some (pr_idx hL3) ?_
              refine ok_some (dRows_nth' Prc.enc L3 hL3) ?_
              refine ⟨trivial, ?_⟩
              have he : endP L p ps[p] = true := by
                rw [hL3p] at hlv
                unfold endP
                rw [hlv, han]
                simp [hp0]
              have hs := hP3.set (j := p) (x := zeroP) (g := prS L (p + 1)) (fun o hto => by
                rw [List.getElem?_eq_getElem hplt] at hto
                cases hto
                simp [prS, he]) (fun t o htp _ => by unfold prS; rw [hno t htp])
              refine ⟨⟨p + 1, L3.set p zeroP, true⟩, ⟨hplt, hs, (by rw [hens, he]; simp)⟩, (show ps.length - (p + 1) < ps.length - p by omega), View.of 8 [0, 1, 2, 3, 4, 5, 6] [] rfl rfl rfl rfl rfl rfl ?_ ?_⟩
              · repeat (first | exact .nil | refine .junk ?_ | refine .put (.ren (next_i64 (by omega)).symm) ?_ | refine .eq rfl ?_)
              · exact (.put (notF rfl) rfl (.eq rfl (by simp)) (.put (notF rfl) rfl (.rowDE rfl) (.put (notF rfl) rfl (.rowDE rfl) (.put (notF rfl) rfl (rowZP L3 p) (.put (notF rfl) rfl (.eq rfl (by simp)) (.put (notF rfl) rfl (.rowDE rfl) (.put (notF rfl) rfl (.rowDE rfl) (.nil _))))))))
            · skip
              refine ⟨⟨p + 1, L3, en⟩, ⟨hplt, (hskip (by unfold endP; rw [han]; simp)).1, (hskip (by unfold endP; rw [han]; simp)).2⟩, (show ps.length - (p + 1) < ps.length - p by omega), View.of 8 [0, 1, 2, 3, 4, 5, 6] [] rfl rfl rfl rfl rfl rfl ?_ ?_⟩
              · repeat (first | exact .nil | refine .junk ?_ | refine .put (.ren (next_i64 (by omega)).symm) ?_ | refine .eq rfl ?_)
              · exact (.put (notF rfl) rfl (.eq rfl (by simp)) (.put (notF rfl) rfl (.rowDE rfl) (.put (notF rfl) rfl (.rowDE rfl) (.put (notF rfl) rfl (.rowDE rfl) (.put (notF rfl) rfl (.eq rfl (by simp)) (.put (notF rfl) rfl (.rowDE rfl) (.put (notF rfl) rfl (.rowDE rfl) (.nil _))))))))
          · rw [hL3p] at hlv
            refine ⟨⟨p + 1, L3, en⟩, ⟨hplt, (hskip (by unfold endP; rw [hlv]; simp)).1, (hskip (by unfold endP; rw [hlv]; simp)).2⟩, (show ps.length - (p + 1) < ps.length - p by omega), View.of 8 [0, 1, 2, 3, 4, 5, 6] [] rfl rfl rfl rfl rfl rfl ?_ ?_⟩
            · repeat (first | exact .nil | refine .junk ?_ | refine .put (.ren (next_i64 (by omega)).symm) ?_ | refine .eq rfl ?_)
            · exact (.put (notF rfl) rfl (.eq rfl (by simp)) (.put (notF rfl) rfl (.rowDE rfl) (.put (notF rfl) rfl (.rowDE rfl) (.put (notF rfl) rfl (.rowDE rfl) (.put (notF rfl) rfl (.eq rfl (by simp)) (.put (notF rfl) rfl (.rowDE rfl) (.put (notF rfl) rfl (.rowDE rfl) (.nil _))))))))
        · have hp0 : p = 0 := by
            have h : ¬ (p : Int) > 0 := hp0
            omega
          refine ⟨⟨p + 1, L3, en⟩, ⟨hplt, (hskip (by simp [endP, hp0])).1, (hskip (by simp [endP, hp0])).2⟩, (show ps.length - (p + 1) < ps.length - p by omega), View.of 8 [0, 1, 2, 3, 4, 5, 6] [] rfl rfl rfl rfl rfl rfl ?_ ?_⟩
          · repeat (first | exact .nil | refine .junk ?_ | refine .put (.ren (next_i64 (by omega)).symm) ?_ | refine .eq rfl ?_)
          · exact (.put (notF rfl) rfl (.eq rfl (by simp)) (.put (notF rfl) rfl (.rowDE rfl) (.put (notF rfl) rfl (.rowDE rfl) (.put (notF rfl) rfl (.rowDE rfl) (.put (notF rfl) rfl (.eq rfl (by simp)) (.put (notF rfl) rfl (.rowDE rfl) (.put (notF rfl) rfl (.rowDE rfl) (.nil _))))))))
      · have h9 : ps.length ≤ p := len_ge h
        have hpe : p = ps.length := by omega
        subst hpe
        refine ⟨vBool en, _, View.of 7 [0, 1, 2, 3] [] rfl rfl rfl rfl rfl rfl (.eq rfl .nil) (.put (notF rfl) rfl (.eq rfl (by simp)) (.put (notF rfl) rfl (.rowDE rfl) (.put (notF rfl) rfl (.rowDE rfl) (.put (notF rfl) rfl (.rowDE rfl) (.nil _))))), L, L2, L3, en, ⟨⟨b, hb, hPt, hP2⟩, hP3, hen⟩, rfl, rfl⟩

set_option maxRecDepth 100000 in
theorem once_ok (l : List Obj) (ops : List Opn) (ps : List Prc) (g : ∀ o, o ∈ l → o.sm) (hl : l.length ≤ 4194304) (ho : ops.length ≤ 4194304) (hpl : ps.length ≤ 4194304) (hps : ∀ p, p ∈ ps → p.slots.length ≤ 10) :
    ACall Try.prog 45 [.rv (.one (.ptr 0 0))] [.var [.row 1 9 0 none, .row 2 2 0 none, .row 3 4 0 none], .row 9 (dRows (l.map Obj.enc)), .row 2 (dRows (ops.map Opn.enc)), .row 4 (dRows (ps.map Prc.enc))]
      (fun r m => ∃ L L2 L3 en, OnceOK l ops ps L L2 L3 en ∧ r = vBool en ∧ m = [.var [.row 1 9 0 none, .row 2 2 0 none, .row 3 4 0 none], .row 9 (dRows (L.map Obj.enc)), .row 2 (dRows (L2.map Opn.enc)), .row 4 (dRows (L3.map Prc.enc))]) :=
  acall_view (acall_body Try.func45 l45 rfl (Nat.le_of_ble_eq_true rfl) (once_body l ops ps g hl ho hpl hps)) fun r m1 h => h

/-! sweep.Sweep: once and again; what stays as it must be -/
structure KrOK (l : List Obj) (ops : List Opn) (ps : List Prc) : Prop where
  sm : ∀ o, o ∈ l → o.sm
  ll : l.length ≤ 4194304
  lo : ops.length ≤ 4194304
  lp : ps.length ≤ 4194304
  sl : ∀ p, p ∈ ps → p.slots.length ≤ 10
  ne : ps ≠ []
theorem zeroO_sm : zeroO.sm := ⟨⟨⟨[], rfl⟩, ⟨[], rfl⟩, fun q hq => by simp [zeroO] at hq⟩, by simp [zeroO], by simp [zeroO], by simp [zeroO], fun q hq => by simp [zeroO] at hq⟩
theorem Pt.all {α : Type} {l L : List α} {f : Nat → α → α} (h : Pt l L f) {Q : α → Prop} (hf : ∀ (t : Nat) o, l[t]? = some o → Q (f t o)) : ∀ x, x ∈ L → Q x := by
  intro x hx
  obtain ⟨t, ht⟩ := List.getElem?_of_mem hx
  have hlt : t < l.length := by have := (List.getElem?_eq_some_iff.1 ht).1; rw [h.1] at this; exact this
  have := h.2 t l[t] (List.getElem?_eq_getElem hlt)
  rw [ht] at this
  cases this
  exact hf t _ (List.getElem?_eq_getElem hlt)
theorem OnceOK.kr {l : List Obj} {ops : List Opn} {ps : List Prc} {L : List Obj} {L2 : List Opn} {L3 : List Prc} {en : Bool} (h : OnceOK l ops ps L L2 L3 en) (k : KrOK l ops ps) : KrOK L L2 L3 := by
  obtain ⟨b, hb, hP, hP2⟩ := h.ex
  refine ⟨hP.all fun t o ho => ?_, by rw [hP.1]; exact k.ll, by rw [hP2.1]; exact k.lo, by rw [h.pr.1]; exact k.lp, h.pr.all (Q := fun p => p.slots.length ≤ 10) fun t o ho => ?_, fun e => k.ne (List.eq_nil_of_length_eq_zero (by rw [← h.pr.1, e]; rfl))⟩
  · have hs := k.sm o (List.mem_of_getElem? ho)
    unfold onceAt
    split
    · exact zeroO_sm
    · split
      · exact ⟨⟨hs.t.1, hs.t.2.1, hs.t.2.2⟩, hs.d, hs.e, hs.q, hs.qd⟩
      · exact hs
  · unfold prS
    split
    · simp [zeroP]
    · exact k.sl o (List.mem_of_getElem? ho)
def lives (ps : List Prc) : Nat := (ps.filter fun p => p.live).length
theorem lives_le : ∀ (a b : List Prc), b.length = a.length → (∀ (t : Nat) x y, a[t]? = some x → b[t]? = some y → y.live = true → x.live = true) → lives b ≤ lives a ∧ ((∃ (t : Nat) (x y : Prc), a[t]? = some x ∧ b[t]? = some y ∧ x.live = true ∧ y.live = false) → lives b < lives a)
  | [], [], _, _ => ⟨Nat.le_refl _, fun ⟨t, x, y, h, _⟩ => by simp at h⟩
  | [], _ :: _, h, _ => by simp at h
  | _ :: _, [], h, _ => by simp at h
  | x :: a, y :: b, h, hm => by
    obtain ⟨ih1, ih2⟩ := lives_le a b (by simpa using h) (fun t u v hu hv => hm (t + 1) u v (by simpa using hu) (by simpa using hv))
    have h0 := hm 0 x y (by simp) (by simp)
    refine ⟨?_, fun ⟨t, u, v, hu, hv, hul, hvl⟩ => ?_⟩
    · unfold lives at ih1 ⊢
      cases hx : x.live <;> cases hy : y.live <;> simp [hx, hy] at h0 ⊢ <;> omega
    · cases t with
      | zero =>
        simp at hu hv
        subst hu hv
        unfold lives at ih1 ⊢
        simp [hul, hvl]
        omega
      | succ t =>
        have := ih2 ⟨t, u, v, by simpa using hu, by simpa using hv, hul, hvl⟩
        unfold lives at this ⊢
        cases hx : x.live <;> cases hy : y.live <;> simp [hx, hy] at h0 ⊢ <;> omega
theorem OnceOK.lives {l : List Obj} {ops : List Opn} {ps : List Prc} {L : List Obj} {L2 : List Opn} {L3 : List Prc} (h : OnceOK l ops ps L L2 L3 true) : lives L3 < Go.Proofs.Ytjofmgkcllffnaa.lives ps := by
  have hen := h.en
  unfold endsS at hen
  have hen := hen.symm
  rw [List.any_eq_true] at hen
  obtain ⟨t, ht, hte⟩ := hen
  have htl : t < ps.length := by simpa using ht
  rw [List.getElem?_eq_getElem htl] at hte
  have hte : endP L t ps[t] = true := hte
  refine (lives_le ps L3 h.pr.1 (fun i x y hx hy hl => ?_)).2 ⟨t, ps[t], zeroP, List.getElem?_eq_getElem htl, ?_, ?_, rfl⟩
  · have := h.pr.2 i x hx
    rw [hy] at this
    cases this
    unfold prS at hl
    split at hl
    · simp [zeroP] at hl
    · exact hl
  · have := h.pr.2 t _ (List.getElem?_eq_getElem htl)
    rw [this]
    simp [prS, hte, htl]
  · unfold endP at hte
    simp at hte
    exact hte.2.1
structure Kr where
  l : List Obj
  ops : List Opn
  ps : List Prc
/-- swept so often, a process ended by it each time -/
inductive SwTo (k : Kr) : Kr → Prop
  | refl : SwTo k k
  | step {a b : Kr} (h : SwTo k a) (ho : OnceOK a.l a.ops a.ps b.l b.ops b.ps true) : SwTo k b
theorem vwEq {σ : Nat → Nat} {m : Mem} {Z : Nat → Prop} {p : Option Nat} {a b : Dt} (h : a = b) : VwC σ m Z p (.dat a) (.dat b) := h ▸ .ren (.dat a)
set_option maxRecDepth 100000 in
theorem onceBorrow (a : Kr) (ha : KrOK a.l a.ops a.ps) {K : CV → Mem → Prop} (x0 : Bk)
    (h : ∀ (c : Kr) en, OnceOK a.l a.ops a.ps c.l c.ops c.ps en → K (vBool en) [x0, .var z3, .var [.row 3 9 0 none, .row 4 2 0 none, .row 5 4 0 none], .row 9 (dRows (c.l.map Obj.enc)), .row 2 (dRows (c.ops.map Opn.enc)), .row 4 (dRows (c.ps.map Prc.enc))]) :
    ACall Try.prog 45 [.rv (.one (.ptr 2 0))] [x0, .var z3, .var [.row 3 9 0 none, .row 4 2 0 none, .row 5 4 0 none], .row 9 (dRows (a.l.map Obj.enc)), .row 2 (dRows (a.ops.map Opn.enc)), .row 4 (dRows (a.ps.map Prc.enc))] K := by
  refine acall_borrow [2, 3, 4, 5] 6 rfl rfl rfl rfl (args0 := [.rv (.one (.ptr 0 0))]) rfl (fun i b' hi => ?_) (once_ok a.l a.ops a.ps ha.sm ha.ll ha.lo ha.lp ha.sl) (fun r m1 hr => ?_)
  · match i, hi with
    | 0, hi => cases hi; exact .inr ⟨fun h => h, _, rfl, .eq rfl (by simp)⟩
    | 1, hi => cases hi; exact .inr ⟨fun h => h, _, rfl, .rowDE rfl⟩
    | 2, hi => cases hi; exact .inr ⟨fun h => h, _, rfl, .rowDE rfl⟩
    | 3, hi => cases hi; exact .inr ⟨fun h => h, _, rfl, .rowDE rfl⟩
    | n + 4, hi => simp at hi
  · obtain ⟨L, L2, L3, en, ho, rfl, rfl⟩ := hr
    refine ⟨Nat.le_refl _, ?_⟩
    have e : ∀ (s : Nat) (ds : List (List Dt)), (Bk.row s (dRows ds)).ren (sg [2, 3, 4, 5] 6) = .row s (dRows ds) := fun s ds => by simp only [Bk.ren, dRows_ren]
    show K _ [x0, .var z3, .var [.row 3 9 0 none, .row 4 2 0 none, .row 5 4 0 none], (Bk.row 9 (dRows (L.map Obj.enc))).ren (sg [2, 3, 4, 5] 6), (Bk.row 2 (dRows (L2.map Opn.enc))).ren (sg [2, 3, 4, 5] 6), (Bk.row 4 (dRows (L3.map Prc.enc))).ren (sg [2, 3, 4, 5] 6)]
    rw [e, e, e]
    exact h ⟨L, L2, L3⟩ en ho

def c48 : LF := ⟨16, [.tmp 3], (.seq (.reg [
    ⟨(some 2), .box (.t 0), none⟩,
    ⟨(some 3), .mov (.c (.rv (.one (.dat (.val (.bool false)))))), none⟩]) (.seq (.reg [
    ⟨(some 4), .fadr 0 (.t 2), none⟩,
    ⟨(some 5), .load false 1 (.t 4), none⟩,
    ⟨(some 6), .bin .eql (.t 5) (.c (.rv (.one (.dat (.val (.int .i64 (5))))))), none⟩,
    ⟨(some 7), .mov (.t 6), none⟩,
    ⟨(some 8), .fadr 6 (.t 2), (some (7, true))⟩,
    ⟨(some 9), .load false 1 (.t 8), (some (7, true))⟩,
    ⟨(some 10), .fadr 2 (.t 1), (some (7, true))⟩,
    ⟨(some 11), .load false 1 (.t 10), (some (7, true))⟩,
    ⟨(some 12), .len 1 (.t 11), (some (7, true))⟩,
    ⟨(some 13), .bin .sub (.t 12) (.c (.rv (.one (.dat (.val (.int .i64 (1))))))), (some (7, true))⟩,
    ⟨(some 14), .bin .eql (.t 9) (.t 13), (some (7, true))⟩,
    ⟨(some 15), .pick (.t 7) (.t 14) (.c (.rv (.one (.dat (.val (.bool false)))))), none⟩,
    ⟨(some 3), .mov (.t 15), none⟩]) .ret))⟩
/-! the search over data, with a cell that the closure looks at; Sweep's other closure -/
theorem l48 : lowF Try.prog Try.f48 = some c48 := by kernel_rfl
set_option maxRecDepth 100000 in
set_option maxHeartbeats 8000000 in
theorem idxDc_body (l : List Obj) (hb : l.length ≤ 4194304) (F : Nat) (cs : List Dt) (q : Obj → Bool) (hF : ∀ s, ∀ K : CV → Mem → Prop, K (vBool (q s)) [.var (cs.map .dat)] → ACall Try.prog F [s.cv, .rv (.one (.ptr 0 0))] [.var (cs.map .dat)] K) :
    body Try.prog c53 [objsV l, .rv (.one (.fn F [0]))] [.var (cs.map .dat)] (fun r m => r = vInt .i64 (idxG q l) ∧ m = [.var (cs.map .dat)]) := by
  refine loop_keep (fun k => k ≤ l.length ∧ ∀ (j : Nat) s, j < k → l[j]? = some s → q s = false) [0, 1, 7] (fun k => [(8, vInt .i64 (k : Nat))]) (fun _ => [.var (cs.map .dat)]) (fun k => l.length - k) 0 ⟨Nat.zero_le _, fun j s h => absurd h (Nat.not_lt_zero j)⟩ ?_ (fun k hk => ?_)
  · refine View.of 1 [0] [] rfl rfl rfl rfl rfl rfl ?_ ?_
    · repeat (first | exact .nil | refine .junk ?_ | refine .eq rfl ?_)
    · exact .put (notF rfl) rfl (.varDE rfl) (.nil _)
  · refine bB_dec (fun h => ?_) (fun h => ?_)
    · have hlt : k < l.length := by
        have h : (k : Int) < ((l.map Obj.enc).length : Int) := h
        rw [List.length_map] at h
        omega
      refine ok_some (obj_get hlt) ?_
      have hi := List.getElem?_eq_getElem hlt
      have hfd := idxG_found (q := q) hlt
      generalize l[k] = o at hi hfd
      refine hF o _ ?_
      refine bB_split (fun hq1 => ?_) (fun hq1 => ?_)
      · rw [hfd hq1 hk.2]
        exact ⟨rfl, rfl⟩
      · refine ⟨k + 1, ⟨hlt, fun j s hj hs => ?_⟩, (show l.length - (k + 1) < l.length - k by omega), View.of 1 [0] [] rfl rfl rfl rfl rfl rfl ?_ ?_⟩
        · rcases Nat.lt_or_ge j k with h5 | h5
          · exact hk.2 j s h5 hs
          · have : j = k := by omega
            subst this
            rw [hi] at hs
            cases hs
            exact hq1
        · repeat (first | exact .nil | refine .junk ?_ | refine .put (.ren (next_i64 (by omega)).symm) ?_ | refine .eq rfl ?_)
        · exact .put (notF rfl) rfl (.varDE rfl) (.nil _)
    · have hge : ¬ (k : Int) < ((l.map Obj.enc).length : Int) := h
      rw [List.length_map] at hge
      rw [idxG_none fun j s hs => hk.2 j s (by have := (List.getElem?_eq_some_iff.1 hs).1; omega) hs]
      exact ⟨rfl, rfl⟩
set_option maxRecDepth 100000 in
theorem contDc_body (l : List Obj) (hb : l.length ≤ 4194304) (F : Nat) (cs : List Dt) (q : Obj → Bool) (hF : ∀ s, ∀ K : CV → Mem → Prop, K (vBool (q s)) [.var (cs.map .dat)] → ACall Try.prog F [s.cv, .rv (.one (.ptr 0 0))] [.var (cs.map .dat)] K) :
    body Try.prog c46 [objsV l, .rv (.one (.fn F [0]))] [.var (cs.map .dat)] (fun r m => r = vBool (l.any q) ∧ m = [.var (cs.map .dat)]) := by
  refine (acall_body Try.func53 l53 rfl (Nat.le_of_ble_eq_true rfl) (idxDc_body l hb F cs q hF)).mono fun r m ⟨hr, hm⟩ => ?_
  subst hr hm
  refine ⟨?_, rfl⟩
  show vBool _ = vBool _
  rw [← idxG_any]
theorem contDc_ok (l : List Obj) (hb : l.length ≤ 4194304) (F : Nat) (cs : List Dt) (q : Obj → Bool) (hF : ∀ s, ∀ K : CV → Mem → Prop, K (vBool (q s)) [.var (cs.map .dat)] → ACall Try.prog F [s.cv, .rv (.one (.ptr 0 0))] [.var (cs.map .dat)] K) (K : CV → Mem → Prop) (h : K (vBool (l.any q)) [.var (cs.map .dat)]) :
    ACall Try.prog 46 [objsV l, .rv (.one (.fn F [0]))] [.var (cs.map .dat)] K :=
  (acall_body Try.func46 l46 rfl (Nat.le_of_ble_eq_true rfl) (contDc_body l hb F cs q hF)).mono fun r m ⟨hr, hm⟩ => by subst hr hm; exact h

def c11 : LF := ⟨26, [.tmp 4], (.seq (.reg [
    ⟨(some 4), .mov (.c (.rv (.one (.dat (.val (.bool false)))))), none⟩]) (.seq (.seq (.reg [
    ⟨(some 6), .mov (.t 0), none⟩,
    ⟨(some 7), .len 1 (.t 6), none⟩,
    ⟨(some 8), .mov (.t 1), none⟩,
    ⟨(some 9), .len 1 (.t 8), none⟩,
    ⟨(some 10), .bin .neq (.t 7) (.t 9), none⟩]) (.cond (.t 10) (.seq (.reg [
    ⟨(some 4), .mov (.c (.rv (.one (.dat (.val (.bool false)))))), none⟩]) .ret) .skip)) (.seq (.seq (.reg [
    ⟨(some 11), .mov (.t 0), none⟩,
    ⟨(some 12), .len 1 (.t 11), none⟩,
    ⟨(some 13), .mov (.c (.rv (.one (.dat (.val (.int .i64 (0))))))), none⟩]) (.block 0 (.loop (.seq (.reg [
    ⟨(some 14), .bin .lss (.t 13) (.t 12), none⟩]) (.seq (.cond (.t 14) .skip (.exit 0)) (.seq (.block 1 (.seq (.reg [
    ⟨(some 15), .mov (.t 13), none⟩,
    ⟨(some 5), .mov (.t 15), none⟩]) (.seq (.draw [
    ⟨(some 16), .mov (.t 0), none⟩,
    ⟨(some 17), .mov (.t 5), none⟩,
    ⟨(some 18), .idx 3 (.t 16) (.t 17), none⟩,
    ⟨(some 19), .load true 3 (.t 18), none⟩,
    ⟨(some 20), .mov (.t 1), none⟩,
    ⟨(some 21), .mov (.t 5), none⟩,
    ⟨(some 22), .idx 3 (.t 20) (.t 21), none⟩,
    ⟨(some 23), .load true 3 (.t 22), none⟩,
    ⟨(some 24), .eqa true [.b, .i, .i] (.t 19) (.t 23), none⟩]
    [(.cons 0 none (.cons 1 none (.cons 2 none (.cons 3 none (.cons 4 none (.cons 5 none (.cons 6 none (.cons 7 none (.cons 8 none .nil)))))))))]) (.cond (.t 24) (.seq (.reg [
    ⟨(some 4), .mov (.c (.rv (.one (.dat (.val (.bool false)))))), none⟩]) .ret) .skip)))) (.reg [
    ⟨(some 25), .bin .add (.t 13) (.c (.rv (.one (.dat (.val (.int .i64 (1))))))), none⟩,
    ⟨(some 13), .mov (.t 25), none⟩]))))))) (.seq (.reg [
    ⟨(some 4), .mov (.c (.rv (.one (.dat (.val (.bool true)))))), none⟩]) .ret))))⟩
def c21 : LF := ⟨95, [.tmp 4], (.seq (.reg [
    ⟨(some 2), .box (.t 0), none⟩,
    ⟨(some 3), .box (.t 1), none⟩,
    ⟨(some 4), .mov (.c (.rv (.one (.dat (.val (.bool false)))))), none⟩]) (.seq (.seq (.reg [
    ⟨(some 9), .fadr 0 (.t 2), none⟩,
    ⟨(some 10), .load false 1 (.t 9), none⟩,
    ⟨(some 11), .fadr 0 (.t 3), none⟩,
    ⟨(some 12), .load false 1 (.t 11), none⟩,
    ⟨(some 13), .call (.c (.rv (.one (.fn 17 [])))) [(.t 10), (.t 12)], none⟩,
    ⟨(some 14), .un .not (.t 13), none⟩,
    ⟨(some 15), .mov (.t 14), none⟩,
    ⟨(some 16), .fadr 1 (.t 2), (some (15, false))⟩,
    ⟨(some 17), .load false 1 (.t 16), (some (15, false))⟩,
    ⟨(some 18), .len 1 (.t 17), (some (15, false))⟩,
    ⟨(some 19), .fadr 1 (.t 3), (some (15, false))⟩,
    ⟨(some 20), .load false 1 (.t 19), (some (15, false))⟩,
    ⟨(some 21), .len 1 (.t 20), (some (15, false))⟩,
    ⟨(some 22), .bin .neq (.t 18) (.t 21), (some (15, false))⟩,
    ⟨(some 23), .pick (.t 15) (.c (.rv (.one (.dat (.val (.bool true)))))) (.t 22), none⟩,
    ⟨(some 24), .mov (.t 23), none⟩,
    ⟨(some 25), .fadr 2 (.t 2), (some (24, false))⟩,
    ⟨(some 26), .load false 1 (.t 25), (some (24, false))⟩,
    ⟨(some 27), .len 1 (.t 26), (some (24, false))⟩,
    ⟨(some 28), .fadr 2 (.t 3), (some (24, false))⟩,
    ⟨(some 29), .load false 1 (.t 28), (some (24, false))⟩,
    ⟨(some 30), .len 1 (.t 29), (some (24, false))⟩,
    ⟨(some 31), .bin .neq (.t 27) (.t 30), (some (24, false))⟩,
    ⟨(some 32), .pick (.t 24) (.c (.rv (.one (.dat (.val (.bool true)))))) (.t 31), none⟩]) (.cond (.t 32) (.seq (.reg [
    ⟨(some 4), .mov (.c (.rv (.one (.dat (.val (.bool false)))))), none⟩]) .ret) .skip)) (.seq (.seq (.reg [
    ⟨(some 33), .fadr 1 (.t 2), none⟩,
    ⟨(some 34), .load false 1 (.t 33), none⟩,
    ⟨(some 35), .len 1 (.t 34), none⟩,
    ⟨(some 36), .mov (.c (.rv (.one (.dat (.val (.int .i64 (0))))))), none⟩]) (.block 0 (.loop (.seq (.reg [
    ⟨(some 37), .bin .lss (.t 36) (.t 35), none⟩]) (.seq (.cond (.t 37) .skip (.exit 0)) (.seq (.block 1 (.seq (.reg [
    ⟨(some 38), .mov (.t 36), none⟩,
    ⟨(some 5), .mov (.t 38), none⟩]) (.seq (.draw [
    ⟨(some 39), .fadr 1 (.t 2), none⟩,
    ⟨(some 40), .load false 1 (.t 39), none⟩,
    ⟨(some 41), .mov (.t 5), none⟩,
    ⟨(some 42), .idx 2 (.t 40) (.t 41), none⟩,
    ⟨(some 43), .load true 2 (.t 42), none⟩,
    ⟨(some 44), .fadr 1 (.t 3), none⟩,
    ⟨(some 45), .load false 1 (.t 44), none⟩,
    ⟨(some 46), .mov (.t 5), none⟩,
    ⟨(some 47), .idx 2 (.t 45) (.t 46), none⟩,
    ⟨(some 48), .load true 2 (.t 47), none⟩,
    ⟨(some 49), .eqa true [.i, .i] (.t 43) (.t 48), none⟩]
    [(.cons 0 none (.cons 1 none (.cons 2 none (.cons 3 none (.cons 4 none (.cons 5 none (.cons 6 none (.cons 7 none (.cons 8 none (.cons 9 none (.cons 10 none .nil)))))))))))]) (.cond (.t 49) (.seq (.reg [
    ⟨(some 4), .mov (.c (.rv (.one (.dat (.val (.bool false)))))), none⟩]) .ret) .skip)))) (.reg [
    ⟨(some 50), .bin .add (.t 36) (.c (.rv (.one (.dat (.val (.int .i64 (1))))))), none⟩,
    ⟨(some 36), .mov (.t 50), none⟩]))))))) (.seq (.seq (.reg [
    ⟨(some 51), .fadr 2 (.t 2), none⟩,
    ⟨(some 52), .load false 1 (.t 51), none⟩,
    ⟨(some 53), .len 1 (.t 52), none⟩,
    ⟨(some 54), .mov (.c (.rv (.one (.dat (.val (.int .i64 (0))))))), none⟩]) (.block 2 (.loop (.seq (.reg [
    ⟨(some 55), .bin .lss (.t 54) (.t 53), none⟩]) (.seq (.cond (.t 55) .skip (.exit 2)) (.seq (.block 3 (.seq (.reg [
    ⟨(some 56), .mov (.t 54), none⟩,
    ⟨(some 6), .mov (.t 56), none⟩]) (.seq (.draw [
    ⟨(some 57), .fadr 2 (.t 2), none⟩,
    ⟨(some 58), .load false 1 (.t 57), none⟩,
    ⟨(some 59), .mov (.t 6), none⟩,
    ⟨(some 60), .idx 4 (.t 58) (.t 59), none⟩,
    ⟨(some 61), .load true 4 (.t 60), none⟩,
    ⟨(some 62), .fadr 2 (.t 3), none⟩,
    ⟨(some 63), .load false 1 (.t 62), none⟩,
    ⟨(some 64), .mov (.t 6), none⟩,
    ⟨(some 65), .idx 4 (.t 63) (.t 64), none⟩,
    ⟨(some 66), .load true 4 (.t 65), none⟩,
    ⟨(some 7), .alloc [(.dat (.val (.bool false))), (.dat (.val (.bool false))), (.dat (.val (.int .i64 (0)))), .esl], none⟩,
    ⟨(some 8), .alloc [(.dat (.val (.bool false))), (.dat (.val (.bool false))), (.dat (.val (.int .i64 (0)))), .esl], none⟩,
    ⟨none, .store 4 (.t 7) (.t 61), none⟩,
    ⟨none, .store 4 (.t 8) (.t 66), none⟩]
    [(.cons 0 none (.cons 1 none (.cons 2 none (.cons 3 none (.cons 4 none (.cons 5 none (.cons 6 none (.cons 7 none (.cons 8 none (.cons 9 none (.alt (.cons 10 (some [9, 8, 6, 4, 3, 1]) (.cons 11 (some [9, 8, 6, 4, 3, 1]) (.cons 12 (some [9, 8, 6]) (.cons 13 (some []) .nil)))) (.cons 11 (some [9, 8, 6, 4, 3, 1]) (.cons 10 (some [9, 8, 6, 4, 3, 1]) (.cons 12 (some [9, 8, 6]) (.cons 13 (some []) .nil)))))))))))))))]) (.seq (.reg [
    ⟨(some 67), .fadr 0 (.t 7), none⟩,
    ⟨(some 68), .load false 1 (.t 67), none⟩,
    ⟨(some 69), .fadr 0 (.t 8), none⟩,
    ⟨(some 70), .load false 1 (.t 69), none⟩,
    ⟨(some 71), .beq true (.t 68) (.t 70), none⟩,
    ⟨(some 72), .mov (.t 71), none⟩,
    ⟨(some 73), .fadr 1 (.t 7), (some (72, false))⟩,
    ⟨(some 74), .load false 1 (.t 73), (some (72, false))⟩,
    ⟨(some 75), .fadr 1 (.t 8), (some (72, false))⟩,
    ⟨(some 76), .load false 1 (.t 75), (some (72, false))⟩,
    ⟨(some 77), .beq true (.t 74) (.t 76), (some (72, false))⟩,
    ⟨(some 78), .pick (.t 72) (.c (.rv (.one (.dat (.val (.bool true)))))) (.t 77), none⟩,
    ⟨(some 79), .mov (.t 78), none⟩,
    ⟨(some 80), .fadr 2 (.t 7), (some (79, false))⟩,
    ⟨(some 81), .load false 1 (.t 80), (some (79, false))⟩,
    ⟨(some 82), .fadr 2 (.t 8), (some (79, false))⟩,
    ⟨(some 83), .load false 1 (.t 82), (some (79, false))⟩,
    ⟨(some 84), .bin .neq (.t 81) (.t 83), (some (79, false))⟩,
    ⟨(some 85), .pick (.t 79) (.c (.rv (.one (.dat (.val (.bool true)))))) (.t 84), none⟩,
    ⟨(some 86), .mov (.t 85), none⟩,
    ⟨(some 87), .fadr 3 (.t 7), (some (86, false))⟩,
    ⟨(some 88), .load false 1 (.t 87), (some (86, false))⟩,
    ⟨(some 89), .fadr 3 (.t 8), (some (86, false))⟩,
    ⟨(some 90), .load false 1 (.t 89), (some (86, false))⟩,
    ⟨(some 91), .call (.c (.rv (.one (.fn 11 [])))) [(.t 88), (.t 90)], (some (86, false))⟩,
    ⟨(some 92), .un .not (.t 91), (some (86, false))⟩,
    ⟨(some 93), .pick (.t 86) (.c (.rv (.one (.dat (.val (.bool true)))))) (.t 92), none⟩]) (.cond (.t 93) (.seq (.reg [
    ⟨(some 4), .mov (.c (.rv (.one (.dat (.val (.bool false)))))), none⟩]) .ret) .skip))))) (.reg [
    ⟨(some 94), .bin .add (.t 54) (.c (.rv (.one (.dat (.val (.int .i64 (1))))))), none⟩,
    ⟨(some 54), .mov (.t 94), none⟩]))))))) (.seq (.reg [
    ⟨(some 4), .mov (.c (.rv (.one (.dat (.val (.bool true)))))), none⟩]) .ret)))))⟩
/-! SameSlots, SameKernel: of what is the same they say yes -/
theorem l11 : lowF Try.prog Try.f11 = some c11 := by kernel_rfl
set_option maxRecDepth 100000 in
set_option maxHeartbeats 8000000 in
theorem ssame_body (d : List Sl3) (hd : d.length ≤ 4194304) : body Try.prog c11 [sl3V d, sl3V d] [] (fun r m => r = vBool true) := by
  refine bB_no (by simp) ?_
  refine loop_keep (fun k => k ≤ d.length) [0, 1, 12] (fun k => [(13, vInt .i64 (k : Nat))]) (fun _ => []) (fun k => d.length - k) 0 (Nat.zero_le _) ?_ (fun k hk => ?_)
  · refine View.of 0 [] [] rfl rfl rfl rfl rfl rfl ?_ (.nil _)
    repeat (first | exact .nil | refine .junk ?_ | refine .eq rfl ?_)
  have hk : k ≤ d.length := hk
  refine bB_dec (fun h => ?_) (fun h => ?_)
  · have hlt : k < d.length := by
      have h : (k : Int) < ((d.map Sl3.enc).length : Int) := h
      rw [List.length_map] at h
      omega
    refine ok_some (sl3_get hlt) ?_
    refine ok_some (sl3_get hlt) ?_
    refine bB_no (by simp) ?_
    refine ⟨k + 1, hlt, (show d.length - (k + 1) < d.length - k by omega), View.of 0 [] [] rfl rfl rfl rfl rfl rfl ?_ (.nil _)⟩
    repeat (first | exact .nil | refine .junk ?_ | refine .put (.ren (next_i64 (by omega)).symm) ?_ | refine .eq rfl ?_)
  · exact rfl
set_option maxRecDepth 100000 in
theorem ssame_ok (d : List Sl3) (hd : d.length ≤ 4194304) {m : Mem} {K : CV → Mem → Prop} (h : K (vBool true) m) : ACall Try.prog 11 [sl3V d, sl3V d] m K :=
  acall_val Try.func11 l11 rfl (Nat.le_of_ble_eq_true rfl) (ssame_body d hd) rfl rfl h
theorem l21 : lowF Try.prog Try.f21 = some c21 := by kernel_rfl
theorem opn_get {l : List Opn} {k : Nat} (h : k < l.length) : getZ (l.map Opn.enc) (k : Nat) = some [.val (.int .i64 l[k].obj), .val (.int .i64 l[k].at')] := by
  rw [getZ_nat, List.getElem?_map, List.getElem?_eq_getElem h]; rfl
set_option maxRecDepth 100000 in
set_option maxHeartbeats 32000000 in
theorem ksame_body (k : Kr) (hk : KrOK k.l k.ops k.ps) : body Try.prog c21 [kernV k.l k.ops k.ps, kernV k.l k.ops k.ps] [] (fun r m => r = vBool true) := by
  obtain ⟨l, ops, ps⟩ := k
  have hk : KrOK l ops ps := hk
  have h1 := hk.lo
  have h2 := hk.lp
  refine sames_ok l ⟨hk.ll, fun o ho => (hk.sm o ho).fit⟩ (fun o ho => (hk.sm o ho).t) ?_
  refine bB_no (by simp) ?_
  refine bB_no (by simp) ?_
  refine loop_keep (fun j => j ≤ ops.length) [2, 3, 35] (fun j => [(36, vInt .i64 (j : Nat))]) (fun _ => [.var [.dat (objsD l), .dat (opnD ops), .dat (prcD ps)], .var [.dat (objsD l), .dat (opnD ops), .dat (prcD ps)]]) (fun j => ops.length - j) 0 (Nat.zero_le _) ?_ (fun j hj => ?_)
  · refine View.of 2 [0, 1] [] rfl rfl rfl rfl rfl rfl ?_ ?_
    · repeat (first | exact .nil | refine .junk ?_ | refine .eq rfl ?_)
    · exact .put (notF rfl) rfl (.eq rfl (by simp)) (.put (notF rfl) rfl (.eq rfl (by simp)) (.nil _))
  have hj : j ≤ ops.length := hj
  refine bB_dec (fun h => ?_) (fun h => ?_)
  · have hjlt : j < ops.length := by
      have h : (j : Int) < ((ops.map Opn.enc).length : Int) := h
      rw [List.length_map] at h
      omega
    refine ok_some (opn_get hjlt) ?_
    refine ok_some (opn_get hjlt) ?_
    refine bB_no (by simp) ?_
    refine ⟨j + 1, hjlt, (show ops.length - (j + 1) < ops.length - j by omega), View.of 2 [0, 1] [] rfl rfl rfl rfl rfl rfl ?_ ?_⟩
    · repeat (first | exact .nil | refine .junk ?_ | refine .put (.ren (next_i64 (by omega)).symm) ?_ | refine .eq rfl ?_)
    · exact .put (notF rfl) rfl (.eq rfl (by simp)) (.put (notF rfl) rfl (.eq rfl (by simp)) (.nil _))
  · refine loop_keep (fun p => p ≤ ps.length) [2, 3, 53] (fun p => [(54, vInt .i64 (p : Nat))]) (fun _ => [.var [.dat (objsD l), .dat (opnD ops), .dat (prcD ps)], .var [.dat (objsD l), .dat (opnD ops), .dat (prcD ps)]]) (fun p => ps.length - p) 0 (Nat.zero_le _) ?_ (fun p hp => ?_)
    · refine View.of 2 [0, 1] [] rfl rfl rfl rfl rfl rfl ?_ ?_
      · repeat (first | exact .nil | refine .junk ?_ | refine .eq rfl ?_)
      · exact .put (notF rfl) rfl (.eq rfl (by simp)) (.put (notF rfl) rfl (.eq rfl (by simp)) (.nil _))
    have hp : p ≤ ps.length := hp
    refine bB_dec (fun h => ?_) (fun h => ?_)
    · have hplt : p < ps.length := by
        have h : (p : Int) < ((ps.map Prc.enc).length : Int) := h
        rw [List.length_map] at h
        omega
      have hg := prc_get hplt
      have hsl := hk.sl _ (List.getElem_mem hplt)
      generalize ps[p] = x at hg hsl
      refine ok_some hg ?_
      refine ok_some hg ?_
      refine ⟨⟨⟨rfl, ok_some hg rfl, rfl, rfl, ok_some hg rfl, rfl, trivial⟩, ⟨rfl, ok_some hg rfl, rfl, rfl, ok_some hg rfl, rfl, trivial⟩, ⟨rfl, ok_some hg rfl, rfl, trivial⟩, trivial, ?_⟩,
        ⟨⟨rfl, ok_some hg rfl, rfl, rfl, ok_some hg rfl, rfl, trivial⟩, ⟨rfl, ok_some hg rfl, rfl, rfl, ok_some hg rfl, rfl, trivial⟩, ⟨rfl, ok_some hg rfl, rfl, trivial⟩, trivial, ?_⟩⟩
      · refine bB_no (by simp) ?_
        refine bB_no (by simp) ?_
        refine bB_no (by simp) ?_
        refine ssame_ok x.slots (by omega) ?_
        refine ⟨p + 1, hplt, (show ps.length - (p + 1) < ps.length - p by omega), View.of 4 [0, 1] [] rfl rfl rfl rfl rfl rfl ?_ ?_⟩
        · repeat (first | exact .nil | refine .junk ?_ | refine .put (.ren (next_i64 (by omega)).symm) ?_ | refine .eq rfl ?_)
        · exact .put (notF rfl) rfl (.eq rfl (by simp)) (.put (notF rfl) rfl (.eq rfl (by simp)) (.nil _))
      · refine bB_no (by simp) ?_
        refine bB_no (by simp) ?_
        refine bB_no (by simp) ?_
        refine ssame_ok x.slots (by omega) ?_
        refine ⟨p + 1, hplt, (show ps.length - (p + 1) < ps.length - p by omega), View.of 4 [0, 1] [] rfl rfl rfl rfl rfl rfl ?_ ?_⟩
        · repeat (first | exact .nil | refine .junk ?_ | refine .put (.ren (next_i64 (by omega)).symm) ?_ | refine .eq rfl ?_)
        · exact .put (notF rfl) rfl (.eq rfl (by simp)) (.put (notF rfl) rfl (.eq rfl (by simp)) (.nil _))
    · exact rfl
set_option maxRecDepth 100000 in
theorem ksame_ok (k : Kr) (hk : KrOK k.l k.ops k.ps) {m : Mem} {K : CV → Mem → Prop} (h : K (vBool true) m) : ACall Try.prog 21 [kernV k.l k.ops k.ps, kernV k.l k.ops k.ps] m K :=
  acall_val Try.func21 l21 rfl (Nat.le_of_ble_eq_true rfl) (ksame_body k hk) (by simp [kernV, objsD, opnD, prcD, CV.isD, CC.isD, RV.isD]) rfl h
inductive CcsFz (m : Mem) (Z : Nat → Prop) (p : Option Nat) : List CC → List Dt → Prop
  | nil : CcsFz m Z p [] []
  | cons {c : CC} {d : Dt} {r : List CC} {r' : List Dt} (h : FrzD m Z p c d) (hr : CcsFz m Z p r r') : CcsFz m Z p (c :: r) (d :: r')
theorem CcsFz.len {m : Mem} {Z : Nat → Prop} {p : Option Nat} {a : List CC} {b : List Dt} (h : CcsFz m Z p a b) : a.length = b.length := by induction h <;> simp [*]
theorem CcsFz.get {m : Mem} {Z : Nat → Prop} {p : Option Nat} {a : List CC} {b : List Dt} (h : CcsFz m Z p a b) : ∀ (i : Nat) c d, a[i]? = some c → b[i]? = some d → FrzD m Z p c d := by
  induction h with
  | nil => intro i c d h; simp at h
  | cons h hr ih =>
    intro i c d h1 h2
    cases i with
    | zero => simp at h1 h2; subst h1 h2; exact h
    | succ i => exact ih i c d (by simpa using h1) (by simpa using h2)
inductive RowsFz (m : Mem) (Z : Nat → Prop) (p : Option Nat) : List (List CC) → List (List Dt) → Prop
  | nil : RowsFz m Z p [] []
  | cons {c : List CC} {d : List Dt} {r : List (List CC)} {r' : List (List Dt)} (h : CcsFz m Z p c d) (hr : RowsFz m Z p r r') : RowsFz m Z p (c :: r) (d :: r')
theorem RowsFz.len {m : Mem} {Z : Nat → Prop} {p : Option Nat} {a : List (List CC)} {b : List (List Dt)} (h : RowsFz m Z p a b) : a.length = b.length := by induction h <;> simp [*]
theorem RowsFz.get {m : Mem} {Z : Nat → Prop} {p : Option Nat} {a : List (List CC)} {b : List (List Dt)} (h : RowsFz m Z p a b) : ∀ (i : Nat) c d, a[i]? = some c → b[i]? = some d → CcsFz m Z p c d := by
  induction h with
  | nil => intro i c d h; simp at h
  | cons h hr ih =>
    intro i c d h1 h2
    cases i with
    | zero => simp at h1 h2; subst h1 h2; exact h
    | succ i => exact ih i c d (by simpa using h1) (by simpa using h2)
theorem RowsFz.frz {m : Mem} {Z : Nat → Prop} {p : Option Nat} {id esz : Nat} {elems : List (List CC)} {ds : List (List Dt)} (h : RowsFz m Z (some id) elems ds) (hz : Z id) (hm : m[id]? = some (.row esz elems)) : FrzD m Z p (.row id esz 0 none) (.sl esz ds) :=
  FrzD.row id esz 0 none elems ds hz hm h.len (fun i cs es h1 h2 => (h.get i cs es h1 h2).len) (fun i cs es j c d h1 h2 h3 h4 => (h.get i cs es h1 h2).get j c d h3 h4)
theorem objFz {m : Mem} {Z : Nat → Prop} {p : Option Nat} (k lk : Int) : CcsFz m Z p [.dat (.val (.int .i64 k)), .esl, .esl, .dat (.val (.string ⟨#[]⟩)), .dat (.val (.int .i64 0)), .esl, .dat (.val (.int .i64 0)), .dat (.val (.int .i64 lk)), .dat (.val (.int .i64 0))] (Obj.enc ⟨k, [], [], ⟨#[]⟩, 0, [], 0, lk, 0⟩) :=
  .cons (.dat _) (.cons (.esl 1) (.cons (.esl 2) (.cons (.dat _) (.cons (.dat _) (.cons (.esl 4) (.cons (.dat _) (.cons (.dat _) (.cons (.dat _) .nil))))))))


end Go.Proofs.Ytjofmgkcllffnaa
