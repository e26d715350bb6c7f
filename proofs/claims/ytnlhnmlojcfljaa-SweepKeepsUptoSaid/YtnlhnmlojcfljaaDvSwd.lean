import Derived.Test.YtnlhnmlojcfljaaAmZ2
import Derived.Test.YtnlhnmlojcfljaaDvSwc
import Derived.Test.YtnlhnmlojcfljaaAmY
set_option linter.unusedVariables false
set_option linter.unusedSimpArgs false
namespace Go.Proofs.Ytnlhnmlojcfljaa
open Go.AM Go.ChangeShapes Go.WideShapes Go.ChangeAt Go.RowKit
/-! sweep.Sweep: once and again; what stays as it must be -/
structure KrOK (l : List Obj) (ops : List Opn) (ps : List Prc) : Prop where
  sm : ∀ o, o ∈ l → o.sm
  ll : l.length ≤ 4194304
  lo : ops.length ≤ 4194304
  lp : ps.length ≤ 4194304
  sl : ∀ p, p ∈ ps → p.slots.length ≤ 10
  ne : ps ≠ []
theorem zeroO_sm : zeroO.sm := ⟨⟨⟨[], rfl⟩, ⟨[], rfl⟩, fun q hq => by simp [zeroO] at hq⟩, by simp [zeroO], by simp [zeroO], by simp [zeroO], fun q hq => by simp [zeroO] at hq⟩
theorem Pt.all {α : Type} {l L : List α} {f : Nat → α → α} (h : Pt l L f) {Q : α → Prop} (hf : ∀ (t : Nat) o, l[t]? = some o → Q (f t o)) : ∀ x, x ∈ L → Q x := by
  intro x hx
  obtain ⟨t, ht⟩ := List.getElem?_of_mem hx
  have hlt : t < l.length := by have := (List.getElem?_eq_some_iff.1 ht).1; rw [h.1] at this; exact this
  have := h.2 t l[t] (List.getElem?_eq_getElem hlt)
  rw [ht] at this
  cases this
  exact hf t _ (List.getElem?_eq_getElem hlt)
theorem OnceOK.kr {l : List Obj} {ops : List Opn} {ps : List Prc} {L : List Obj} {L2 : List Opn} {L3 : List Prc} {en : Bool} (h : OnceOK l ops ps L L2 L3 en) (k : KrOK l ops ps) : KrOK L L2 L3 := by
  obtain ⟨b, hb, hP, hP2⟩ := h.ex
  refine ⟨hP.all fun t o ho => ?_, by rw [hP.1]; exact k.ll, by rw [hP2.1]; exact k.lo, by rw [h.pr.1]; exact k.lp, h.pr.all (Q := fun p => p.slots.length ≤ 10) fun t o ho => ?_, fun e => k.ne (List.eq_nil_of_length_eq_zero (by rw [← h.pr.1, e]; rfl))⟩
  · have hs := k.sm o (List.mem_of_getElem? ho)
    unfold onceAt
    split
    · exact zeroO_sm
    · split
      · exact ⟨⟨hs.t.1, hs.t.2.1, hs.t.2.2⟩, hs.d, hs.e, hs.q, hs.qd⟩
      · exact hs
  · unfold prS
    split
    · simp [zeroP]
    · exact k.sl o (List.mem_of_getElem? ho)
def lives (ps : List Prc) : Nat := (ps.filter fun p => p.live).length
theorem lives_le : ∀ (a b : List Prc), b.length = a.length → (∀ (t : Nat) x y, a[t]? = some x → b[t]? = some y → y.live = true → x.live = true) → lives b ≤ lives a ∧ ((∃ (t : Nat) (x y : Prc), a[t]? = some x ∧ b[t]? = some y ∧ x.live = true ∧ y.live = false) → lives b < lives a)
  | [], [], _, _ => ⟨Nat.le_refl _, fun ⟨t, x, y, h, _⟩ => by simp at h⟩
  | [], _ :: _, h, _ => by simp at h
  | _ :: _, [], h, _ => by simp at h
  | x :: a, y :: b, h, hm => by
    obtain ⟨ih1, ih2⟩ := lives_le a b (by simpa using h) (fun t u v hu hv => hm (t + 1) u v (by simpa using hu) (by simpa using hv))
    have h0 := hm 0 x y (by simp) (by simp)
    refine ⟨?_, fun ⟨t, u, v, hu, hv, hul, hvl⟩ => ?_⟩
    · unfold lives at ih1 ⊢
      cases hx : x.live <;> cases hy : y.live <;> simp [hx, hy] at h0 ⊢ <;> omega
    · cases t with
      | zero =>
        simp at hu hv
        subst hu hv
        unfold lives at ih1 ⊢
        simp [hul, hvl]
        omega
      | succ t =>
        have := ih2 ⟨t, u, v, by simpa using hu, by simpa using hv, hul, hvl⟩
        unfold lives at this ⊢
        cases hx : x.live <;> cases hy : y.live <;> simp [hx, hy] at h0 ⊢ <;> omega
theorem OnceOK.lives {l : List Obj} {ops : List Opn} {ps : List Prc} {L : List Obj} {L2 : List Opn} {L3 : List Prc} (h : OnceOK l ops ps L L2 L3 true) : lives L3 < Go.Proofs.Ytnlhnmlojcfljaa.lives ps := by
  have hen := h.en
  unfold endsS at hen
  have hen := hen.symm
  rw [List.any_eq_true] at hen
  obtain ⟨t, ht, hte⟩ := hen
  have htl : t < ps.length := by simpa using ht
  rw [List.getElem?_eq_getElem htl] at hte
  have hte : endP L t ps[t] = true := hte
  refine (lives_le ps L3 h.pr.1 (fun i x y hx hy hl => ?_)).2 ⟨t, ps[t], zeroP, List.getElem?_eq_getElem htl, ?_, ?_, rfl⟩
  · have := h.pr.2 i x hx
    rw [hy] at this
    cases this
    unfold prS at hl
    split at hl
    · simp [zeroP] at hl
    · exact hl
  · have := h.pr.2 t _ (List.getElem?_eq_getElem htl)
    rw [this]
    simp [prS, hte, htl]
  · unfold endP at hte
    simp at hte
    exact hte.2.1
structure Kr where
  l : List Obj
  ops : List Opn
  ps : List Prc
/-- swept so often, a process ended by it each time -/
inductive SwTo (k : Kr) : Kr → Prop
  | refl : SwTo k k
  | step {a b : Kr} (h : SwTo k a) (ho : OnceOK a.l a.ops a.ps b.l b.ops b.ps true) : SwTo k b
theorem vwEq {σ : Nat → Nat} {m : Mem} {Z : Nat → Prop} {p : Option Nat} {a b : Dt} (h : a = b) : VwC σ m Z p (.dat a) (.dat b) := h ▸ .ren (.dat a)
set_option maxRecDepth 100000 in
theorem onceBorrow (a : Kr) (ha : KrOK a.l a.ops a.ps) {K : CV → Mem → Prop} (x0 : Bk)
    (h : ∀ (c : Kr) en, OnceOK a.l a.ops a.ps c.l c.ops c.ps en → K (vBool en) [x0, .var z3, .var [.row 3 9 0 none, .row 4 2 0 none, .row 5 4 0 none], .row 9 (dRows (c.l.map Obj.enc)), .row 2 (dRows (c.ops.map Opn.enc)), .row 4 (dRows (c.ps.map Prc.enc))]) :
    ACall Try.prog 31 [.rv (.one (.ptr 2 0))] [x0, .var z3, .var [.row 3 9 0 none, .row 4 2 0 none, .row 5 4 0 none], .row 9 (dRows (a.l.map Obj.enc)), .row 2 (dRows (a.ops.map Opn.enc)), .row 4 (dRows (a.ps.map Prc.enc))] K := by
  refine acall_borrow [2, 3, 4, 5] 6 rfl rfl rfl rfl (args0 := [.rv (.one (.ptr 0 0))]) rfl (fun i b' hi => ?_) (once_ok a.l a.ops a.ps ha.sm ha.ll ha.lo ha.lp ha.sl) (fun r m1 hr => ?_)
  · match i, hi with
    | 0, hi => cases hi; exact .inr ⟨fun h => h, _, rfl, .eq rfl (by simp)⟩
    | 1, hi => cases hi; exact .inr ⟨fun h => h, _, rfl, .rowDE rfl⟩
    | 2, hi => cases hi; exact .inr ⟨fun h => h, _, rfl, .rowDE rfl⟩
    | 3, hi => cases hi; exact .inr ⟨fun h => h, _, rfl, .rowDE rfl⟩
    | n + 4, hi => simp at hi
  · obtain ⟨L, L2, L3, en, ho, rfl, rfl⟩ := hr
    refine ⟨Nat.le_refl _, ?_⟩
    have e : ∀ (s : Nat) (ds : List (List Dt)), (Bk.row s (dRows ds)).ren (sg [2, 3, 4, 5] 6) = .row s (dRows ds) := fun s ds => by simp only [Bk.ren, dRows_ren]
    show K _ [x0, .var z3, .var [.row 3 9 0 none, .row 4 2 0 none, .row 5 4 0 none], (Bk.row 9 (dRows (L.map Obj.enc))).ren (sg [2, 3, 4, 5] 6), (Bk.row 2 (dRows (L2.map Opn.enc))).ren (sg [2, 3, 4, 5] 6), (Bk.row 4 (dRows (L3.map Prc.enc))).ren (sg [2, 3, 4, 5] 6)]
    rw [e, e, e]
    exact h ⟨L, L2, L3⟩ en ho

def c34 : LF := ⟨16, [.tmp 3], (.seq (.reg [
    ⟨(some 2), .box (.t 0), none⟩,
    ⟨(some 3), .mov (.c (.rv (.one (.dat (.val (.bool false)))))), none⟩]) (.seq (.reg [
    ⟨(some 4), .fadr 0 (.t 2), none⟩,
    ⟨(some 5), .load false 1 (.t 4), none⟩,
    ⟨(some 6), .bin .eql (.t 5) (.c (.rv (.one (.dat (.val (.int .i64 (5))))))), none⟩,
    ⟨(some 7), .mov (.t 6), none⟩,
    ⟨(some 8), .fadr 6 (.t 2), (some (7, true))⟩,
    ⟨(some 9), .load false 1 (.t 8), (some (7, true))⟩,
    ⟨(some 10), .fadr 2 (.t 1), (some (7, true))⟩,
    ⟨(some 11), .load false 1 (.t 10), (some (7, true))⟩,
    ⟨(some 12), .len 1 (.t 11), (some (7, true))⟩,
    ⟨(some 13), .bin .sub (.t 12) (.c (.rv (.one (.dat (.val (.int .i64 (1))))))), (some (7, true))⟩,
    ⟨(some 14), .bin .eql (.t 9) (.t 13), (some (7, true))⟩,
    ⟨(some 15), .pick (.t 7) (.t 14) (.c (.rv (.one (.dat (.val (.bool false)))))), none⟩,
    ⟨(some 3), .mov (.t 15), none⟩]) .ret))⟩
/-! the search over data, with a cell that the closure looks at; Sweep's other closure -/
theorem l34 : lowF Try.prog Try.f34 = some c34 := by kernel_rfl
set_option maxRecDepth 100000 in
set_option maxHeartbeats 8000000 in
theorem idxDc_body (l : List Obj) (hb : l.length ≤ 4194304) (F : Nat) (cs : List Dt) (q : Obj → Bool) (hF : ∀ s, ∀ K : CV → Mem → Prop, K (vBool (q s)) [.var (cs.map .dat)] → ACall Try.prog F [s.cv, .rv (.one (.ptr 0 0))] [.var (cs.map .dat)] K) :
    body Try.prog c38 [objsV l, .rv (.one (.fn F [0]))] [.var (cs.map .dat)] (fun r m => r = vInt .i64 (idxG q l) ∧ m = [.var (cs.map .dat)]) := by
  refine loop_keep (fun k => k ≤ l.length ∧ ∀ (j : Nat) s, j < k → l[j]? = some s → q s = false) [0, 1, 7] (fun k => [(8, vInt .i64 (k : Nat))]) (fun _ => [.var (cs.map .dat)]) (fun k => l.length - k) 0 ⟨Nat.zero_le _, fun j s h => absurd h (Nat.not_lt_zero j)⟩ ?_ (fun k hk => ?_)
  · refine View.of 1 [0] [] rfl rfl rfl rfl rfl rfl ?_ ?_
    · repeat (first | exact .nil | refine .junk ?_ | refine .eq rfl ?_)
    · exact .put (notF rfl) rfl (.varDE rfl) (.nil _)
  · refine bB_dec (fun h => ?_) (fun h => ?_)
    · have hlt : k < l.length := by
        have h : (k : Int) < ((l.map Obj.enc).length : Int) := h
        rw [List.length_map] at h
        omega
      refine ok_some (obj_get hlt) ?_
      have hi := List.getElem?_eq_getElem hlt
      have hfd := idxG_found (q := q) hlt
      generalize l[k] = o at hi hfd
      refine hF o _ ?_
      refine bB_split (fun hq1 => ?_) (fun hq1 => ?_)
      · rw [hfd hq1 hk.2]
        exact ⟨rfl, rfl⟩
      · refine ⟨k + 1, ⟨hlt, fun j s hj hs => ?_⟩, (show l.length - (k + 1) < l.length - k by omega), View.of 1 [0] [] rfl rfl rfl rfl rfl rfl ?_ ?_⟩
        · rcases Nat.lt_or_ge j k with h5 | h5
          · exact hk.2 j s h5 hs
          · have : j = k := by omega
            subst this
            rw [hi] at hs
            cases hs
            exact hq1
        · repeat (first | exact .nil | refine .junk ?_ | refine .put (.ren (next_i64 (by omega)).symm) ?_ | refine .eq rfl ?_)
        · exact .put (notF rfl) rfl (.varDE rfl) (.nil _)
    · have hge : ¬ (k : Int) < ((l.map Obj.enc).length : Int) := h
      rw [List.length_map] at hge
      rw [idxG_none fun j s hs => hk.2 j s (by have := (List.getElem?_eq_some_iff.1 hs).1; omega) hs]
      exact ⟨rfl, rfl⟩
set_option maxRecDepth 100000 in
theorem contDc_body (l : List Obj) (hb : l.length ≤ 4194304) (F : Nat) (cs : List Dt) (q : Obj → Bool) (hF : ∀ s, ∀ K : CV → Mem → Prop, K (vBool (q s)) [.var (cs.map .dat)] → ACall Try.prog F [s.cv, .rv (.one (.ptr 0 0))] [.var (cs.map .dat)] K) :
    body Try.prog c32 [objsV l, .rv (.one (.fn F [0]))] [.var (cs.map .dat)] (fun r m => r = vBool (l.any q) ∧ m = [.var (cs.map .dat)]) := by
  refine (acall_body Try.func38 l38 rfl (Nat.le_of_ble_eq_true rfl) (idxDc_body l hb F cs q hF)).mono fun r m ⟨hr, hm⟩ => ?_
  subst hr hm
  refine ⟨?_, rfl⟩
  show vBool _ = vBool _
  rw [← idxG_any]
theorem contDc_ok (l : List Obj) (hb : l.length ≤ 4194304) (F : Nat) (cs : List Dt) (q : Obj → Bool) (hF : ∀ s, ∀ K : CV → Mem → Prop, K (vBool (q s)) [.var (cs.map .dat)] → ACall Try.prog F [s.cv, .rv (.one (.ptr 0 0))] [.var (cs.map .dat)] K) (K : CV → Mem → Prop) (h : K (vBool (l.any q)) [.var (cs.map .dat)]) :
    ACall Try.prog 32 [objsV l, .rv (.one (.fn F [0]))] [.var (cs.map .dat)] K :=
  (acall_body Try.func32 l32 rfl (Nat.le_of_ble_eq_true rfl) (contDc_body l hb F cs q hF)).mono fun r m ⟨hr, hm⟩ => by subst hr hm; exact h

def c15 : LF := ⟨120, [.cell true 3 2], (.seq (.reg [
    ⟨(some 1), .box (.t 0), none⟩,
    ⟨(some 2), .alloc [.esl, .esl, .esl], none⟩]) (.seq (.reg [
    ⟨(some 6), .load true 3 (.t 1), none⟩,
    ⟨(some 7), .call (.c (.rv (.one (.fn 30 [])))) [(.t 6)], none⟩,
    ⟨(some 3), .alloc [.esl, .esl, .esl], none⟩,
    ⟨none, .store 3 (.t 3) (.t 7), none⟩]) (.seq (.block 0 (.loop (.seq (.seq (.reg [
    ⟨(some 8), .call (.c (.rv (.one (.fn 31 [])))) [(.t 3)], none⟩]) (.cond (.t 8) .skip (.exit 0))) (.block 1 .skip)))) (.seq (.block 2 (.loop (.seq (.seq (.reg [
    ⟨(some 9), .fadr 0 (.t 3), none⟩,
    ⟨(some 10), .load false 1 (.t 9), none⟩,
    ⟨(some 11), .len 1 (.t 10), none⟩,
    ⟨(some 12), .bin .gtr (.t 11) (.c (.rv (.one (.dat (.val (.int .i64 (1))))))), none⟩,
    ⟨(some 13), .mov (.t 12), none⟩,
    ⟨(some 14), .fadr 0 (.t 3), (some (13, true))⟩,
    ⟨(some 15), .load false 1 (.t 14), (some (13, true))⟩,
    ⟨(some 16), .fadr 0 (.t 3), (some (13, true))⟩,
    ⟨(some 17), .load false 1 (.t 16), (some (13, true))⟩,
    ⟨(some 18), .len 1 (.t 17), (some (13, true))⟩,
    ⟨(some 19), .bin .sub (.t 18) (.c (.rv (.one (.dat (.val (.int .i64 (1))))))), (some (13, true))⟩,
    ⟨(some 20), .idx 9 (.t 15) (.t 19), (some (13, true))⟩,
    ⟨(some 21), .fadr 0 (.t 20), (some (13, true))⟩,
    ⟨(some 22), .load false 1 (.t 21), (some (13, true))⟩,
    ⟨(some 23), .bin .eql (.t 22) (.c (.rv (.one (.dat (.val (.int .i64 (0))))))), (some (13, true))⟩,
    ⟨(some 24), .pick (.t 13) (.t 23) (.c (.rv (.one (.dat (.val (.bool false)))))), none⟩]) (.cond (.t 24) .skip (.exit 2))) (.block 3 (.reg [
    ⟨(some 25), .fadr 0 (.t 3), none⟩,
    ⟨(some 26), .load false 1 (.t 25), none⟩,
    ⟨(some 27), .fadr 0 (.t 3), none⟩,
    ⟨(some 28), .load false 1 (.t 27), none⟩,
    ⟨(some 29), .len 1 (.t 28), none⟩,
    ⟨(some 30), .bin .sub (.t 29) (.c (.rv (.one (.dat (.val (.int .i64 (1))))))), none⟩,
    ⟨(some 31), .slc 9 (.t 26) none (some (.t 30)) none, none⟩,
    ⟨(some 32), .fadr 0 (.t 3), none⟩,
    ⟨none, .store 1 (.t 32) (.t 31), none⟩]))))) (.ghost (.seq (.block 4 (.loop (.seq (.seq (.reg [
    ⟨(some 33), .fadr 1 (.t 3), none⟩,
    ⟨(some 34), .load false 1 (.t 33), none⟩,
    ⟨(some 35), .len 1 (.t 34), none⟩,
    ⟨(some 36), .bin .gtr (.t 35) (.c (.rv (.one (.dat (.val (.int .i64 (0))))))), none⟩,
    ⟨(some 37), .mov (.t 36), none⟩,
    ⟨(some 38), .fadr 1 (.t 3), (some (37, true))⟩,
    ⟨(some 39), .load false 1 (.t 38), (some (37, true))⟩,
    ⟨(some 40), .fadr 1 (.t 3), (some (37, true))⟩,
    ⟨(some 41), .load false 1 (.t 40), (some (37, true))⟩,
    ⟨(some 42), .len 1 (.t 41), (some (37, true))⟩,
    ⟨(some 43), .bin .sub (.t 42) (.c (.rv (.one (.dat (.val (.int .i64 (1))))))), (some (37, true))⟩,
    ⟨(some 44), .idx 2 (.t 39) (.t 43), (some (37, true))⟩,
    ⟨(some 45), .fadr 0 (.t 44), (some (37, true))⟩,
    ⟨(some 46), .load false 1 (.t 45), (some (37, true))⟩,
    ⟨(some 47), .bin .lss (.t 46) (.c (.rv (.one (.dat (.val (.int .i64 (0))))))), (some (37, true))⟩,
    ⟨(some 48), .pick (.t 37) (.t 47) (.c (.rv (.one (.dat (.val (.bool false)))))), none⟩]) (.cond (.t 48) .skip (.exit 4))) (.block 5 (.reg [
    ⟨(some 49), .fadr 1 (.t 3), none⟩,
    ⟨(some 50), .load false 1 (.t 49), none⟩,
    ⟨(some 51), .fadr 1 (.t 3), none⟩,
    ⟨(some 52), .load false 1 (.t 51), none⟩,
    ⟨(some 53), .len 1 (.t 52), none⟩,
    ⟨(some 54), .bin .sub (.t 53) (.c (.rv (.one (.dat (.val (.int .i64 (1))))))), none⟩,
    ⟨(some 55), .slc 2 (.t 50) none (some (.t 54)) none, none⟩,
    ⟨(some 56), .fadr 1 (.t 3), none⟩,
    ⟨none, .store 1 (.t 56) (.t 55), none⟩]))))) (.seq (.ghost (.seq (.reg [
    ⟨(some 57), .fadr 2 (.t 3), none⟩,
    ⟨(some 58), .load false 1 (.t 57), none⟩,
    ⟨(some 59), .len 1 (.t 58), none⟩,
    ⟨(some 60), .mov (.c (.rv (.one (.dat (.val (.int .i64 (0))))))), none⟩]) (.block 6 (.loop (.seq (.reg [
    ⟨(some 61), .bin .lss (.t 60) (.t 59), none⟩]) (.seq (.cond (.t 61) .skip (.exit 6)) (.seq (.block 7 (.seq (.reg [
    ⟨(some 62), .mov (.t 60), none⟩,
    ⟨(some 4), .alloc [(.dat (.val (.int .i64 (0))))], none⟩,
    ⟨none, .store 1 (.t 4) (.t 62), none⟩]) (.seq (.reg [
    ⟨(some 63), .fadr 0 (.t 3), none⟩,
    ⟨(some 64), .load false 1 (.t 63), none⟩,
    ⟨(some 65), .fn 33 [(.t 4)], none⟩,
    ⟨(some 66), .call (.c (.rv (.one (.fn 32 [])))) [(.t 64), (.t 65)], none⟩,
    ⟨(some 5), .mov (.t 66), none⟩]) (.seq (.reg [
    ⟨(some 67), .load false 1 (.t 4), none⟩,
    ⟨(some 68), .bin .gtr (.t 67) (.c (.rv (.one (.dat (.val (.int .i64 (0))))))), none⟩,
    ⟨(some 69), .mov (.t 68), none⟩,
    ⟨(some 70), .fadr 2 (.t 3), (some (69, true))⟩,
    ⟨(some 71), .load false 1 (.t 70), (some (69, true))⟩,
    ⟨(some 72), .load false 1 (.t 4), (some (69, true))⟩,
    ⟨(some 73), .idx 4 (.t 71) (.t 72), (some (69, true))⟩,
    ⟨(some 74), .fadr 0 (.t 73), (some (69, true))⟩,
    ⟨(some 75), .load false 1 (.t 74), (some (69, true))⟩,
    ⟨(some 76), .un .not (.t 75), (some (69, true))⟩,
    ⟨(some 77), .pick (.t 69) (.t 76) (.c (.rv (.one (.dat (.val (.bool false)))))), none⟩,
    ⟨(some 78), .mov (.t 77), none⟩,
    ⟨(some 79), .mov (.t 5), (some (78, true))⟩,
    ⟨(some 80), .un .not (.t 79), (some (78, true))⟩,
    ⟨(some 81), .pick (.t 78) (.t 80) (.c (.rv (.one (.dat (.val (.bool false)))))), none⟩]) (.cond (.t 81) (.reg [
    ⟨(some 82), .fadr 2 (.t 3), none⟩,
    ⟨(some 83), .load false 1 (.t 82), none⟩,
    ⟨(some 84), .load false 1 (.t 4), none⟩,
    ⟨(some 85), .build [(.dat (.val (.bool false))), (.dat (.val (.bool false))), (.dat (.val (.int .i64 (0)))), .esl] [], none⟩,
    ⟨(some 86), .idx 4 (.t 83) (.t 84), none⟩,
    ⟨none, .store 4 (.t 86) (.t 85), none⟩]) .skip))))) (.reg [
    ⟨(some 87), .bin .add (.t 60) (.c (.rv (.one (.dat (.val (.int .i64 (1))))))), none⟩,
    ⟨(some 60), .mov (.t 87), none⟩])))))))) (.ghost (.seq (.block 8 (.loop (.seq (.seq (.reg [
    ⟨(some 88), .fadr 2 (.t 3), none⟩,
    ⟨(some 89), .load false 1 (.t 88), none⟩,
    ⟨(some 90), .len 1 (.t 89), none⟩,
    ⟨(some 91), .bin .gtr (.t 90) (.c (.rv (.one (.dat (.val (.int .i64 (1))))))), none⟩,
    ⟨(some 92), .mov (.t 91), none⟩,
    ⟨(some 93), .fadr 2 (.t 3), (some (92, true))⟩,
    ⟨(some 94), .load false 1 (.t 93), (some (92, true))⟩,
    ⟨(some 95), .fadr 2 (.t 3), (some (92, true))⟩,
    ⟨(some 96), .load false 1 (.t 95), (some (92, true))⟩,
    ⟨(some 97), .len 1 (.t 96), (some (92, true))⟩,
    ⟨(some 98), .bin .sub (.t 97) (.c (.rv (.one (.dat (.val (.int .i64 (1))))))), (some (92, true))⟩,
    ⟨(some 99), .idx 4 (.t 94) (.t 98), (some (92, true))⟩,
    ⟨(some 100), .fadr 0 (.t 99), (some (92, true))⟩,
    ⟨(some 101), .load false 1 (.t 100), (some (92, true))⟩,
    ⟨(some 102), .un .not (.t 101), (some (92, true))⟩,
    ⟨(some 103), .pick (.t 92) (.t 102) (.c (.rv (.one (.dat (.val (.bool false)))))), none⟩,
    ⟨(some 104), .mov (.t 103), none⟩,
    ⟨(some 105), .fadr 0 (.t 3), (some (104, true))⟩,
    ⟨(some 106), .load false 1 (.t 105), (some (104, true))⟩,
    ⟨(some 107), .fn 34 [(.t 3)], (some (104, true))⟩,
    ⟨(some 108), .call (.c (.rv (.one (.fn 32 [])))) [(.t 106), (.t 107)], (some (104, true))⟩,
    ⟨(some 109), .un .not (.t 108), (some (104, true))⟩,
    ⟨(some 110), .pick (.t 104) (.t 109) (.c (.rv (.one (.dat (.val (.bool false)))))), none⟩]) (.cond (.t 110) .skip (.exit 8))) (.block 9 (.reg [
    ⟨(some 111), .fadr 2 (.t 3), none⟩,
    ⟨(some 112), .load false 1 (.t 111), none⟩,
    ⟨(some 113), .fadr 2 (.t 3), none⟩,
    ⟨(some 114), .load false 1 (.t 113), none⟩,
    ⟨(some 115), .len 1 (.t 114), none⟩,
    ⟨(some 116), .bin .sub (.t 115) (.c (.rv (.one (.dat (.val (.int .i64 (1))))))), none⟩,
    ⟨(some 117), .slc 4 (.t 112) none (some (.t 116)) none, none⟩,
    ⟨(some 118), .fadr 2 (.t 3), none⟩,
    ⟨none, .store 1 (.t 118) (.t 117), none⟩]))))) (.seq (.reg [
    ⟨(some 119), .load true 3 (.t 3), none⟩,
    ⟨none, .store 3 (.t 2) (.t 119), none⟩]) .ret))))))))))⟩
/-! sweep.Sweep: the walk -/
theorem l15 : lowF Try.prog Try.f15 = some c15.er := by kernel_rfl
set_option maxRecDepth 100000 in
theorem clo103_body (o : Obj) (a c : Dt) (ps : List Prc) : body Try.prog c34 [o.cv, .rv (.one (.ptr 0 0))] [.var ([a, c, prcD ps].map .dat)] (fun r m => r = vBool (heldB (IntKind.i64.wrap (((ps.map Prc.enc).length : Int) - 1)) o) ∧ ∃ ex, m = .var ([a, c, prcD ps].map .dat) :: ex) := by
  refine bB_split (fun h => ?_) (fun h => ?_)
  · refine ⟨?_, _, rfl⟩
    show vBool _ = vBool _
    rw [heldB, h]; rfl
  · refine ⟨?_, _, rfl⟩
    show vBool _ = vBool _
    rw [heldB, h]; rfl
set_option maxRecDepth 100000 in
theorem clo103 (o : Obj) (a c : Dt) (ps : List Prc) (K : CV → Mem → Prop) (h : K (vBool (heldB (IntKind.i64.wrap (((ps.map Prc.enc).length : Int) - 1)) o)) [.var ([a, c, prcD ps].map .dat)]) : ACall Try.prog 34 [o.cv, .rv (.one (.ptr 0 0))] [.var ([a, c, prcD ps].map .dat)] K :=
  acall_trim rfl (acall_body Try.func34 l34 rfl (Nat.le_of_ble_eq_true rfl) (clo103_body o a c ps)) h
/-- cut at its end, as long as what is last is of no use -/
structure Tru {α : Type} (q : Nat → α → Bool) (mn : Nat) (L : List α) (n : Nat) : Prop where
  le : n ≤ L.length
  mn : min mn L.length ≤ n
  dr : ∀ (t : Nat) o, n ≤ t → L[t]? = some o → q t o = true
structure TruE {α : Type} (q : Nat → α → Bool) (mn : Nat) (L : List α) (n : Nat) : Prop where
  t : Tru q mn L n
  e : n ≤ mn ∨ ∃ o, L[n - 1]? = some o ∧ q (n - 1) o = false
theorem Tru.start {α : Type} (q : Nat → α → Bool) (mn : Nat) (L : List α) : Tru q mn L L.length :=
  ⟨Nat.le_refl _, Nat.min_le_right _ _, fun t o h ho => by have := (List.getElem?_eq_some_iff.1 ho).1; omega⟩
theorem Tru.step {α : Type} {q : Nat → α → Bool} {mn : Nat} {L : List α} {n : Nat} (h : Tru q mn L n) (hn : mn < n) (hl : n - 1 < L.length) (hq : q (n - 1) L[n - 1] = true) : Tru q mn L (n - 1) :=
  ⟨by omega, by omega, fun t o ht ho => by
    rcases Nat.lt_or_ge t n with h1 | h1
    · have : t = n - 1 := by omega
      subst this
      rw [List.getElem?_eq_getElem hl] at ho
      cases ho
      exact hq
    · exact h.dr t o h1 ho⟩
theorem take_len {α : Type} {L : List α} {n : Nat} (h : n ≤ L.length) : (L.take n).length = n := by rw [List.length_take]; omega
theorem take_map {α : Type} (f : α → List Dt) (L : List α) {n : Nat} (h : n ≤ L.length) : (((L.take n).map f).take (n - 1)).drop 0 = (L.take (n - 1)).map f := by
  rw [List.drop_zero, ← List.map_take, List.take_take, Nat.min_eq_left (by omega)]
theorem last_get {α : Type} (f : α → List Dt) (L : List α) {n : Nat} (h1 : 0 < n) (h : n ≤ L.length) : getZ ((L.take n).map f) ((n - 1 : Nat) : Int) = some (f (L[n - 1]'(by omega))) := by
  rw [getZ_nat, List.getElem?_map, List.getElem?_take_of_lt (by omega), List.getElem?_eq_getElem (by omega)]; rfl
def qO (_ : Nat) (o : Obj) : Bool := o.kind == 0
def qP (_ : Nat) (o : Opn) : Bool := decide (o.obj < 0)
def qZ (O : List Obj) (t : Nat) (o : Prc) : Bool := decide (0 < t) && (!o.live && !(O.any (heldB (t : Int))))
def prZ (O : List Obj) (k : Nat) (t : Nat) (o : Prc) : Prc := if (decide (t < k) && qZ O t o) = true then zeroP else o
def qR (O : List Obj) (t : Nat) (o : Prc) : Bool := !o.live && !(O.any (heldB (t : Int)))
/-- what Sweep answers, of what once has left -/
structure SwFin (c : Kr) (d : Kr) : Prop where
  ex : ∃ (n1 n2 n3 : Nat) (P : List Prc), TruE qO 1 c.l n1 ∧ TruE qP 0 c.ops n2 ∧ Pt c.ps P (prZ (c.l.take n1) c.ps.length) ∧ TruE (qR (c.l.take n1)) 1 P n3 ∧ d = ⟨c.l.take n1, c.ops.take n2, P.take n3⟩
def KS (k : Kr) (r : CV) (m : Mem) : Prop := ∃ a c d, SwTo k a ∧ OnceOK a.l a.ops a.ps c.l c.ops c.ps false ∧ SwFin c d ∧ FrzV m r (kernV d.l d.ops d.ps)
def EKs (k : Kr) : Ex → St → Prop := endK Try.prog c15.res (KS k)
def T4 : LC := unG (sndS (sndS (sndS (sndS c15.code))))
def T57 : LC := unG (fstS (sndS T4))
def R8 : LC := sndS (sndS T4)
def E60 : List CV := mkE 120 [(2, .rv (.one (.ptr 1 0))), (3, .rv (.one (.ptr 2 0)))]

theorem frzK (m : Mem) (d : Kr) : FrzV m (.rv (.agg [.dat (objsD d.l), .dat (opnD d.ops), .dat (prcD d.ps)])) (kernV d.l d.ops d.ps) := FrzV.self rfl
set_option maxRecDepth 100000 in
set_option maxHeartbeats 32000000 in
theorem seg8 (k a c : Kr) (ha : SwTo k a) (hc : OnceOK a.l a.ops a.ps c.l c.ops c.ps false) (hk : KrOK c.l c.ops c.ps) (n1 n2 : Nat) (h1 : TruE qO 1 c.l n1) (h2 : TruE qP 0 c.ops n2) (P : List Prc) (O : List Obj) (hO : O = c.l.take n1)
    (hP : Pt c.ps P (prZ (c.l.take n1) c.ps.length)) : aw Try.prog 0 (unG R8) (EKs k) ⟨E60, [.dead, .var z3, .var [.dat (objsD O), .dat (opnD (c.ops.take n2)), .dat (prcD P)]]⟩ := by
  have hPl : P.length ≤ 4194304 := by rw [hP.1]; exact hk.lp
  have hOl : O.length ≤ 4194304 := by rw [hO, List.length_take]; have := hk.ll; omega
  have end8 : ∀ (n : Nat) (m : Mem), Tru (qR O) 1 P n → (n ≤ 1 ∨ ∃ o, P[n - 1]? = some o ∧ qR O (n - 1) o = false) → KS k (.rv (.agg [.dat (objsD O), .dat (opnD (c.ops.take n2)), .dat (prcD (P.take n))])) m := fun n m hn he =>
    ⟨a, c, ⟨O, c.ops.take n2, P.take n⟩, ha, hc, ⟨n1, n2, n, P, h1, h2, hP, by rw [← hO]; exact ⟨hn, he⟩, by rw [hO]⟩, frzK m ⟨O, c.ops.take n2, P.take n⟩⟩
  refine loop_keep (fun n => Tru (qR O) 1 P n) [2, 3] (fun _ => []) (fun n => [.dead, .var z3, .var [.dat (objsD O), .dat (opnD (c.ops.take n2)), .dat (prcD (P.take n))]]) (fun n => n) P.length (.start _ _ _) ?_ (fun n hn => ?_)
  · refine View.of 3 [0, 1, 2] [] rfl rfl rfl rfl rfl rfl ?_ ?_
    · repeat (first | exact .nil | refine .junk ?_ | refine .eq rfl ?_)
    · exact (.dead (.put (notF rfl) rfl (.eq rfl (by simp)) (.put (notF rfl) rfl (CcsVp.var (.cons (.ren (.dat _)) (.cons (.ren (.dat _)) (.cons (vwEq (by rw [List.take_length])) .nil)))) (.nil _))))
  have hn : Tru (qR O) 1 P n := hn
  have hnl := hn.le
  refine bB_dec (fun h => ?_) (fun h => ?_)
  · have hn1 : 1 < n := by
      have h : (((P.take n).map Prc.enc).length : Int) > 1 := h
      rw [List.length_map, take_len hnl] at h
      omega
    have hz : IntKind.i64.wrap ((((P.take n).map Prc.enc).length : Int) - 1) = ((n - 1 : Nat) : Int) := by
      rw [List.length_map, take_len hnl, wrapI (by omega) (by omega)]; omega
    have hlt : n - 1 < P.length := by omega
    have hg := last_get Prc.enc P (by omega) hnl
    rw [← hz] at hg
    have hlast := List.getElem?_eq_getElem hlt
    have hstep := hn.step (by omega) hlt
    generalize P[n - 1] = x at hg hlast hstep
    have hg : getZ ((P.take n).map Prc.enc) (IntKind.i64.wrap ((((P.take n).map Prc.enc).length : Int) - 1)) = some [.val (.bool x.live), .val (.bool x.fenced), .val (.int .i64 x.code), sl3D x.slots] := hg
    refine ok_some hg ?_
    refine bB_split (fun hlv => ?_) (fun hlv => ?_)
    · refine acall_look (args0 := [objsV O, .rv (.one (.fn 34 [0]))]) (cs := [objsD O, opnD (c.ops.take n2), prcD (P.take n)]) 2 rfl rfl (r0 := vBool (O.any (heldB (IntKind.i64.wrap ((((P.take n).map Prc.enc).length : Int) - 1))))) rfl (fun K hK => contDc_ok O hOl 34 _ _ (fun s K hK => clo103 s _ _ _ K hK) K hK) ?_
      rw [hz]
      refine bB_split (fun han => ?_) (fun han => ?_)
      · have hq : qR O (n - 1) x = true := by unfold qR; rw [hlv, han]; rfl
        refine ok_some (x := n - 1) (by show natX (vInt .i64 (IntKind.i64.wrap ((((P.take n).map Prc.enc).length : Int) - 1))) = _; rw [hz]; rfl) ?_
        refine bB_yes (by simp [Nat.ble_eq]; omega) ?_
        refine ⟨n - 1, hstep hq, (show n - 1 < n by omega), View.of 3 [0, 1, 2] [] rfl rfl rfl rfl rfl rfl ?_ ?_⟩
        · repeat (first | exact .nil | refine .junk ?_ | refine .eq rfl ?_)
        · exact (.dead (.put (notF rfl) rfl (.eq rfl (by simp)) (.put (notF rfl) rfl (CcsVp.var (.cons (.ren (.dat _)) (.cons (.ren (.dat _)) (.cons (vwEq (congrArg (Dt.sl 4) (take_map Prc.enc P hnl))) .nil)))) (.nil _))))
      · have hq : qR O (n - 1) x = false := by unfold qR; rw [hlv, han]; rfl
        exact end8 n _ hn (.inr ⟨x, hlast, hq⟩)
    · have hq : qR O (n - 1) x = false := by unfold qR; rw [hlv]; rfl
      exact end8 n _ hn (.inr ⟨x, hlast, hq⟩)
  · have hn1 : n ≤ 1 := by
      have h : ¬ (((P.take n).map Prc.enc).length : Int) > 1 := h
      rw [List.length_map, take_len hnl] at h
      omega
    exact end8 n _ hn (.inl hn1)

/-! sweep.Sweep: the other loops -/
structure StZ where
  p : Nat
  P : List Prc
theorem KrOK.olen {l : List Obj} {ops : List Opn} {ps : List Prc} (h : KrOK l ops ps) (n : Nat) : (l.take n).length ≤ 4194304 := by rw [List.length_take]; have := h.ll; omega
set_option maxRecDepth 100000 in
set_option maxHeartbeats 32000000 in
theorem seg57 (k a c : Kr) (ha : SwTo k a) (hc : OnceOK a.l a.ops a.ps c.l c.ops c.ps false) (hk : KrOK c.l c.ops c.ps) (n1 n2 : Nat) (h1 : TruE qO 1 c.l n1) (h2 : TruE qP 0 c.ops n2) :
    aw Try.prog 0 T57 (seqK (aw Try.prog 0 R8) (EKs k)) ⟨E60, [.dead, .var z3, .var [.dat (objsD (c.l.take n1)), .dat (opnD (c.ops.take n2)), .row 3 4 0 none], .row 4 (dRows (c.ps.map Prc.enc))]⟩ := by
  have hpl := hk.lp
  have hOl := hk.olen n1
  generalize hO : c.l.take n1 = O at hOl
  refine loop_keep (fun (s : StZ) => s.p ≤ c.ps.length ∧ Pt c.ps s.P (prZ O s.p)) [2, 3, 59] (fun s => [(60, vInt .i64 (s.p : Nat))]) (fun s => [.dead, .var z3, .var [.dat (objsD O), .dat (opnD (c.ops.take n2)), .row 3 4 0 none], .row 4 (dRows (s.P.map Prc.enc))]) (fun s => c.ps.length - s.p) ⟨0, c.ps⟩ ⟨Nat.zero_le _, (Pt.refl c.ps).congr fun t o _ => by simp [prZ]⟩ ?_ (fun s hs => ?_)
  · refine View.of 4 [0, 1, 2, 3] [] rfl rfl rfl rfl rfl rfl ?_ ?_
    · repeat (first | exact .nil | refine .junk ?_ | refine .eq rfl ?_)
    · exact (.dead (.put (notF rfl) rfl (.eq rfl (by simp)) (.put (notF rfl) rfl (CcsVp.var (.cons (.ren (.dat _)) (.cons (.ren (.dat _)) (.cons (.ren (.row 3 4 0 none)) .nil)))) (.put (notF rfl) rfl (.rowDE rfl) (.nil _)))))
  obtain ⟨p, P⟩ := s
  obtain ⟨hp, hP⟩ := hs
  have hp : p ≤ c.ps.length := hp
  have hP : Pt c.ps P (prZ O p) := hP
  have hPl := hP.1
  refine bB_dec (fun h => ?_) (fun h => ?_)
  · have hplt : p < c.ps.length := len_lt h
    obtain ⟨hpP, hPp⟩ := hP.at hplt
    have hPp : P[p] = c.ps[p] := by rw [hPp]; simp [prZ]
    have hno : ∀ t, t ≠ p → decide (t < p + 1) = decide (t < p) := fun t ht => decide_eq_decide.2 (by omega)
    have hskip : qZ O p c.ps[p] = false → Pt c.ps P (prZ O (p + 1)) := fun hf => hP.congr fun t o hto => by
      by_cases htp : t = p
      · subst htp
        rw [List.getElem?_eq_getElem hplt] at hto
        cases hto
        simp [prZ, hf]
      · unfold prZ; rw [hno t htp]
    refine acall_look (args0 := [objsV O, .rv (.one (.fn 33 [0]))]) (cs := [.val (.int .i64 (p : Nat))]) 4 rfl rfl (r0 := vBool (O.any (heldB (p : Int)))) rfl (fun K hK => contDc_ok O hOl 33 _ _ (fun s K hK => clo102 s _ K hK) K hK) ?_
    refine bB_dec (fun hp0 => ?_) (fun hp0 => ?_)
    · have hp0 : 0 < p := by
        have h : (p : Int) > 0 := hp0
        omega
      refine ok_some (pr_idx hpP) ?_
      refine ok_some (dRows_nth' Prc.enc P hpP) ?_
      refine bB_split (fun hlv => ?_) (fun hlv => ?_)
      · rw [hPp] at hlv
        refine bB_split (fun han => ?_) (fun han => ?_)
        · refine ok_some (pr_idx hpP) ?_
          refine ok_some (dRows_nth' Prc.enc P hpP) ?_
          have he : qZ O p c.ps[p] = true := by
            unfold qZ
            rw [hlv, han]
            simp [hp0]
          have hs := hP.set (j := p) (x := zeroP) (g := prZ O (p + 1)) (fun o hto => by
            rw [List.getElem?_eq_getElem hplt] at hto
            cases hto
            simp [prZ, he]) (fun t o htp _ => by unfold prZ; rw [hno t htp])
          refine ⟨⟨p + 1, P.set p zeroP⟩, ⟨hplt, hs⟩, (show c.ps.length - (p + 1) < c.ps.length - p by omega), View.of 5 [0, 1, 2, 3] [] rfl rfl rfl rfl rfl rfl ?_ ?_⟩
          · repeat (first | exact .nil | refine .junk ?_ | refine .put (.ren (next_i64 (by omega)).symm) ?_ | refine .eq rfl ?_)
          · exact (.dead (.put (notF rfl) rfl (.eq rfl (by simp)) (.put (notF rfl) rfl (CcsVp.var (.cons (.ren (.dat _)) (.cons (.ren (.dat _)) (.cons (.ren (.row 3 4 0 none)) .nil)))) (.put (notF rfl) rfl (rowZP P p) (.nil _)))))
        · skip
          refine ⟨⟨p + 1, P⟩, ⟨hplt, hskip (by unfold qZ; rw [han]; simp)⟩, (show c.ps.length - (p + 1) < c.ps.length - p by omega), View.of 5 [0, 1, 2, 3] [] rfl rfl rfl rfl rfl rfl ?_ ?_⟩
          · repeat (first | exact .nil | refine .junk ?_ | refine .put (.ren (next_i64 (by omega)).symm) ?_ | refine .eq rfl ?_)
          · exact (.dead (.put (notF rfl) rfl (.eq rfl (by simp)) (.put (notF rfl) rfl (CcsVp.var (.cons (.ren (.dat _)) (.cons (.ren (.dat _)) (.cons (.ren (.row 3 4 0 none)) .nil)))) (.put (notF rfl) rfl (.rowDE rfl) (.nil _)))))
      · rw [hPp] at hlv
        refine ⟨⟨p + 1, P⟩, ⟨hplt, hskip (by unfold qZ; rw [hlv]; simp)⟩, (show c.ps.length - (p + 1) < c.ps.length - p by omega), View.of 5 [0, 1, 2, 3] [] rfl rfl rfl rfl rfl rfl ?_ ?_⟩
        · repeat (first | exact .nil | refine .junk ?_ | refine .put (.ren (next_i64 (by omega)).symm) ?_ | refine .eq rfl ?_)
        · exact (.dead (.put (notF rfl) rfl (.eq rfl (by simp)) (.put (notF rfl) rfl (CcsVp.var (.cons (.ren (.dat _)) (.cons (.ren (.dat _)) (.cons (.ren (.row 3 4 0 none)) .nil)))) (.put (notF rfl) rfl (.rowDE rfl) (.nil _)))))
    · have hp0 : p = 0 := by
        have h : ¬ (p : Int) > 0 := hp0
        omega
      refine ⟨⟨p + 1, P⟩, ⟨hplt, hskip (by simp [qZ, hp0])⟩, (show c.ps.length - (p + 1) < c.ps.length - p by omega), View.of 5 [0, 1, 2, 3] [] rfl rfl rfl rfl rfl rfl ?_ ?_⟩
      · repeat (first | exact .nil | refine .junk ?_ | refine .put (.ren (next_i64 (by omega)).symm) ?_ | refine .eq rfl ?_)
      · exact (.dead (.put (notF rfl) rfl (.eq rfl (by simp)) (.put (notF rfl) rfl (CcsVp.var (.cons (.ren (.dat _)) (.cons (.ren (.dat _)) (.cons (.ren (.row 3 4 0 none)) .nil)))) (.put (notF rfl) rfl (.rowDE rfl) (.nil _)))))
  · have h9 : c.ps.length ≤ p := len_ge h
    have hpe : p = c.ps.length := by omega
    subst hpe
    rw [← hO] at hP
    refine ghost_keep [2, 3] [] ([.dead, .var z3, .var [.dat (objsD O), .dat (opnD (c.ops.take n2)), .dat (prcD P)]]) (View.of 4 [0, 1, 2] [3] rfl rfl rfl rfl rfl rfl ?_ ?_) ?_
    · repeat (first | exact .nil | refine .junk ?_ | refine .eq rfl ?_)
    · exact (.dead (.put (notF rfl) rfl (.eq rfl (by simp)) (.put (notF rfl) rfl (CcsVp.var (.cons (.ren (.dat _)) (.cons (.ren (.dat _)) (.cons (.frz (FrzD.rowD (Z := fun k => memN [3] k = true) rfl rfl 0 none)) .nil)))) (.nil _))))
    exact seg8 k a c ha hc hk n1 n2 h1 h2 P O hO.symm hP


/-! sweep.Sweep -/
set_option maxRecDepth 100000 in
set_option maxHeartbeats 32000000 in
theorem segB4 (k a c : Kr) (ha : SwTo k a) (hc : OnceOK a.l a.ops a.ps c.l c.ops c.ps false) (hk : KrOK c.l c.ops c.ps) (n1 : Nat) (h1 : TruE qO 1 c.l n1) :
    aw Try.prog 0 T4 (EKs k) ⟨E60, [.dead, .var z3, .var [.dat (objsD (c.l.take n1)), .dat (opnD c.ops), .row 3 4 0 none], .row 4 (dRows (c.ps.map Prc.enc))]⟩ := by
  have hlo := hk.lo
  refine loop_keep (fun n => Tru qP 0 c.ops n) [2, 3] (fun _ => []) (fun n => [.dead, .var z3, .var [.dat (objsD (c.l.take n1)), .dat (opnD (c.ops.take n)), .row 3 4 0 none], .row 4 (dRows (c.ps.map Prc.enc))]) (fun n => n) c.ops.length (.start _ _ _) ?_ (fun n hn => ?_)
  · refine View.of 4 [0, 1, 2, 3] [] rfl rfl rfl rfl rfl rfl ?_ ?_
    · repeat (first | exact .nil | refine .junk ?_ | refine .eq rfl ?_)
    · exact (.dead (.put (notF rfl) rfl (.eq rfl (by simp)) (.put (notF rfl) rfl (CcsVp.var (.cons (.ren (.dat _)) (.cons (vwEq (by rw [List.take_length])) (.cons (.ren (.row 3 4 0 none)) .nil)))) (.put (notF rfl) rfl (.rowDE rfl) (.nil _)))))
  have hn : Tru qP 0 c.ops n := hn
  have hnl := hn.le
  refine bB_dec (fun h => ?_) (fun h => ?_)
  · have hn1 : 0 < n := by
      have h : (((c.ops.take n).map Opn.enc).length : Int) > 0 := h
      rw [List.length_map, take_len hnl] at h
      omega
    have hz : IntKind.i64.wrap ((((c.ops.take n).map Opn.enc).length : Int) - 1) = ((n - 1 : Nat) : Int) := by
      rw [List.length_map, take_len hnl, wrapI (by omega) (by omega)]; omega
    have hlt : n - 1 < c.ops.length := by omega
    have hg := last_get Opn.enc c.ops (by omega) hnl
    rw [← hz] at hg
    have hlast := List.getElem?_eq_getElem hlt
    have hstep := hn.step (by omega) hlt
    generalize c.ops[n - 1] = x at hg hlast hstep
    have hg : getZ ((c.ops.take n).map Opn.enc) (IntKind.i64.wrap ((((c.ops.take n).map Opn.enc).length : Int) - 1)) = some [.val (.int .i64 x.obj), .val (.int .i64 x.at')] := hg
    refine ok_some hg ?_
    refine bB_dec (fun hx => ?_) (fun hx => ?_)
    · have hq : qP (n - 1) x = true := decide_eq_true hx
      refine ok_some (x := n - 1) (by show natX (vInt .i64 (IntKind.i64.wrap ((((c.ops.take n).map Opn.enc).length : Int) - 1))) = _; rw [hz]; rfl) ?_
      refine bB_yes (by simp [Nat.ble_eq]; omega) ?_
      refine ⟨n - 1, hstep hq, (show n - 1 < n by omega), View.of 4 [0, 1, 2, 3] [] rfl rfl rfl rfl rfl rfl ?_ ?_⟩
      · repeat (first | exact .nil | refine .junk ?_ | refine .eq rfl ?_)
      · exact (.dead (.put (notF rfl) rfl (.eq rfl (by simp)) (.put (notF rfl) rfl (CcsVp.var (.cons (.ren (.dat _)) (.cons (vwEq (congrArg (Dt.sl 2) (take_map Opn.enc c.ops hnl))) (.cons (.ren (.row 3 4 0 none)) .nil)))) (.put (notF rfl) rfl (.rowDE rfl) (.nil _)))))
    · have hq : qP (n - 1) x = false := decide_eq_false hx
      refine ghost_keep [2, 3] [] ([.dead, .var z3, .var [.dat (objsD (c.l.take n1)), .dat (opnD (c.ops.take n)), .row 3 4 0 none], .row 4 (dRows (c.ps.map Prc.enc))]) (View.of 4 [0, 1, 2, 3] [] rfl rfl rfl rfl rfl rfl ?_ ?_) ?_
      · repeat (first | exact .nil | refine .junk ?_ | refine .eq rfl ?_)
      · exact (.dead (.put (notF rfl) rfl (.eq rfl (by simp)) (.put (notF rfl) rfl (CcsVp.var (.cons (.ren (.dat _)) (.cons (.ren (.dat _)) (.cons (.ren (.row 3 4 0 none)) .nil)))) (.put (notF rfl) rfl (.rowDE rfl) (.nil _)))))
      exact seg57 k a c ha hc hk n1 n h1 ⟨hn, (.inr ⟨x, hlast, hq⟩)⟩
  · have hn1 : n ≤ 0 := by
      have h : ¬ (((c.ops.take n).map Opn.enc).length : Int) > 0 := h
      rw [List.length_map, take_len hnl] at h
      omega
    refine ghost_keep [2, 3] [] ([.dead, .var z3, .var [.dat (objsD (c.l.take n1)), .dat (opnD (c.ops.take n)), .row 3 4 0 none], .row 4 (dRows (c.ps.map Prc.enc))]) (View.of 4 [0, 1, 2, 3] [] rfl rfl rfl rfl rfl rfl ?_ ?_) ?_
    · repeat (first | exact .nil | refine .junk ?_ | refine .eq rfl ?_)
    · exact (.dead (.put (notF rfl) rfl (.eq rfl (by simp)) (.put (notF rfl) rfl (CcsVp.var (.cons (.ren (.dat _)) (.cons (.ren (.dat _)) (.cons (.ren (.row 3 4 0 none)) .nil)))) (.put (notF rfl) rfl (.rowDE rfl) (.nil _)))))
    exact seg57 k a c ha hc hk n1 n h1 ⟨hn, (.inl hn1)⟩
set_option maxRecDepth 100000 in
set_option maxHeartbeats 32000000 in
theorem sweep_body (k : Kr) (hk : KrOK k.l k.ops k.ps) : body Try.prog c15 [kernV k.l k.ops k.ps] [] (KS k) := by
  refine sown_ok k.l k.ops k.ps ⟨hk.ll, fun o ho => (hk.sm o ho).fit⟩ hk.lo hk.lp hk.sl hk.ne ?_
  refine loop_keep (fun (a : Kr) => SwTo k a ∧ KrOK a.l a.ops a.ps) [2] (fun _ => [(3, .rv (.one (.ptr 2 0)))]) (fun a => [.dead, .var z3, .var [.row 3 9 0 none, .row 4 2 0 none, .row 5 4 0 none], .row 9 (dRows (a.l.map Obj.enc)), .row 2 (dRows (a.ops.map Opn.enc)), .row 4 (dRows (a.ps.map Prc.enc))]) (fun a => lives a.ps) k ⟨.refl, hk⟩ ?_ (fun a ha => ?_)
  · refine View.of 6 [0, 1, 5, 2, 3, 4] [] rfl rfl rfl rfl rfl rfl ?_ ?_
    · repeat (first | exact .nil | refine .junk ?_ | refine .eq rfl ?_)
    · exact (.dead (.put (notF rfl) rfl (.eq rfl (by simp)) (.put (notF rfl) rfl (.eq rfl (by simp)) (.put (notF rfl) rfl (.rowDE rfl) (.put (notF rfl) rfl (.rowDE rfl) (.put (notF rfl) rfl (.rowDE rfl) (.nil _)))))))
  obtain ⟨ha, hka⟩ := ha
  refine onceBorrow a hka .dead fun c en ho => ?_
  refine bB_split (fun he => ?_) (fun he => ?_)
  · subst he
    refine ⟨c, ⟨.step ha ho, ho.kr hka⟩, ho.lives, View.of 6 [0, 1, 2, 3, 4, 5] [] rfl rfl rfl rfl rfl rfl ?_ ?_⟩
    · repeat (first | exact .nil | refine .junk ?_ | refine .eq rfl ?_)
    · exact (.dead (.put (notF rfl) rfl (.eq rfl (by simp)) (.put (notF rfl) rfl (.eq rfl (by simp)) (.put (notF rfl) rfl (.rowDE rfl) (.put (notF rfl) rfl (.rowDE rfl) (.put (notF rfl) rfl (.rowDE rfl) (.nil _)))))))
  · subst he
    have hc := ho
    have hkc := ho.kr hka
    have hll := hkc.ll
    refine loop_keep (fun n => Tru qO 1 c.l n) [2, 3] (fun _ => []) (fun n => [.dead, .var z3, .var [.dat (objsD (c.l.take n)), .dat (opnD c.ops), .row 3 4 0 none], .row 4 (dRows (c.ps.map Prc.enc))]) (fun n => n) c.l.length (.start _ _ _) ?_ (fun n hn => ?_)
    · refine View.of 6 [0, 1, 2, 5] [3, 4] rfl rfl rfl rfl rfl rfl ?_ ?_
      · repeat (first | exact .nil | refine .junk ?_ | refine .eq rfl ?_)
      · exact (.dead (.put (notF rfl) rfl (.eq rfl (by simp)) (.put (notF rfl) rfl (CcsVp.var (.cons (by rw [List.take_length]; exact .frz (FrzD.rowD (Z := fun k => memN [3, 4] k = true) rfl rfl 0 none)) (.cons (.frz (FrzD.rowD (Z := fun k => memN [3, 4] k = true) rfl rfl 0 none)) (.cons (.ren (.row 3 4 0 none)) .nil)))) (.put (notF rfl) rfl (.rowDE rfl) (.nil _)))))
    have hn : Tru qO 1 c.l n := hn
    have hnl := hn.le
    refine bB_dec (fun h => ?_) (fun h => ?_)
    · have hn1 : 1 < n := by
        have h : (((c.l.take n).map Obj.enc).length : Int) > 1 := h
        rw [List.length_map, take_len hnl] at h
        omega
      have hz : IntKind.i64.wrap ((((c.l.take n).map Obj.enc).length : Int) - 1) = ((n - 1 : Nat) : Int) := by
        rw [List.length_map, take_len hnl, wrapI (by omega) (by omega)]; omega
      have hlt : n - 1 < c.l.length := by omega
      have hg := last_get Obj.enc c.l (by omega) hnl
      rw [← hz] at hg
      have hlast := List.getElem?_eq_getElem hlt
      have hstep := hn.step (by omega) hlt
      generalize c.l[n - 1] = x at hg hlast hstep
      have hg : getZ ((c.l.take n).map Obj.enc) (IntKind.i64.wrap ((((c.l.take n).map Obj.enc).length : Int) - 1)) = some [.val (.int .i64 x.kind), .sl 1 x.data, .sl 2 x.entries, .val (.string x.target), .val (.int .i64 x.peer), .sl 4 (x.queue.map Msg.enc), .val (.int .i64 x.proc), .val (.int .i64 x.links), .val (.int .i64 x.up)] := hg
      refine ok_some hg ?_
      refine bB_beq (fun hx => ?_) (fun hx => ?_)
      · have hq : qO (n - 1) x = true := (by unfold qO; simpa using hx)
        refine ok_some (x := n - 1) (by show natX (vInt .i64 (IntKind.i64.wrap ((((c.l.take n).map Obj.enc).length : Int) - 1))) = _; rw [hz]; rfl) ?_
        refine bB_yes (by simp [Nat.ble_eq]; omega) ?_
        refine ⟨n - 1, hstep hq, (show n - 1 < n by omega), View.of 4 [0, 1, 2, 3] [] rfl rfl rfl rfl rfl rfl ?_ ?_⟩
        · repeat (first | exact .nil | refine .junk ?_ | refine .eq rfl ?_)
        · exact (.dead (.put (notF rfl) rfl (.eq rfl (by simp)) (.put (notF rfl) rfl (CcsVp.var (.cons (vwEq (congrArg (Dt.sl 9) (take_map Obj.enc c.l hnl))) (.cons (.ren (.dat _)) (.cons (.ren (.row 3 4 0 none)) .nil)))) (.put (notF rfl) rfl (.rowDE rfl) (.nil _)))))
      · have hq : qO (n - 1) x = false := (by unfold qO; simpa using hx)
        refine ghost_keep [2, 3] [] ([.dead, .var z3, .var [.dat (objsD (c.l.take n)), .dat (opnD c.ops), .row 3 4 0 none], .row 4 (dRows (c.ps.map Prc.enc))]) (View.of 4 [0, 1, 2, 3] [] rfl rfl rfl rfl rfl rfl ?_ ?_) ?_
        · repeat (first | exact .nil | refine .junk ?_ | refine .eq rfl ?_)
        · exact (.dead (.put (notF rfl) rfl (.eq rfl (by simp)) (.put (notF rfl) rfl (CcsVp.var (.cons (.ren (.dat _)) (.cons (.ren (.dat _)) (.cons (.ren (.row 3 4 0 none)) .nil)))) (.put (notF rfl) rfl (.rowDE rfl) (.nil _)))))
        exact segB4 k a c ha hc hkc n ⟨hn, (.inr ⟨x, hlast, hq⟩)⟩
    · have hn1 : n ≤ 1 := by
        have h : ¬ (((c.l.take n).map Obj.enc).length : Int) > 1 := h
        rw [List.length_map, take_len hnl] at h
        omega
      refine ghost_keep [2, 3] [] ([.dead, .var z3, .var [.dat (objsD (c.l.take n)), .dat (opnD c.ops), .row 3 4 0 none], .row 4 (dRows (c.ps.map Prc.enc))]) (View.of 4 [0, 1, 2, 3] [] rfl rfl rfl rfl rfl rfl ?_ ?_) ?_
      · repeat (first | exact .nil | refine .junk ?_ | refine .eq rfl ?_)
      · exact (.dead (.put (notF rfl) rfl (.eq rfl (by simp)) (.put (notF rfl) rfl (CcsVp.var (.cons (.ren (.dat _)) (.cons (.ren (.dat _)) (.cons (.ren (.row 3 4 0 none)) .nil)))) (.put (notF rfl) rfl (.rowDE rfl) (.nil _)))))
      exact segB4 k a c ha hc hkc n ⟨hn, (.inl hn1)⟩
set_option maxRecDepth 100000 in
/-- Sweep: what once leaves, done so often that no process ends by it, and cut -/
theorem sweep_ok (k : Kr) (hk : KrOK k.l k.ops k.ps) {m : Mem} {K : CV → Mem → Prop} (h : ∀ a c d, SwTo k a → OnceOK a.l a.ops a.ps c.l c.ops c.ps false → SwFin c d → K (kernV d.l d.ops d.ps) m) : ACall Try.prog 15 [kernV k.l k.ops k.ps] m K := by
  refine acall_frame (K0 := KS k) (acall_body_g Try.func15 l15 rfl (Nat.le_of_ble_eq_true rfl) (sweep_body k hk)) (by simp [kernV, objsD, opnD, prcD, CV.isD, CC.isD, RV.isD]) fun r m1 hr => ?_
  obtain ⟨a, c, d, h1, h2, h3, hf⟩ := hr
  exact ⟨_, hf, h a c d h1 h2 h3⟩

/-! what Sweep keeps: plain -/
def ObjKeep (l L : List Obj) : Prop := L.length ≤ l.length ∧ ∀ (i : Nat) o, L[i]? = some o → o.kind ≠ 0 → ∃ o' : Obj, l[i]? = some o' ∧ o = { o' with peer := o.peer }
def PrcKeep (p P : List Prc) : Prop := P.length ≤ p.length ∧ ∀ (i : Nat) x, P[i]? = some x → x.live = true → p[i]? = some x
theorem ObjKeep.refl (l : List Obj) : ObjKeep l l := ⟨Nat.le_refl _, fun i o h _ => ⟨o, h, rfl⟩⟩
theorem ObjKeep.trans {a b c : List Obj} (h1 : ObjKeep a b) (h2 : ObjKeep b c) : ObjKeep a c := by
  refine ⟨Nat.le_trans h2.1 h1.1, fun i o ho hk => ?_⟩
  obtain ⟨o', ho', e⟩ := h2.2 i o ho hk
  have hk' : o'.kind ≠ 0 := by rw [e] at hk; exact hk
  obtain ⟨o2, ho2, e2⟩ := h1.2 i o' ho' hk'
  refine ⟨o2, ho2, ?_⟩
  rw [e, e2]
theorem PrcKeep.refl (l : List Prc) : PrcKeep l l := ⟨Nat.le_refl _, fun i o h _ => h⟩
theorem PrcKeep.trans {a b c : List Prc} (h1 : PrcKeep a b) (h2 : PrcKeep b c) : PrcKeep a c :=
  ⟨Nat.le_trans h2.1 h1.1, fun i x hx hl => h1.2 i x (h2.2 i x hx hl) hl⟩
theorem Pt.get {α : Type} {l L : List α} {f : Nat → α → α} (h : Pt l L f) {i : Nat} {x : α} (hx : L[i]? = some x) : ∃ o, l[i]? = some o ∧ x = f i o := by
  have hlt : i < l.length := by have := (List.getElem?_eq_some_iff.1 hx).1; rw [h.1] at this; exact this
  have := h.2 i l[i] (List.getElem?_eq_getElem hlt)
  rw [hx] at this
  cases this
  exact ⟨_, List.getElem?_eq_getElem hlt, rfl⟩
theorem OnceOK.keep {l : List Obj} {ops : List Opn} {ps : List Prc} {L : List Obj} {L2 : List Opn} {L3 : List Prc} {en : Bool} (h : OnceOK l ops ps L L2 L3 en) : ObjKeep l L ∧ PrcKeep ps L3 := by
  obtain ⟨b, hb, hP, hP2⟩ := h.ex
  refine ⟨⟨by rw [hP.1]; exact Nat.le_refl _, fun i o ho hk => ?_⟩, by rw [h.pr.1]; exact Nat.le_refl _, fun i x hx hl => ?_⟩
  · obtain ⟨o', ho', e⟩ := hP.get ho
    refine ⟨o', ho', ?_⟩
    unfold onceAt at e
    split at e
    · rw [e] at hk; exact absurd rfl hk
    · split at e
      · rw [e]
      · rw [e]
  · obtain ⟨y, hy, e⟩ := h.pr.get hx
    unfold prS at e
    split at e
    · rw [e] at hl; simp [zeroP] at hl
    · rw [e]; exact hy
theorem SwTo.keep {k a : Kr} (h : SwTo k a) : ObjKeep k.l a.l ∧ PrcKeep k.ps a.ps := by
  induction h with
  | refl => exact ⟨.refl _, .refl _⟩
  | step h ho ih => exact ⟨ih.1.trans ho.keep.1, ih.2.trans ho.keep.2⟩
theorem SwTo.kr {k a : Kr} (h : SwTo k a) (hk : KrOK k.l k.ops k.ps) : KrOK a.l a.ops a.ps := by
  induction h with
  | refl => exact hk
  | step h ho ih => exact ho.kr ih
theorem SwFin.keep {c d : Kr} (h : SwFin c d) : ObjKeep c.l d.l ∧ PrcKeep c.ps d.ps := by
  obtain ⟨n1, n2, n3, P, h1, h2, hP, h3, rfl⟩ := h.ex
  refine ⟨⟨by simp [List.length_take]; omega, fun i o ho _ => ?_⟩, by simp [List.length_take]; have := hP.1; omega, fun i x hx hl => ?_⟩
  · have ho : (c.l.take n1)[i]? = some o := ho
    rw [List.getElem?_take] at ho
    split at ho
    · exact ⟨o, ho, rfl⟩
    · cases ho
  · have hx : (P.take n3)[i]? = some x := hx
    rw [List.getElem?_take] at hx
    split at hx
    · obtain ⟨y, hy, e⟩ := hP.get hx
      unfold prZ at e
      split at e
      · rw [e] at hl; simp [zeroP] at hl
      · rw [e]; exact hy
    · cases hx
theorem SwFin.one {c d : Kr} (h : SwFin c d) (hc : c.ps ≠ []) : 1 ≤ d.ps.length := by
  obtain ⟨n1, n2, n3, P, h1, h2, hP, h3, rfl⟩ := h.ex
  have hl : 0 < c.ps.length := List.length_pos_iff.2 hc
  have := h3.t.mn
  rw [hP.1] at this
  have h4 := h3.t.le
  show 1 ≤ (P.take n3).length
  rw [List.length_take]; omega
/-- of a whole sweep -/
theorem sweep_keep {k a c d : Kr} (hk : KrOK k.l k.ops k.ps) (h1 : SwTo k a) (h2 : OnceOK a.l a.ops a.ps c.l c.ops c.ps false) (h3 : SwFin c d) : ObjKeep k.l d.l ∧ PrcKeep k.ps d.ps ∧ 1 ≤ d.ps.length :=
  ⟨(h1.keep.1.trans h2.keep.1).trans h3.keep.1, (h1.keep.2.trans h2.keep.2).trans h3.keep.2, h3.one (h2.kr (h1.kr hk)).ne⟩
/-- what is marked is of a kind -/
theorem MarkOK.kind {l : List Obj} {ops : List Opn} {ps : List Prc} {b : Mk} (h : MarkOK l ops ps b) {i : Nat} (hi : onB b.O i) : ∃ o, l[i]? = some o ∧ o.kind ≠ 0 := by
  refine (h.least (fun i => ∃ o, l[i]? = some o ∧ o.kind ≠ 0) (fun c => c < ops.length) ⟨fun i o _ _ z n _ hv => hv.2, fun i o _ _ z c _ hv => hv.2, fun c o _ _ n hv => hv.2⟩ ⟨fun n hv => hv.2, fun p pr _ _ s _ _ c hv => hv.2⟩).1 i hi
theorem SwFin.kr {c d : Kr} (h : SwFin c d) (k : KrOK c.l c.ops c.ps) : KrOK d.l d.ops d.ps := by
  have h1 := h.one k.ne
  obtain ⟨n1, n2, n3, P, t1, t2, hP, t3, rfl⟩ := h.ex
  refine ⟨fun o ho => k.sm o (List.mem_of_mem_take ho), ?_, ?_, ?_, fun p hp => ?_, fun e => ?_⟩
  · show (c.l.take n1).length ≤ _; rw [List.length_take]; have := k.ll; omega
  · show (c.ops.take n2).length ≤ _; rw [List.length_take]; have := k.lo; omega
  · show (P.take n3).length ≤ _; rw [List.length_take, hP.1]; have := k.lp; omega
  · refine hP.all (Q := fun p => p.slots.length ≤ 10) (fun t o ho => ?_) p (List.mem_of_mem_take hp)
    unfold prZ
    split
    · simp [zeroP]
    · exact k.sl o (List.mem_of_getElem? ho)
  · have h1 : 1 ≤ (P.take n3).length := h1
    have e : P.take n3 = [] := e
    rw [e] at h1
    simp at h1

/-! the closed kernel that is asked first -/
def oA : Obj := ⟨2, [], [], ⟨#[]⟩, 0, [], 0, 1, 0⟩
def oB : Obj := ⟨1, [], [], ⟨#[]⟩, 0, [], 0, 0, 0⟩
def slA : List Sl3 := [⟨true, 1, 0⟩]
def prA : Prc := ⟨true, false, 0, slA⟩
def aK : Kr := ⟨[oA, oB, oB], [⟨2, 0⟩, ⟨1, 0⟩], [prA]⟩
theorem nil_sm (k lk : Int) : Obj.sm ⟨k, [], [], ⟨#[]⟩, 0, [], 0, lk, 0⟩ := ⟨⟨⟨[], rfl⟩, ⟨[], rfl⟩, fun q hq => by simp at hq⟩, by simp, by simp, by simp, fun q hq => by simp at hq⟩
theorem aK_ok : KrOK aK.l aK.ops aK.ps := by
  refine ⟨fun o ho => ?_, by simp [aK], by simp [aK], by simp [aK], fun p hp => ?_, by simp [aK]⟩
  · simp [aK] at ho
    rcases ho with rfl | rfl
    · exact nil_sm 2 1
    · exact nil_sm 1 0
  · simp [aK] at hp
    subst hp
    simp [prA, slA]
theorem bool2 {L : List Bool} (hl : L.length = 2) : L = [L[0]'(by omega), L[1]'(by omega)] := by
  match L, hl with
  | [a, b], _ => rfl
theorem aK_mark {b : Mk} (h : MarkOK aK.l aK.ops aK.ps b) : b = ⟨[true, true, false], [false, true]⟩ := by
  obtain ⟨hO, hP⟩ := h.len
  have hO : b.O.length = 3 := hO
  have hP : b.P.length = 2 := hP
  have r0 : onB b.O 0 := h.roots.1 0 ⟨rfl, oA, rfl, by decide⟩
  have p1 : onB b.P 1 := h.roots.2 0 prA rfl rfl ⟨true, 1, 0⟩ (by simp [prA, slA]) rfl 1 ⟨rfl, by simp [aK]⟩
  have r1 : onB b.O 1 := h.cl.p 1 ⟨1, 0⟩ p1 rfl 1 ⟨rfl, oB, rfl, by decide⟩
  have hle := h.least (fun i => i = 0 ∨ i = 1) (fun c => c = 1) ⟨fun i o hi ho z n ⟨nm, hm⟩ _ => ?_, fun i o hi ho z c ⟨q, hq, _⟩ _ => ?_, fun c o hc ho n hv => ?_⟩ ⟨fun n hv => ?_, fun p pr hp hl s hs hh c hv => ?_⟩
  · obtain ⟨O, P⟩ := b
    match O, hO, P, hP with
    | [x, y, z], _, [u, v], _ =>
      have hx : x = true := by simpa [onB] using r0
      have hy : y = true := by simpa [onB] using r1
      have hv : v = true := by simpa [onB] using p1
      have hz : z = false := by
        cases z with
        | false => rfl
        | true => have := hle.1 2 rfl; omega
      have hu : u = false := by
        cases u with
        | false => rfl
        | true => have := hle.2 0 rfl; omega
      subst hx hy hz hu hv
      rfl
  · rcases hi with rfl | rfl
    · cases ho; simp [oA] at hm
    · cases ho; simp [oB] at hm
  · rcases hi with rfl | rfl
    · cases ho; simp [oA] at hq
    · cases ho; simp [oB] at hq
  · subst hc
    cases ho
    have := hv.1
    simp at this
    omega
  · have := hv.1; omega
  · have hlt : p < 1 := (List.getElem?_eq_some_iff.1 hp).1
    have : p = 0 := by omega
    subst this
    cases hp
    simp [prA, slA] at hs
    subst hs
    have := hv.1
    simp at this
    omega
theorem aK_once {L : List Obj} {L2 : List Opn} {L3 : List Prc} {en : Bool} (h : OnceOK aK.l aK.ops aK.ps L L2 L3 en) : L = [oA, oB, zeroO] ∧ L2 = [⟨-1, 0⟩, ⟨1, 0⟩] ∧ L3 = [prA] ∧ en = false := by
  obtain ⟨b, hb, hP, hP2⟩ := h.ex
  have hb := aK_mark hb
  subst hb
  refine ⟨?_, ?_, ?_, ?_⟩
  · match L, hP.1, hP.2 0 oA rfl, hP.2 1 oB rfl, hP.2 2 oB rfl with
    | [x, y, z], _, h0, h1, h2 =>
      cases h0; cases h1; cases h2
      rfl
  · match L2, hP2.1, hP2.2 0 _ rfl, hP2.2 1 _ rfl with
    | [x, y], _, h0, h1 =>
      cases h0; cases h1
      rfl
  · match L3, h.pr.1, h.pr.2 0 _ rfl with
    | [x], _, h0 =>
      cases h0
      rfl
  · rw [h.en]; rfl
theorem aK_to {a : Kr} (h : SwTo aK a) : a = aK := by
  induction h with
  | refl => rfl
  | step h ho ih =>
    subst ih
    exact absurd (aK_once ho).2.2.2 (by simp)
theorem aK_fin {a c d : Kr} (h1 : SwTo aK a) (h2 : OnceOK a.l a.ops a.ps c.l c.ops c.ps false) (h3 : SwFin c d) : d.l = [oA, oB] ∧ d.ops = [⟨-1, 0⟩, ⟨1, 0⟩] := by
  have ha := aK_to h1
  subst ha
  obtain ⟨e1, e2, e3, _⟩ := aK_once h2
  obtain ⟨n1, n2, n3, P, t1, t2, hP, t3, rfl⟩ := h3.ex
  show c.l.take n1 = _ ∧ c.ops.take n2 = _
  rw [e1] at t1 ⊢
  rw [e2] at t2 ⊢
  have l1 : n1 ≤ 3 := t1.t.le
  have l2 : n2 ≤ 2 := t2.t.le
  have m1 : 1 ≤ n1 := by have := t1.t.mn; simpa using this
  have a1 : n1 ≠ 1 := by
    intro h
    have := t1.t.dr 1 oB (by omega) rfl
    simp [qO, oB] at this
  have a3 : n1 ≠ 3 := by
    intro h
    subst h
    rcases t1.e with h | ⟨o, ho, hq⟩
    · omega
    · cases ho
      simp [qO, zeroO] at hq
  have b2 : ¬ n2 ≤ 1 := by
    intro h
    have := t2.t.dr 1 ⟨1, 0⟩ (by omega) rfl
    simp [qP] at this
  have e1 : n1 = 2 := by omega
  have e2 : n2 = 2 := by omega
  subst e1 e2
  exact ⟨rfl, rfl⟩

end Go.Proofs.Ytnlhnmlojcfljaa
