import Derived.Test.YtbemknkbegkflaaAmZ2
import Derived.Test.YtbemknkbegkflaaDvGd
import Derived.Test.YtbemknkbegkflaaAmY
import Derived.Test.YtbemknkbegkflaaDvGe
set_option linter.unusedVariables false
set_option linter.unusedSimpArgs false
namespace Go.Proofs.Ytbemknkbegkflaa
open Go.AM Go.ChangeShapes Go.WideShapes Go.ChangeAt Go.RowKit
/-! Marks: what is marked, and what that leads to -/
structure Mk where
  O : List Bool
  P : List Bool
def onB (L : List Bool) (i : Nat) : Prop := L[i]? = some true
def vO (l : List Obj) (z : Int) (i : Nat) : Prop := z = i ∧ ∃ o, l[i]? = some o ∧ o.kind ≠ 0
def vP (ops : List Opn) (z : Int) (c : Nat) : Prop := z = c ∧ c < ops.length
def sE (o : Obj) (z : Int) : Prop := ∃ nm : ByteArray, entD (nm, z) ∈ o.entries
def sQ (o : Obj) (z : Int) : Prop := ∃ q, q ∈ o.queue ∧ q.has = true ∧ q.opn = z
structure Step (l : List Obj) (ops : List Opn) (E : Nat → Prop) (a b : Mk) : Prop where
  lo : b.O.length = a.O.length
  lp : b.P.length = a.P.length
  mo : ∀ i, onB a.O i → onB b.O i
  mp : ∀ c, onB a.P c → onB b.P c
  co : ∀ i o, onB b.O i → ¬ onB a.O i → ¬ E i → l[i]? = some o → (∀ z n, sE o z → vO l z n → onB b.O n) ∧ (∀ z c, sQ o z → vP ops z c → onB b.P c)
  cp : ∀ c o, onB b.P c → ¬ onB a.P c → ops[c]? = some o → ∀ n, vO l o.obj n → onB b.O n
/-- what is closed under all that leads on -/
structure Cl (l : List Obj) (ops : List Opn) (RO RP : Nat → Prop) : Prop where
  e : ∀ i o, RO i → l[i]? = some o → ∀ z n, sE o z → vO l z n → RO n
  q : ∀ i o, RO i → l[i]? = some o → ∀ z c, sQ o z → vP ops z c → RP c
  p : ∀ c o, RP c → ops[c]? = some o → ∀ n, vO l o.obj n → RO n
def InR (RO RP : Nat → Prop) (a : Mk) : Prop := (∀ i, onB a.O i → RO i) ∧ (∀ c, onB a.P c → RP c)
def falses (L : List Bool) : Nat := (L.filter (fun b => !b)).length
def Mk.mu (a : Mk) : Nat := falses a.O + falses a.P
theorem Step.refl {l : List Obj} {ops : List Opn} {E : Nat → Prop} (a : Mk) : Step l ops E a a :=
  ⟨rfl, rfl, fun _ h => h, fun _ h => h, fun _ _ h h2 => absurd h h2, fun _ _ h h2 => absurd h h2⟩
theorem Step.trans {l : List Obj} {ops : List Opn} {E : Nat → Prop} {a b c : Mk} (h1 : Step l ops E a b) (h2 : Step l ops (fun _ => False) b c) : Step l ops E a c := by
  refine ⟨h2.lo.trans h1.lo, h2.lp.trans h1.lp, fun i h => h2.mo i (h1.mo i h), fun i h => h2.mp i (h1.mp i h), fun i o hi hn hE ho => ?_, fun i o hi hn ho n hv => ?_⟩
  · by_cases hb : onB b.O i
    · obtain ⟨k1, k2⟩ := h1.co i o hb hn hE ho
      exact ⟨fun z n hz hv => h2.mo n (k1 z n hz hv), fun z c hz hv => h2.mp c (k2 z c hz hv)⟩
    · exact h2.co i o hi hb (fun h => h) ho
  · by_cases hb : onB b.P i
    · exact h2.mo n (h1.cp i o hb hn ho n hv)
    · exact h2.cp i o hi hb ho n hv
theorem falses_le : ∀ (a b : List Bool), b.length = a.length → (∀ i, onB a i → onB b i) → falses b ≤ falses a
  | [], [], _, _ => Nat.le_refl _
  | [], _ :: _, h, _ => by simp at h
  | _ :: _, [], h, _ => by simp at h
  | x :: a, y :: b, h, hm => by
    have ih := falses_le a b (by simpa using h) (fun i hi => by simpa [onB] using hm (i + 1) (by simpa [onB] using hi))
    have h0 : x = true → y = true := fun hx => by simpa [onB] using hm 0 (by simp [onB, hx])
    unfold falses at ih ⊢
    cases x <;> cases y <;> simp at h0 ⊢ <;> omega
theorem falses_set : ∀ (a : List Bool) (n : Nat), a[n]? = some false → falses (a.set n true) + 1 = falses a
  | [], n, h => by simp at h
  | x :: a, 0, h => by
    simp at h
    subst h
    simp [falses]
  | x :: a, n + 1, h => by
    have ih := falses_set a n (by simpa using h)
    unfold falses at ih ⊢
    cases x <;> simp at ih ⊢ <;> omega
theorem Step.mu_le {l : List Obj} {ops : List Opn} {E : Nat → Prop} {a b : Mk} (h : Step l ops E a b) : b.mu ≤ a.mu :=
  Nat.add_le_add (falses_le _ _ h.lo h.mo) (falses_le _ _ h.lp h.mp)
theorem onB_set {L : List Bool} {n i : Nat} (h : onB L i) : onB (L.set n true) i := by
  unfold onB at h ⊢
  rw [List.getElem?_set]
  split
  · rename_i e
    subst e
    have := (List.getElem?_eq_some_iff.1 h).1
    simp [this]
  · exact h
theorem onB_set_self {L : List Bool} {n : Nat} (h : n < L.length) : onB (L.set n true) n := by
  unfold onB
  simp [h]
theorem onB_set_or {L : List Bool} {n i : Nat} (h : onB (L.set n true) i) : onB L i ∨ i = n := by
  unfold onB at h ⊢
  rw [List.getElem?_set] at h
  split at h
  · rename_i e; exact .inr e.symm
  · exact .inl h
/-- what the marking of an object comes to -/
structure PO (l : List Obj) (ops : List Opn) (z : Int) (a b : Mk) : Prop where
  st : Step l ops (fun _ => False) a b
  on : ∀ n, vO l z n → onB b.O n
  sd : ∀ RO RP, Cl l ops RO RP → InR RO RP a → (∀ n, vO l z n → RO n) → InR RO RP b
structure PP (l : List Obj) (ops : List Opn) (z : Int) (a b : Mk) : Prop where
  st : Step l ops (fun _ => False) a b
  on : ∀ c, vP ops z c → onB b.P c
  sd : ∀ RO RP, Cl l ops RO RP → InR RO RP a → (∀ c, vP ops z c → RP c) → InR RO RP b
theorem PO.none {l : List Obj} {ops : List Opn} {z : Int} {a : Mk} (h : ∀ n, vO l z n → onB a.O n) : PO l ops z a a := ⟨.refl a, h, fun _ _ _ h _ => h⟩
theorem PP.none {l : List Obj} {ops : List Opn} {z : Int} {a : Mk} (h : ∀ n, vP ops z n → onB a.P n) : PP l ops z a a := ⟨.refl a, h, fun _ _ _ h _ => h⟩
/-- between: an object is marked, and so much of what is in it was gone through -/
structure Mid (l : List Obj) (ops : List Opn) (n : Nat) (a b : Mk) (nE nQ : Nat) (es : List (ByteArray × Int)) (qs : List Msg) : Prop where
  st : Step l ops (fun i => i = n) a b
  on : onB b.O n
  e : ∀ j e, j < nE → es[j]? = some e → ∀ m, vO l e.2 m → onB b.O m
  q : ∀ j q, j < nQ → qs[j]? = some q → q.has = true → ∀ c, vP ops q.opn c → onB b.P c
  sd : ∀ RO RP, Cl l ops RO RP → InR RO RP a → RO n → InR RO RP b
theorem Mid.start {l : List Obj} {ops : List Opn} {n : Nat} {a : Mk} (hn : n < a.O.length) (es : List (ByteArray × Int)) (qs : List Msg) : Mid l ops n a ⟨a.O.set n true, a.P⟩ 0 0 es qs := by
  refine ⟨⟨by simp, rfl, fun i h => onB_set h, fun i h => h, fun i o h h2 h3 => ?_, fun _ _ h h2 => absurd h h2⟩, onB_set_self hn, fun j e h => absurd h (Nat.not_lt_zero j), fun j e h => absurd h (Nat.not_lt_zero j), fun RO RP _ h hr => ⟨fun i hi => ?_, h.2⟩⟩
  · rcases onB_set_or h with h | h
    · exact absurd h h2
    · exact absurd h h3
  · rcases onB_set_or hi with hi | rfl
    · exact h.1 i hi
    · exact hr
theorem Mid.stepE {l : List Obj} {ops : List Opn} {n : Nat} {a b c : Mk} {j : Nat} {es : List (ByteArray × Int)} {qs : List Msg} (h : Mid l ops n a b j 0 es qs) {e : ByteArray × Int} (he : es[j]? = some e) (hc : PO l ops e.2 b c)
    {o : Obj} (ho : l[n]? = some o) (hes : o.entries = es.map entD) : Mid l ops n a c (j + 1) 0 es qs := by
  have hse : sE o e.2 := ⟨e.1, by rw [hes]; exact List.mem_map_of_mem (List.mem_of_getElem? he)⟩
  refine ⟨h.st.trans hc.st, hc.st.mo n h.on, fun i x hi hx m hv => ?_, fun i x hi => absurd hi (Nat.not_lt_zero i), fun RO RP hcl hin hr => hc.sd RO RP hcl (h.sd RO RP hcl hin hr) fun m hv => hcl.e n o hr ho e.2 m hse hv⟩
  rcases Nat.lt_or_ge i j with hij | hij
  · exact hc.st.mo m (h.e i x hij hx m hv)
  · have : i = j := by omega
    subst this
    rw [he] at hx
    cases hx
    exact hc.on m hv
theorem Mid.stepQ {l : List Obj} {ops : List Opn} {n : Nat} {a b c : Mk} {k j : Nat} {es : List (ByteArray × Int)} {qs : List Msg} (h : Mid l ops n a b k j es qs) {q : Msg} (hq : qs[j]? = some q) (hh : q.has = true) (hc : PP l ops q.opn b c)
    {o : Obj} (ho : l[n]? = some o) (hqs : o.queue = qs) : Mid l ops n a c k (j + 1) es qs := by
  have hsq : sQ o q.opn := ⟨q, by rw [hqs]; exact List.mem_of_getElem? hq, hh, rfl⟩
  refine ⟨h.st.trans hc.st, hc.st.mo n h.on, fun i x hi hx m hv => hc.st.mo m (h.e i x hi hx m hv), fun i x hi hx hxh m hv => ?_, fun RO RP hcl hin hr => hc.sd RO RP hcl (h.sd RO RP hcl hin hr) fun m hv => hcl.q n o hr ho q.opn m hsq hv⟩
  rcases Nat.lt_or_ge i j with hij | hij
  · exact hc.st.mp m (h.q i x hij hx hxh m hv)
  · have : i = j := by omega
    subst this
    rw [hq] at hx
    cases hx
    exact hc.on m hv
theorem Mid.skipQ {l : List Obj} {ops : List Opn} {n : Nat} {a b : Mk} {k j : Nat} {es : List (ByteArray × Int)} {qs : List Msg} (h : Mid l ops n a b k j es qs) {q : Msg} (hq : qs[j]? = some q) (hh : q.has = false) : Mid l ops n a b k (j + 1) es qs := by
  refine ⟨h.st, h.on, h.e, fun i x hi hx hxh m hv => ?_, h.sd⟩
  rcases Nat.lt_or_ge i j with hij | hij
  · exact h.q i x hij hx hxh m hv
  · have : i = j := by omega
    subst this
    rw [hq] at hx
    cases hx
    rw [hh] at hxh
    cases hxh
theorem Mid.fin {l : List Obj} {ops : List Opn} {n : Nat} {a b : Mk} {es : List (ByteArray × Int)} {qs : List Msg} (h : Mid l ops n a b es.length qs.length es qs) {o : Obj} (ho : l[n]? = some o) (hk : o.kind ≠ 0) (hes : o.entries = es.map entD) (hqs : o.queue = qs) : PO l ops (n : Int) a b := by
  refine ⟨⟨h.st.lo, h.st.lp, h.st.mo, h.st.mp, fun i x hi hni _ hx => ?_, h.st.cp⟩, fun m hv => ?_, fun RO RP hcl hin hr => h.sd RO RP hcl hin (hr n ⟨rfl, o, ho, hk⟩)⟩
  · by_cases hin : i = n
    · subst hin
      rw [ho] at hx
      cases hx
      refine ⟨fun z m ⟨nm, hm⟩ hv => ?_, fun z c ⟨q, hq, hh, hz⟩ hv => ?_⟩
      · rw [hes] at hm
        obtain ⟨e, he, hee⟩ := List.mem_map.1 hm
        have : e.2 = z := by
          simp [entD] at hee
          exact hee.2
        subst this
        obtain ⟨j, hj⟩ := List.getElem?_of_mem he
        exact h.e j e (List.getElem?_eq_some_iff.1 hj).1 hj m hv
      · rw [hqs] at hq
        obtain ⟨j, hj⟩ := List.getElem?_of_mem hq
        subst hz
        exact h.q j q (List.getElem?_eq_some_iff.1 hj).1 hj hh c hv
    · exact h.st.co i x hi hni hin hx
  · have : m = n := by have := hv.1; omega
    subst this
    exact h.on
theorem PP.of {l : List Obj} {ops : List Opn} {a b : Mk} {c : Nat} (hc : c < a.P.length) {o : Opn} (ho : ops[c]? = some o) (h : PO l ops o.obj ⟨a.O, a.P.set c true⟩ b) : PP l ops (c : Int) a b := by
  have hst : Step l ops (fun _ => False) a b := by
    refine ⟨h.st.lo, by have := h.st.lp; simpa using this, h.st.mo, fun i hi => h.st.mp i (onB_set hi), fun i x hi hni => h.st.co i x hi hni, fun i x hi hni hx n hv => ?_⟩
    by_cases hic : i = c
    · subst hic
      rw [ho] at hx
      cases hx
      exact h.on n hv
    · exact h.st.cp i x hi (fun hs => (onB_set_or hs).elim hni hic) hx n hv
  refine ⟨hst, fun d hd => ?_, fun RO RP hcl hin hr => ?_⟩
  · have : d = c := by have := hd.1; omega
    subst this
    exact h.st.mp d (onB_set_self hc)
  · have hrc : RP c := hr c ⟨rfl, (List.getElem?_eq_some_iff.1 ho).1⟩
    exact h.sd RO RP hcl ⟨hin.1, fun i hi => (onB_set_or hi).elim (hin.2 i) fun e => e ▸ hrc⟩ fun n hv => hcl.p c o hrc ho n hv

/-! marker.obj, marker.cap: over a kernel that is data -/
def bE (b : Bool) : List Dt := [.val (.bool b)]
def M0 (l : List Obj) (ops : List Opn) (ps : List Prc) (a : Mk) : Mem :=
  [.var [.ptr 1 0, .row 2 1 0 none, .row 3 1 0 none], .var [.dat (objsD l), .dat (opnD ops), .dat (prcD ps)], .row 1 (dRows (a.O.map bE)), .row 1 (dRows (a.P.map bE))]
theorem borrowD {l : List Obj} {ops : List Opn} {ps : List Prc} {a : Mk} {f : Nat} {args : List CV} {Q : Mk → Prop} (h : ACall Try.prog f args (M0 l ops ps a) (fun r m => ∃ b, Q b ∧ r = .tup [] ∧ m = M0 l ops ps b)) (x : Bk)
    (hargs : args = args.map (CV.ren (sg [0, 1, 2, 3] 5))) {K : CV → Mem → Prop} (hK : ∀ b, Q b → K (.tup []) [.var [.ptr 1 0, .row 2 1 0 none, .row 3 1 0 none], .var [.dat (objsD l), .dat (opnD ops), .dat (prcD ps)], .row 1 (dRows (b.O.map bE)), .row 1 (dRows (b.P.map bE)), x]) :
    ACall Try.prog f args [.var [.ptr 1 0, .row 2 1 0 none, .row 3 1 0 none], .var [.dat (objsD l), .dat (opnD ops), .dat (prcD ps)], .row 1 (dRows (a.O.map bE)), .row 1 (dRows (a.P.map bE)), x] K := by
  refine acall_borrow [0, 1, 2, 3] 5 rfl rfl rfl rfl (args0 := args) hargs (fun i b' hi => ?_) h (fun r m1 hr => ?_)
  · match i, hi with
    | 0, hi => cases hi; exact .inr ⟨fun h => h, _, rfl, .eq rfl (by simp)⟩
    | 1, hi => cases hi; exact .inr ⟨fun h => h, _, rfl, .eq rfl (by simp)⟩
    | 2, hi => cases hi; exact .inr ⟨fun h => h, _, rfl, .rowDE rfl⟩
    | 3, hi => cases hi; exact .inr ⟨fun h => h, _, rfl, .rowDE rfl⟩
    | n + 4, hi => simp [M0] at hi
  · obtain ⟨b, hb, rfl, rfl⟩ := hr
    refine ⟨Nat.le_refl _, ?_⟩
    have e2 : (Bk.row 1 (dRows (b.O.map bE))).ren (sg [0, 1, 2, 3] 5) = .row 1 (dRows (b.O.map bE)) := by simp only [Bk.ren, dRows_ren]
    have e3 : (Bk.row 1 (dRows (b.P.map bE))).ren (sg [0, 1, 2, 3] 5) = .row 1 (dRows (b.P.map bE)) := by simp only [Bk.ren, dRows_ren]
    show K _ [.var [.ptr 1 0, .row 2 1 0 none, .row 3 1 0 none], .var [.dat (objsD l), .dat (opnD ops), .dat (prcD ps)], (Bk.row 1 (dRows (b.O.map bE))).ren (sg [0, 1, 2, 3] 5), (Bk.row 1 (dRows (b.P.map bE))).ren (sg [0, 1, 2, 3] 5), x]
    rw [e2, e3]
    exact hK b hb
def bseO (l : List Obj) (ops : List Opn) (a : Mk) : Prop := a.O.length = l.length ∧ a.P.length = ops.length
theorem bO_get {L : List Bool} {n : Nat} (h : n < L.length) : nth (dRows (L.map bE)) n = some [.dat (.val (.bool L[n]))] := dRows_nth' bE L h
theorem b_idx {L : List Bool} {n : Nat} (h : n < L.length) : idxZ (n : Int) (lenOf (dRows (L.map bE)).length 0 none) = some n := idxZ_nat (by show n < (dRows (L.map bE)).length; rw [dRows_len, List.length_map]; exact h)
theorem bO_set {L : List Bool} {n : Nat} : setN (dRows (L.map bE)) n [CC.dat (.val (.bool true))] = dRows ((L.set n true).map bE) := dRows_set' bE L n true
theorem Mid.mu_le {l : List Obj} {ops : List Opn} {n : Nat} {a b : Mk} {k j : Nat} {es : List (ByteArray × Int)} {qs : List Msg} (h : Mid l ops n a b k j es qs) : b.mu ≤ (⟨a.O.set n true, a.P⟩ : Mk).mu := by
  refine Nat.add_le_add (falses_le _ _ (by rw [List.length_set]; exact h.st.lo) fun i hi => ?_) (falses_le _ _ h.st.lp h.st.mp)
  rcases onB_set_or hi with hi | rfl
  · exact h.st.mo i hi
  · exact h.on
theorem msg_get {qs : List Msg} {k : Nat} (h : k < qs.length) : getZ (qs.map Msg.enc) (k : Nat) = some [.sl 1 qs[k].data, .val (.bool qs[k].has), .val (.int .i64 qs[k].opn), .val (.int .i64 qs[k].rts)] := by
  rw [getZ_nat, List.getElem?_map, List.getElem?_eq_getElem h]; rfl
structure StM where
  j : Nat
  b : Mk
def c15 : LF := ⟨17, [], (.seq (.reg [
    ⟨(some 5), .fadr 0 (.t 1), none⟩,
    ⟨(some 6), .load false 1 (.t 5), none⟩,
    ⟨(some 7), .mov (.t 0), none⟩,
    ⟨(some 8), .call (.c (.rv (.one (.fn 16 [])))) [(.t 6), (.t 7), (.c (.rv (.one (.dat (.val (.int .i64 (0)))))))], none⟩,
    ⟨(some 9), .mov (.t 8), none⟩,
    ⟨(some 10), .load false 1 (.t 2), (some (9, true))⟩,
    ⟨(some 11), .mov (.t 0), (some (9, true))⟩,
    ⟨(some 12), .mget (.one (.dat (.val (.bool false)))) (.i .i64) (.t 10) (.t 11) false, (some (9, true))⟩,
    ⟨(some 13), .un .not (.t 12), (some (9, true))⟩,
    ⟨(some 14), .pick (.t 9) (.t 13) (.c (.rv (.one (.dat (.val (.bool false)))))), none⟩]) (.cond (.t 14) (.seq (.reg [
    ⟨(some 15), .load false 1 (.t 2), none⟩,
    ⟨(some 16), .mov (.t 0), none⟩,
    ⟨none, .mset (.i .i64) (.t 15) (.t 16) (.c (.rv (.one (.dat (.val (.bool true)))))), none⟩]) (.reg [
    ⟨none, .store 1 (.t 3) (.c (.rv (.one (.dat (.val (.bool true)))))), none⟩])) .skip))⟩
def c17 : LF := ⟨24, [], (.seq (.reg [
    ⟨(some 3), .box (.t 0), none⟩]) (.seq (.reg [
    ⟨(some 4), .fadr 0 (.t 3), none⟩,
    ⟨(some 5), .load false 1 (.t 4), none⟩,
    ⟨(some 6), .bin .geq (.t 5) (.c (.rv (.one (.dat (.val (.int .i64 (0))))))), none⟩,
    ⟨(some 7), .mov (.t 6), none⟩,
    ⟨(some 8), .fadr 0 (.t 3), (some (7, true))⟩,
    ⟨(some 9), .load false 1 (.t 8), (some (7, true))⟩,
    ⟨(some 10), .fadr 1 (.t 1), (some (7, true))⟩,
    ⟨(some 11), .load false 1 (.t 10), (some (7, true))⟩,
    ⟨(some 12), .len 1 (.t 11), (some (7, true))⟩,
    ⟨(some 13), .bin .lss (.t 9) (.t 12), (some (7, true))⟩,
    ⟨(some 14), .pick (.t 7) (.t 13) (.c (.rv (.one (.dat (.val (.bool false)))))), none⟩]) (.cond (.t 14) (.draw [
    ⟨(some 15), .load false 1 (.t 2), none⟩,
    ⟨(some 16), .fadr 1 (.t 1), none⟩,
    ⟨(some 17), .load false 1 (.t 16), none⟩,
    ⟨(some 18), .fadr 0 (.t 3), none⟩,
    ⟨(some 19), .load false 1 (.t 18), none⟩,
    ⟨(some 20), .idx 2 (.t 17) (.t 19), none⟩,
    ⟨(some 21), .fadr 0 (.t 20), none⟩,
    ⟨(some 22), .load false 1 (.t 21), none⟩,
    ⟨(some 23), .call (.t 15) [(.t 22)], none⟩]
    [(.cons 0 none (.cons 1 none (.cons 2 none (.cons 3 none (.cons 4 none (.cons 5 none (.cons 6 none (.cons 7 none (.cons 8 (some []) .nil)))))))))]) .skip)))⟩
def c18 : LF := ⟨42, [], (.seq (.seq (.reg [
    ⟨(some 6), .mov (.t 0), none⟩,
    ⟨(some 7), .bin .lss (.t 6) (.c (.rv (.one (.dat (.val (.int .i64 (0))))))), none⟩,
    ⟨(some 8), .mov (.t 7), none⟩,
    ⟨(some 9), .mov (.t 0), (some (8, false))⟩,
    ⟨(some 10), .fadr 2 (.t 1), (some (8, false))⟩,
    ⟨(some 11), .load false 1 (.t 10), (some (8, false))⟩,
    ⟨(some 12), .len 1 (.t 11), (some (8, false))⟩,
    ⟨(some 13), .bin .geq (.t 9) (.t 12), (some (8, false))⟩,
    ⟨(some 14), .pick (.t 8) (.c (.rv (.one (.dat (.val (.bool true)))))) (.t 13), none⟩,
    ⟨(some 15), .mov (.t 14), none⟩,
    ⟨(some 16), .fadr 2 (.t 1), (some (15, false))⟩,
    ⟨(some 17), .load false 1 (.t 16), (some (15, false))⟩,
    ⟨(some 18), .mov (.t 0), (some (15, false))⟩,
    ⟨(some 19), .idx 4 (.t 17) (.t 18), (some (15, false))⟩,
    ⟨(some 20), .fadr 0 (.t 19), (some (15, false))⟩,
    ⟨(some 21), .load false 1 (.t 20), (some (15, false))⟩,
    ⟨(some 22), .un .not (.t 21), (some (15, false))⟩,
    ⟨(some 23), .pick (.t 15) (.c (.rv (.one (.dat (.val (.bool true)))))) (.t 22), none⟩]) (.cond (.t 23) .ret .skip)) (.seq (.reg [
    ⟨(some 24), .fadr 2 (.t 1), none⟩,
    ⟨(some 25), .load false 1 (.t 24), none⟩,
    ⟨(some 26), .mov (.t 0), none⟩,
    ⟨(some 27), .idx 4 (.t 25) (.t 26), none⟩,
    ⟨(some 28), .fadr 3 (.t 27), none⟩,
    ⟨(some 29), .load false 1 (.t 28), none⟩,
    ⟨(some 30), .len 1 (.t 29), none⟩,
    ⟨(some 31), .mov (.c (.rv (.one (.dat (.val (.int .i64 (0))))))), none⟩]) (.block 0 (.loop (.seq (.reg [
    ⟨(some 32), .bin .lss (.t 31) (.t 30), none⟩]) (.seq (.cond (.t 32) .skip (.exit 0)) (.seq (.block 1 (.seq (.reg [
    ⟨(some 33), .idx 3 (.t 29) (.t 31), none⟩,
    ⟨(some 34), .load true 3 (.t 33), none⟩,
    ⟨(some 5), .alloc [(.dat (.val (.bool false))), (.dat (.val (.int .i64 (0)))), (.dat (.val (.int .i64 (0))))], none⟩,
    ⟨none, .store 3 (.t 5) (.t 34), none⟩]) (.seq (.reg [
    ⟨(some 35), .fadr 0 (.t 5), none⟩,
    ⟨(some 36), .load false 1 (.t 35), none⟩]) (.cond (.t 36) (.reg [
    ⟨(some 37), .load false 1 (.t 2), none⟩,
    ⟨(some 38), .fadr 1 (.t 5), none⟩,
    ⟨(some 39), .load true 2 (.t 38), none⟩,
    ⟨(some 40), .call (.t 37) [(.t 39)], none⟩]) .skip)))) (.reg [
    ⟨(some 41), .bin .add (.t 31) (.c (.rv (.one (.dat (.val (.int .i64 (1))))))), none⟩,
    ⟨(some 31), .mov (.t 41), none⟩]))))))))⟩
/-! Fence: what processes can come to; the document's closures -/
namespace Fe
theorem l15 : lowF Try.prog Try.f15 = some c15 := by kernel_rfl
theorem l17 : lowF Try.prog Try.f17 = some c17 := by kernel_rfl
theorem l18 : lowF Try.prog Try.f18 = some c18 := by kernel_rfl
def tt1 : RV := .one (.dat (.val (.bool true)))
def entN (n : Nat) : ME := ⟨.int .i64 (n : Nat), tt1⟩
def inN (L : List Nat) (z : Int) : Bool := L.any fun n => z == (n : Int)
theorem mFind_N (z : Int) : ∀ L : List Nat, mFind (.int .i64 z) (L.map entN) = some (if inN L z = true then some tt1 else none)
  | [] => rfl
  | n :: r => by
    have ih := mFind_N z r
    simp only [List.map_cons, mFind, entN, keyEq, decide_true]
    simp only [inN, List.any_cons] at ih ⊢
    by_cases h : z = (n : Int)
    · subst h
      simp
    · have h1 : (z == (n : Int)) = false := by simpa using h
      simp only [h1, Bool.false_or]
      exact ih
theorem mSet_N (z : Int) : ∀ L : List Nat, inN L z = false → mSet (.int .i64 z) tt1 (L.map entN) = some (L.map entN ++ [⟨.int .i64 z, tt1⟩])
  | [], _ => rfl
  | n :: r, h => by
    simp only [inN, List.any_cons, Bool.or_eq_false_iff] at h
    obtain ⟨h1, h2⟩ := h
    have ih := mSet_N z r h2
    simp only [List.map_cons, mSet, entN, keyEq, decide_true, h1]
    rw [ih]
    rfl
theorem mapN_ren {σ : Nat → Nat} (L : List Nat) : (Bk.mp (L.map entN)).ren σ = .mp (L.map entN) := by
  simp [Bk.ren, RV.ren, CC.ren, entN, tt1, Function.comp_def]
theorem inN_iff {L : List Nat} {n : Nat} : inN L (n : Int) = true ↔ n ∈ L := by
  rw [inN, List.any_eq_true]
  constructor
  · rintro ⟨x, hx, h⟩
    have : (n : Int) = x := by simpa using h
    have : n = x := by omega
    rw [this]; exact hx
  · intro h
    exact ⟨n, h, by simp⟩
/-- one more is marked -/
def markL (l : List Obj) (z : Int) (L : List Nat) : List Nat := if (isS l z 0 && !inN L z) = true then L ++ [z.toNat] else L
def markM (l : List Obj) (z : Int) (L : List Nat) (more : Bool) : Bool := if (isS l z 0 && !inN L z) = true then true else more
theorem isS0 {l : List Obj} {z : Int} : isS l z 0 = true ↔ ∃ n, vO l z n := by
  unfold isS vO
  constructor
  · intro h
    by_cases h0 : z ≥ 0
    · obtain ⟨n, rfl⟩ : ∃ n : Nat, z = n := ⟨z.toNat, by omega⟩
      by_cases hn : n < l.length
      · simp [hn] at h
        exact ⟨n, rfl, l[n], List.getElem?_eq_getElem hn, h⟩
      · simp [hn] at h
    · simp [h0] at h
  · rintro ⟨n, rfl, o, ho, hk⟩
    obtain ⟨hn, rfl⟩ := List.getElem?_eq_some_iff.1 ho
    simp [hn, hk]
def kB (l : List Obj) (ops : List Opn) (ps : List Prc) : Bk := .var [.dat (objsD l), .dat (opnD ops), .dat (prcD ps)]
def hadC : Bk := .var [.map 1]
def boolC (b : Bool) : Bk := .var [.dat (.val (.bool b))]
set_option maxRecDepth 100000 in
set_option maxHeartbeats 4000000 in
theorem rmark_body (l : List Obj) (ops : List Opn) (ps : List Prc) (z : Int) (L : List Nat) (more : Bool) :
    body Try.prog c15 [vInt .i64 z, .rv (.one (.ptr 0 0)), .rv (.one (.ptr 2 0)), .rv (.one (.ptr 3 0))] [kB l ops ps, .mp (L.map entN), hadC, boolC more]
      (fun r m => r = .tup [] ∧ m = [kB l ops ps, .mp ((markL l z L).map entN), hadC, boolC (markM l z L more)]) := by
  refine is_ok l z 0 ?_
  cases hI : isS l z 0 with
  | false =>
    have e1 : markL l z L = L := by rw [markL, hI]; rfl
    have e2 : markM l z L more = more := by rw [markM, hI]; rfl
    rw [e1, e2]
    exact ⟨rfl, rfl⟩
  | true =>
    refine ok_some (mFind_N z L) ?_
    cases hN : inN L z with
    | true =>
      have e1 : markL l z L = L := by rw [markL, hI, hN]; rfl
      have e2 : markM l z L more = more := by rw [markM, hI, hN]; rfl
      rw [e1, e2]
      exact ⟨rfl, rfl⟩
    | false =>
      have e1 : markL l z L = L ++ [z.toNat] := by rw [markL, hI, hN]; rfl
      have e2 : markM l z L more = true := by rw [markM, hI, hN]; rfl
      rw [e1, e2]
      refine ok_some (mSet_N z L hN) ?_
      obtain ⟨n, rfl, _⟩ := isS0.1 hI
      refine ⟨rfl, ?_⟩
      rw [List.map_append]
      rfl
theorem sg_low {l : List Nat} {n k x : Nat} (h : nth l k = some x) : sg l n k = x := by simp [sg, h]
set_option maxRecDepth 100000 in
theorem rmark_ok (l : List Obj) (ops : List Opn) (ps : List Prc) (z : Int) (L : List Nat) (more : Bool) (R : Mem) {K : CV → Mem → Prop} (h : K (.tup []) (kB l ops ps :: .mp ((markL l z L).map entN) :: hadC :: boolC (markM l z L more) :: R)) :
    ACall Try.prog 15 [vInt .i64 z, .rv (.one (.ptr 0 0)), .rv (.one (.ptr 2 0)), .rv (.one (.ptr 3 0))] (kB l ops ps :: .mp (L.map entN) :: hadC :: boolC more :: R) K := by
  refine acall_borrow [0, 1, 2, 3] (R.length + 4) rfl rfl rfl (by simp [allLt, Nat.blt]) (args0 := [vInt .i64 z, .rv (.one (.ptr 0 0)), .rv (.one (.ptr 2 0)), .rv (.one (.ptr 3 0))]) rfl (m0 := [kB l ops ps, .mp (L.map entN), hadC, boolC more]) (fun i b' hi => ?_)
    (acall_body Try.func15 l15 rfl (Nat.le_of_ble_eq_true rfl) (rmark_body l ops ps z L more)) (fun r m1 hr => ?_)
  · match i, hi with
    | 0, hi => cases hi; exact .inr ⟨fun h => h, _, rfl, .eq rfl (by simp [kB])⟩
    | 1, hi => cases hi; exact .inr ⟨fun h => h, _, rfl, .eq (mapN_ren L) (by simp)⟩
    | 2, hi => cases hi; exact .inr ⟨fun h => h, _, rfl, .eq rfl (by simp [hadC])⟩
    | 3, hi => cases hi; exact .inr ⟨fun h => h, _, rfl, .eq rfl (by simp [boolC])⟩
    | n + 4, hi => simp at hi
  · obtain ⟨rfl, rfl⟩ := hr
    refine ⟨Nat.le_refl _, ?_⟩
    show K (.tup []) (kB l ops ps :: (Bk.mp ((markL l z L).map entN)).ren (sg [0, 1, 2, 3] (R.length + 4)) :: hadC :: boolC (markM l z L more) :: app2 R [])
    rw [mapN_ren, app2_eq, List.append_nil]
    exact h
/-! what a capability leads to -/
def capZ (ops : List Opn) (z : Int) : Int := if 0 ≤ z then (match ops[z.toNat]? with | some o => o.obj | none => -1) else -1
theorem markL_neg (l : List Obj) (L : List Nat) (more : Bool) : markL l (-1) L = L ∧ markM l (-1) L more = more := by
  have : isS l (-1) 0 = false := by simp [isS]
  constructor
  · rw [markL, this]; rfl
  · rw [markM, this]; rfl
def fnB : Bk := .var [.fn 15 [0, 2, 3]]
theorem opn_get {ops : List Opn} {k : Nat} (h : k < ops.length) : getZ (ops.map Opn.enc) (k : Nat) = some [.val (.int .i64 ops[k].obj), .val (.int .i64 ops[k].at')] := by
  rw [getZ_nat, List.getElem?_map, List.getElem?_eq_getElem h]; rfl
set_option maxRecDepth 100000 in
set_option maxHeartbeats 4000000 in
theorem rcap_body (l : List Obj) (ops : List Opn) (ps : List Prc) (z rts : Int) (L : List Nat) (more : Bool) :
    body Try.prog c17 [.rv (.agg [.dat (.val (.int .i64 z)), .dat (.val (.int .i64 rts))]), .rv (.one (.ptr 0 0)), .rv (.one (.ptr 4 0))] [kB l ops ps, .mp (L.map entN), hadC, boolC more, fnB]
      (fun r m => r = .tup [] ∧ ∃ x, m = [kB l ops ps, .mp ((markL l (capZ ops z) L).map entN), hadC, boolC (markM l (capZ ops z) L more), fnB, x]) := by
  obtain ⟨n1, n2⟩ := markL_neg l L more
  refine bB_dec (fun h0 => ?_) (fun h0 => ?_)
  · obtain ⟨n, rfl⟩ : ∃ n : Nat, z = n := ⟨z.toNat, by omega⟩
    refine bB_dec (fun h => ?_) (fun h => ?_)
    · have hlt : n < ops.length := by
        have h : (n : Int) < ((ops.map Opn.enc).length : Int) := h
        rw [List.length_map] at h
        omega
      have hz : capZ ops (n : Int) = ops[n].obj := by
        rw [capZ, if_pos (by omega), Int.toNat_natCast, List.getElem?_eq_getElem hlt]
      rw [hz]
      refine ok_some (opn_get hlt) ?_
      refine rmark_ok l ops ps ops[n].obj L more [fnB, .var [.dat (.val (.int .i64 (n : Nat))), .dat (.val (.int .i64 rts))]] ?_
      exact ⟨trivial, rfl, _, rfl⟩
    · have hge : ops.length ≤ n := by
        have h : ¬ (n : Int) < ((ops.map Opn.enc).length : Int) := h
        rw [List.length_map] at h
        omega
      have hz : capZ ops (n : Int) = -1 := by
        rw [capZ, if_pos (by omega), Int.toNat_natCast, List.getElem?_eq_none hge]
      rw [hz, n1, n2]
      exact ⟨rfl, _, rfl⟩
  · have hz : capZ ops z = -1 := by rw [capZ, if_neg (by omega)]
    rw [hz, n1, n2]
    exact ⟨rfl, _, rfl⟩
set_option maxRecDepth 100000 in
theorem rcap_ok (l : List Obj) (ops : List Opn) (ps : List Prc) (z rts : Int) (L : List Nat) (more : Bool) (R : Mem) {K : CV → Mem → Prop} (h : K (.tup []) (kB l ops ps :: .mp ((markL l (capZ ops z) L).map entN) :: hadC :: boolC (markM l (capZ ops z) L more) :: fnB :: R)) :
    ACall Try.prog 17 [.rv (.agg [.dat (.val (.int .i64 z)), .dat (.val (.int .i64 rts))]), .rv (.one (.ptr 0 0)), .rv (.one (.ptr 4 0))] (kB l ops ps :: .mp (L.map entN) :: hadC :: boolC more :: fnB :: R) K := by
  refine acall_borrow [0, 1, 2, 3, 4] (R.length + 5) rfl rfl rfl (by simp [allLt, Nat.blt]) (args0 := [.rv (.agg [.dat (.val (.int .i64 z)), .dat (.val (.int .i64 rts))]), .rv (.one (.ptr 0 0)), .rv (.one (.ptr 4 0))]) rfl (m0 := [kB l ops ps, .mp (L.map entN), hadC, boolC more, fnB]) (fun i b' hi => ?_)
    (K0 := fun r m => r = .tup [] ∧ m = [kB l ops ps, .mp ((markL l (capZ ops z) L).map entN), hadC, boolC (markM l (capZ ops z) L more), fnB])
    (acall_view (acall_body Try.func17 l17 rfl (Nat.le_of_ble_eq_true rfl) (rcap_body l ops ps z rts L more)) (fun r m1 hr => ?_)) (fun r m1 hr => ?_)
  · match i, hi with
    | 0, hi => cases hi; exact .inr ⟨fun h => h, _, rfl, .eq rfl (by simp [kB])⟩
    | 1, hi => cases hi; exact .inr ⟨fun h => h, _, rfl, .eq (mapN_ren L) (by simp)⟩
    | 2, hi => cases hi; exact .inr ⟨fun h => h, _, rfl, .eq rfl (by simp [hadC])⟩
    | 3, hi => cases hi; exact .inr ⟨fun h => h, _, rfl, .eq rfl (by simp [boolC])⟩
    | 4, hi => cases hi; exact .inr ⟨fun h => h, _, rfl, .eq rfl (by simp [fnB])⟩
    | n + 5, hi => simp at hi
  · obtain ⟨rfl, x, rfl⟩ := hr
    refine ⟨.tup [], [kB l ops ps, .mp ((markL l (capZ ops z) L).map entN), hadC, boolC (markM l (capZ ops z) L more), fnB], View.of 6 [0, 1, 2, 3, 4] [] rfl rfl rfl rfl rfl rfl (.eq rfl .nil) ?_, rfl, rfl⟩
    exact .put (notF rfl) rfl (.eq rfl (by simp [kB])) (.put (notF rfl) rfl (.eq (mapN_ren _) (by simp)) (.put (notF rfl) rfl (.eq rfl (by simp [hadC])) (.put (notF rfl) rfl (.eq rfl (by simp [boolC])) (.put (notF rfl) rfl (.eq rfl (by simp [fnB])) (.nil _)))))
  · obtain ⟨rfl, rfl⟩ := hr
    refine ⟨Nat.le_refl _, ?_⟩
    show K (.tup []) (kB l ops ps :: (Bk.mp ((markL l (capZ ops z) L).map entN)).ren (sg [0, 1, 2, 3, 4] (R.length + 5)) :: hadC :: boolC (markM l (capZ ops z) L more) :: fnB :: app2 R [])
    rw [mapN_ren, app2_eq, List.append_nil]
    exact h
/-! plain -/
def mk2 (l : List Obj) (zs : List Int) (a : List Nat × Bool) : List Nat × Bool := zs.foldl (fun a z => (markL l z a.1, markM l z a.1 a.2)) a
def mkL (l : List Obj) (zs : List Int) (L : List Nat) : List Nat := zs.foldl (fun L z => markL l z L) L
theorem mk2_fst (l : List Obj) : ∀ (zs : List Int) (a : List Nat × Bool), (mk2 l zs a).1 = mkL l zs a.1
  | [], _ => rfl
  | z :: r, a => mk2_fst l r _
def slZ (ops : List Opn) (ss : List Sl3) : List Int := (ss.filter (·.has)).map fun s => capZ ops s.opn
def prZ (ops : List Opn) (ps : List Prc) (p : Int) : List Int := if 0 ≤ p then (match ps[p.toNat]? with | some pr => if pr.live = true then slZ ops pr.slots else [] | none => []) else []
def enZ (o : Obj) : List Int := (o.entries.map unE).map (·.2)
def quZ (ops : List Opn) (o : Obj) : List Int := (o.queue.filter (·.has)).map fun q => capZ ops q.opn
def edZ (ops : List Opn) (ps : List Prc) (o : Obj) : List Int := (if o.kind = 4 then [o.peer] else []) ++ ((if o.kind = 5 then prZ ops ps o.proc else []) ++ (enZ o ++ quZ ops o))
def rtZ (ops : List Opn) (ps : List Prc) (pl : List Int) : List Int := pl.flatMap (prZ ops ps)
theorem markL_sub {l : List Obj} {z : Int} {L : List Nat} {n : Nat} (h : n ∈ L) : n ∈ markL l z L := by
  rw [markL]
  split
  · simp [h]
  · exact h
theorem markL_on {l : List Obj} {z : Int} {L : List Nat} {n : Nat} (h : vO l z n) : n ∈ markL l z L := by
  have hI : isS l z 0 = true := isS0.2 ⟨n, h⟩
  have hz := h.1
  rw [markL, hI]
  cases hN : inN L z with
  | true =>
    rw [hz] at hN
    exact inN_iff.1 hN
  | false =>
    simp [hz]
theorem mkL_sub {l : List Obj} : ∀ {zs : List Int} {L : List Nat} {n : Nat}, n ∈ L → n ∈ mkL l zs L
  | [], _, _, h => h
  | z :: r, L, n, h => mkL_sub (zs := r) (markL_sub h)
theorem mkL_on {l : List Obj} : ∀ {zs : List Int} {L : List Nat} {z : Int} {n : Nat}, z ∈ zs → vO l z n → n ∈ mkL l zs L
  | [], _, _, _, h, _ => by simp at h
  | y :: r, L, z, n, h, hv => by
    rcases List.mem_cons.1 h with rfl | h
    · exact mkL_sub (zs := r) (markL_on hv)
    · exact mkL_on (zs := r) h hv
structure Clo (l : List Obj) (ops : List Opn) (ps : List Prc) (pl : List Int) (S : Nat → Prop) : Prop where
  r : ∀ z, z ∈ rtZ ops ps pl → ∀ n, vO l z n → S n
  s : ∀ (i : Nat) o, S i → l[i]? = some o → ∀ z, z ∈ edZ ops ps o → ∀ n, vO l z n → S n
structure Inv (l : List Obj) (ops : List Opn) (ps : List Prc) (pl : List Int) (L : List Nat) : Prop where
  nd : L.Nodup
  val : ∀ n, n ∈ L → vO l (n : Int) n
  least : ∀ S, Clo l ops ps pl S → ∀ n, n ∈ L → S n
structure FOK (l : List Obj) (ops : List Opn) (ps : List Prc) (pl : List Int) (L : List Nat) : Prop extends Inv l ops ps pl L where
  clo : Clo l ops ps pl (· ∈ L)
theorem FOK.same {l : List Obj} {ops : List Opn} {ps : List Prc} {pl : List Int} {L L' : List Nat} (h : FOK l ops ps pl L) (h' : FOK l ops ps pl L') (n : Nat) : n ∈ L ↔ n ∈ L' :=
  ⟨h.least _ h'.clo n, h'.least _ h.clo n⟩
theorem FOK.perm {l : List Obj} {ops : List Opn} {ps : List Prc} {pl : List Int} {L L' : List Nat} (h : FOK l ops ps pl L) (h' : FOK l ops ps pl L') : L.Perm L' :=
  (List.perm_ext_iff_of_nodup h.nd h'.nd).2 (h.same h')
def unm (N : Nat) (L : List Nat) : Nat := ((List.range N).filter fun i => decide (i ∉ L)).length
theorem unm_snoc {N n : Nat} {L : List Nat} (hn : n < N) (h : n ∉ L) : unm N (L ++ [n]) < unm N L := by
  have e : ((List.range N).filter fun i => decide (i ∉ L ++ [n])) = ((List.range N).filter fun i => decide (i ∉ L)).filter fun i => decide (i ≠ n) := by
    rw [List.filter_filter]
    apply List.filter_congr
    intro x _
    simp only [List.mem_append, List.mem_singleton, not_or, Bool.decide_and, ne_eq]
    rw [Bool.and_comm]
  rw [unm, e, unm, List.length_filter_lt_length_iff_exists]
  exact ⟨n, by simp [hn, h], by simp⟩
structure Pass (l : List Obj) (ops : List Opn) (ps : List Prc) (pl : List Int) (L0 : List Nat) (a : List Nat × Bool) : Prop where
  inv : Inv l ops ps pl a.1
  sub : ∀ n, n ∈ L0 → n ∈ a.1
  eq : a.2 = false → a.1 = L0
  big : a.2 = true → unm l.length a.1 < unm l.length L0
section
variable {l : List Obj} {ops : List Opn} {ps : List Prc} {pl : List Int}
theorem Inv.mark {L : List Nat} {z : Int} (h : Inv l ops ps pl L) (hz : ∀ S, Clo l ops ps pl S → (∀ m, m ∈ L → S m) → ∀ n, vO l z n → S n) : Inv l ops ps pl (markL l z L) := by
  by_cases hc : (isS l z 0 && !inN L z) = true
  · have e1 : markL l z L = L ++ [z.toNat] := if_pos hc
    have hc : isS l z 0 = true ∧ inN L z = false := by simpa using hc
    obtain ⟨n, hn⟩ := isS0.1 hc.1
    have hzn : z = n := hn.1
    have hni : n ∉ L := fun hm => by
      have := inN_iff.2 hm
      rw [← hzn, hc.2] at this
      cases this
    have e3 : z.toNat = n := by omega
    rw [e1, e3]
    refine ⟨?_, fun m hm => ?_, fun S hcl m hm => ?_⟩
    · rw [List.nodup_append]
      refine ⟨h.nd, by simp, fun a ha b hb => ?_⟩
      have : b = n := by simpa using hb
      intro e
      rw [e, this] at ha
      exact hni ha
    · rcases List.mem_append.1 hm with hm | hm
      · exact h.val m hm
      · have : m = n := by simpa using hm
        subst this
        rw [hzn] at hn
        exact hn
    · rcases List.mem_append.1 hm with hm | hm
      · exact h.least S hcl m hm
      · have : m = n := by simpa using hm
        subst this
        exact hz S hcl (fun x hx => h.least S hcl x hx) m hn
  · have e1 : markL l z L = L := if_neg hc
    rw [e1]
    exact h
theorem Inv.mkL : ∀ {zs : List Int} {L : List Nat}, Inv l ops ps pl L → (∀ z, z ∈ zs → ∀ S, Clo l ops ps pl S → (∀ m, m ∈ L → S m) → ∀ n, vO l z n → S n) → Inv l ops ps pl (Fe.mkL l zs L)
  | [], _, h, _ => h
  | z :: r, L, h, hz => Inv.mkL (zs := r) (h.mark (hz z (by simp))) fun y hy S hS hm n hn => hz y (by simp [hy]) S hS (fun m hm' => hm m (markL_sub hm')) n hn
theorem Pass.mark {L0 : List Nat} {a : List Nat × Bool} {z : Int} (h : Pass l ops ps pl L0 a) (hz : ∀ S, Clo l ops ps pl S → (∀ m, m ∈ a.1 → S m) → ∀ n, vO l z n → S n) : Pass l ops ps pl L0 (markL l z a.1, markM l z a.1 a.2) := by
  refine ⟨h.inv.mark hz, fun n hn => markL_sub (h.sub n hn), fun he => ?_, fun he => ?_⟩
  · by_cases hc : (isS l z 0 && !inN a.1 z) = true
    · have e2 : markM l z a.1 a.2 = true := if_pos hc
      have he : markM l z a.1 a.2 = false := he
      rw [e2] at he
      cases he
    · have e1 : markL l z a.1 = a.1 := if_neg hc
      have e2 : markM l z a.1 a.2 = a.2 := if_neg hc
      have he : markM l z a.1 a.2 = false := he
      rw [e2] at he
      show markL l z a.1 = L0
      rw [e1]
      exact h.eq he
  · show unm l.length (markL l z a.1) < _
    by_cases hc : (isS l z 0 && !inN a.1 z) = true
    · have e1 : markL l z a.1 = a.1 ++ [z.toNat] := if_pos hc
      have hc : isS l z 0 = true ∧ inN a.1 z = false := by simpa using hc
      obtain ⟨n, hn⟩ := isS0.1 hc.1
      have hzn : z = n := hn.1
      have hnn : n < l.length := by obtain ⟨_, o, ho, _⟩ := hn; exact (List.getElem?_eq_some_iff.1 ho).1
      have hni : n ∉ a.1 := fun hm => by
        have := inN_iff.2 hm
        rw [← hzn, hc.2] at this
        cases this
      have e3 : z.toNat = n := by omega
      have hbig : unm l.length (a.1 ++ [n]) < unm l.length a.1 := unm_snoc hnn hni
      rw [e1, e3]
      cases hmr : a.2 with
      | true => have := h.big hmr; omega
      | false => rw [← h.eq hmr]; exact hbig
    · have e1 : markL l z a.1 = a.1 := if_neg hc
      have e2 : markM l z a.1 a.2 = a.2 := if_neg hc
      have he : markM l z a.1 a.2 = true := he
      rw [e2] at he
      rw [e1]
      exact h.big he
theorem Pass.mk2 {L0 : List Nat} : ∀ {zs : List Int} {a : List Nat × Bool}, Pass l ops ps pl L0 a → (∀ z, z ∈ zs → ∀ S, Clo l ops ps pl S → (∀ m, m ∈ a.1 → S m) → ∀ n, vO l z n → S n) → Pass l ops ps pl L0 (Fe.mk2 l zs a)
  | [], _, h, _ => h
  | z :: r, a, h, hz => Pass.mk2 (zs := r) (h.mark (hz z (by simp))) fun y hy S hS hm n hn => hz y (by simp [hy]) S hS (fun m hm' => hm m (markL_sub hm')) n hn
end
/-- the document's round -/
def stO (l : List Obj) (ops : List Opn) (ps : List Prc) (a : List Nat × Bool) (i : Nat) : List Nat × Bool := if i ∈ a.1 then (match l[i]? with | some o => mk2 l (edZ ops ps o) a | none => a) else a
def stOs (l : List Obj) (ops : List Opn) (ps : List Prc) (a : List Nat × Bool) (k : Nat) : List Nat × Bool := (List.range k).foldl (stO l ops ps) a
theorem stOs_succ (l : List Obj) (ops : List Opn) (ps : List Prc) (a : List Nat × Bool) (k : Nat) : stOs l ops ps a (k + 1) = stO l ops ps (stOs l ops ps a k) k := by
  unfold stOs
  rw [List.range_succ, List.foldl_append]
  rfl
def pass (l : List Obj) (ops : List Opn) (ps : List Prc) (pl : List Int) (L : List Nat) : List Nat × Bool := stOs l ops ps (mk2 l (rtZ ops ps pl) (L, false)) l.length
section
variable {l : List Obj} {ops : List Opn} {ps : List Prc} {pl : List Int}
theorem stO_sub {a : List Nat × Bool} {i n : Nat} (h : n ∈ a.1) : n ∈ (stO l ops ps a i).1 := by
  unfold stO
  split
  · split
    · rw [mk2_fst]; exact mkL_sub h
    · exact h
  · exact h
theorem stOs_sub {a : List Nat × Bool} {n : Nat} (h : n ∈ a.1) : ∀ k, n ∈ (stOs l ops ps a k).1
  | 0 => h
  | k + 1 => by rw [stOs_succ]; exact stO_sub (stOs_sub h k)
theorem stOs_mono {a : List Nat × Bool} {n : Nat} {k : Nat} (h : n ∈ (stOs l ops ps a k).1) : ∀ d, n ∈ (stOs l ops ps a (k + d)).1
  | 0 => h
  | d + 1 => by rw [← Nat.add_assoc, stOs_succ]; exact stO_sub (stOs_mono h d)
theorem Pass.stOs {L0 : List Nat} {a : List Nat × Bool} (h : Pass l ops ps pl L0 a) : ∀ k, Pass l ops ps pl L0 (Fe.stOs l ops ps a k)
  | 0 => h
  | k + 1 => by
    have ih := Pass.stOs h k
    rw [stOs_succ]
    unfold stO
    split
    · rename_i hi
      split
      · rename_i o ho
        exact ih.mk2 fun z hz S hS hm n hn => hS.s k o (hm k hi) ho z hz n hn
      · exact ih
    · exact ih
theorem pass_spec {L : List Nat} (h : Inv l ops ps pl L) : Inv l ops ps pl (pass l ops ps pl L).1 ∧ ((pass l ops ps pl L).2 = false → (pass l ops ps pl L).1 = L ∧ FOK l ops ps pl L) ∧ ((pass l ops ps pl L).2 = true → unm l.length (pass l ops ps pl L).1 < unm l.length L) := by
  have h0 : Pass l ops ps pl L (L, false) := ⟨h, fun _ h => h, fun _ => rfl, (fun h => by cases h)⟩
  have h1 : Pass l ops ps pl L (mk2 l (rtZ ops ps pl) (L, false)) := h0.mk2 fun z hz S hS _ n hn => hS.r z hz n hn
  have h2 : Pass l ops ps pl L (pass l ops ps pl L) := h1.stOs _
  refine ⟨h2.inv, fun hm => ⟨h2.eq hm, { h with clo := ⟨fun z hz n hn => ?_, fun i o hi ho z hz n hn => ?_⟩ }⟩, h2.big⟩
  · show n ∈ L
    rw [← h2.eq hm]
    exact stOs_sub (by rw [mk2_fst]; exact mkL_on hz hn) _
  · have hlt := (List.getElem?_eq_some_iff.1 ho).1
    show n ∈ L
    rw [← h2.eq hm]
    have hi1 : i ∈ (stOs l ops ps (mk2 l (rtZ ops ps pl) (L, false)) i).1 := stOs_sub (h1.sub i hi) i
    have : n ∈ (stOs l ops ps (mk2 l (rtZ ops ps pl) (L, false)) (i + 1)).1 := by
      rw [stOs_succ, stO, if_pos hi1, ho]
      show n ∈ (mk2 l (edZ ops ps o) _).1
      rw [mk2_fst]
      exact mkL_on hz hn
    have := stOs_mono this (l.length - (i + 1))
    rw [show i + 1 + (l.length - (i + 1)) = l.length by omega] at this
    exact this
end
/-! the document's proc -/
theorem mk2_app (l : List Obj) (x y : List Int) (a : List Nat × Bool) : mk2 l (x ++ y) a = mk2 l y (mk2 l x a) := List.foldl_append
def capB : Bk := .var [.fn 17 [0, 4]]
def M6 (l : List Obj) (ops : List Opn) (ps : List Prc) (a : List Nat × Bool) : Mem := [kB l ops ps, .mp (a.1.map entN), hadC, boolC a.2, fnB, capB]
theorem vw6 (l : List Obj) (ops : List Opn) (ps : List Prc) (a : List Nat × Bool) (n : Nat) (R : Mem) : MemVw (sg [0, 1, 2, 3, 4, 5] n) (kB l ops ps :: .mp (a.1.map entN) :: hadC :: boolC a.2 :: fnB :: capB :: R) (fun k => memN [] k = true) 0 (M6 l ops ps a) :=
  .put (notF rfl) rfl (.eq rfl (by simp [kB])) (.put (notF rfl) rfl (.eq (mapN_ren _) (by simp)) (.put (notF rfl) rfl (.eq rfl (by simp [hadC])) (.put (notF rfl) rfl (.eq rfl (by simp [boolC])) (.put (notF rfl) rfl (.eq rfl (by simp [fnB])) (.put (notF rfl) rfl (.eq rfl (by simp [capB])) (.nil _))))))
theorem slZ_take {ops : List Opn} {ss : List Sl3} {j : Nat} (h : j < ss.length) : slZ ops (ss.take (j + 1)) = slZ ops (ss.take j) ++ (if ss[j].has = true then [capZ ops ss[j].opn] else []) := by
  unfold slZ
  rw [takeO (List.getElem?_eq_getElem h), List.filter_append, List.map_append, List.filter_cons]
  congr 1
  split <;> simp
theorem prZ_at {ops : List Opn} {ps : List Prc} {n : Nat} (h : n < ps.length) : prZ ops ps n = if ps[n].live = true then slZ ops ps[n].slots else [] := by
  rw [prZ, if_pos (by omega), Int.toNat_natCast, List.getElem?_eq_getElem h]
theorem prZ_neg {ops : List Opn} {ps : List Prc} {p : Int} (h : p < 0) : prZ ops ps p = [] := by rw [prZ, if_neg (by omega)]
theorem prZ_ge {ops : List Opn} {ps : List Prc} {n : Nat} (h : ps.length ≤ n) : prZ ops ps n = [] := by
  rw [prZ, if_pos (by omega), Int.toNat_natCast, List.getElem?_eq_none h]
set_option maxRecDepth 100000 in
set_option maxHeartbeats 8000000 in
theorem rproc_body (l : List Obj) (ops : List Opn) (ps : List Prc) (hps : ∀ p, p ∈ ps → p.slots.length ≤ 4194304) (p : Int) (L : List Nat) (more : Bool) :
    body Try.prog c18 [vInt .i64 p, .rv (.one (.ptr 0 0)), .rv (.one (.ptr 5 0))] [kB l ops ps, .mp (L.map entN), hadC, boolC more, fnB, capB]
      (fun r m => r = .tup [] ∧ m = M6 l ops ps (mk2 l (prZ ops ps p) (L, more))) := by
  refine bB_dec (fun h1 => ?_) (fun h1 => ?_)
  · rw [prZ_neg h1]
    exact ⟨rfl, rfl⟩
  obtain ⟨n, rfl⟩ : ∃ n : Nat, p = n := ⟨p.toNat, by have h1 : ¬ p < 0 := h1; omega⟩
  refine bB_dec (fun h2 => ?_) (fun h2 => ?_)
  · have h2 : (n : Int) ≥ ((ps.map Prc.enc).length : Int) := h2
    rw [List.length_map] at h2
    rw [prZ_ge (by omega)]
    exact ⟨rfl, rfl⟩
  have h2 : ¬ (n : Int) ≥ ((ps.map Prc.enc).length : Int) := h2
  rw [List.length_map] at h2
  have hn : n < ps.length := by omega
  rw [prZ_at hn]
  have hsl := hps _ (List.getElem_mem hn)
  have hg : getZ (ps.map Prc.enc) (n : Nat) = some (ps[n].enc) := by rw [getZ_nat, List.getElem?_map, List.getElem?_eq_getElem hn]; rfl
  generalize ps[n] = pr at hg hsl
  obtain ⟨live, fenced, code, slots⟩ := pr
  have hsl : slots.length ≤ 4194304 := hsl
  refine ok_some (x := [.val (.bool live), .val (.bool fenced), .val (.int .i64 code), sl3D slots]) hg ?_
  cases live with
  | false => exact ⟨rfl, rfl⟩
  | true =>
    rw [if_pos rfl]
    refine ok_some (x := [.val (.bool true), .val (.bool fenced), .val (.int .i64 code), sl3D slots]) hg ?_
    refine loop_keep (fun j => j ≤ slots.length) [1, 2, 29, 30] (fun j => [(31, vInt .i64 (j : Nat))]) (fun j => M6 l ops ps (mk2 l (slZ ops (slots.take j)) (L, more))) (fun j => slots.length - j) 0 (Nat.zero_le _) ?_ (fun j hj => ?_)
    · refine View.of 6 [0, 1, 2, 3, 4, 5] [] rfl rfl rfl rfl rfl rfl ?_ (vw6 l ops ps (L, more) 6 [])
      repeat (first | exact .nil | refine .junk ?_ | refine .eq rfl ?_)
    have hj : j ≤ slots.length := hj
    refine bB_dec (fun hjl => ?_) (fun hjl => ?_)
    · have hjlt : j < slots.length := by
        have h : (j : Int) < ((slots.map Sl3.enc).length : Int) := hjl
        rw [List.length_map] at h
        omega
      have ht := slZ_take (ops := ops) hjlt
      have hg2 : getZ (slots.map Sl3.enc) (j : Nat) = some (slots[j].enc) := by rw [getZ_nat, List.getElem?_map, List.getElem?_eq_getElem hjlt]; rfl
      generalize slots[j] = s at ht hg2
      obtain ⟨has, opn, rts⟩ := s
      refine ok_some (x := [.val (.bool has), .val (.int .i64 opn), .val (.int .i64 rts)]) hg2 ?_
      cases has with
      | true =>
        refine rcap_ok l ops ps opn rts _ _ [capB, .var [.dat (.val (.bool true)), .dat (.val (.int .i64 opn)), .dat (.val (.int .i64 rts))]] ?_
        refine ⟨j + 1, hjlt, (show slots.length - (j + 1) < slots.length - j by omega), ?_⟩
        have e : mk2 l (slZ ops (slots.take (j + 1))) (L, more) = (markL l (capZ ops opn) (mk2 l (slZ ops (slots.take j)) (L, more)).1, markM l (capZ ops opn) (mk2 l (slZ ops (slots.take j)) (L, more)).1 (mk2 l (slZ ops (slots.take j)) (L, more)).2) := by
          rw [ht, mk2_app]; rfl
        refine View.of 7 [0, 1, 2, 3, 4, 5] [] rfl rfl rfl rfl rfl rfl ?_ (show MemVw _ _ _ 0 (M6 l ops ps (mk2 l (slZ ops (slots.take (j + 1))) (L, more))) from by rw [e]; exact vw6 l ops ps (_, _) 7 _)
        repeat (first | exact .nil | refine .junk ?_ | refine .put (.ren (next_i64 (by omega)).symm) ?_ | refine .eq rfl ?_)
      | false =>
        refine ⟨j + 1, hjlt, (show slots.length - (j + 1) < slots.length - j by omega), ?_⟩
        have e : mk2 l (slZ ops (slots.take (j + 1))) (L, more) = mk2 l (slZ ops (slots.take j)) (L, more) := by
          rw [ht, mk2_app]; rfl
        refine View.of 7 [0, 1, 2, 3, 4, 5] [] rfl rfl rfl rfl rfl rfl ?_ (show MemVw _ _ _ 0 (M6 l ops ps (mk2 l (slZ ops (slots.take (j + 1))) (L, more))) from by rw [e]; exact vw6 l ops ps _ 7 _)
        repeat (first | exact .nil | refine .junk ?_ | refine .put (.ren (next_i64 (by omega)).symm) ?_ | refine .eq rfl ?_)
    · have hje : j = slots.length := by
        have h : ¬ (j : Int) < ((slots.map Sl3.enc).length : Int) := hjl
        rw [List.length_map] at h
        omega
      subst hje
      rw [List.take_length]
      exact ⟨rfl, rfl⟩
set_option maxRecDepth 100000 in
theorem rproc_ok (l : List Obj) (ops : List Opn) (ps : List Prc) (hps : ∀ p, p ∈ ps → p.slots.length ≤ 4194304) (p : Int) (a : List Nat × Bool) (R : Mem) {K : CV → Mem → Prop} (h : K (.tup []) (kB l ops ps :: .mp ((mk2 l (prZ ops ps p) a).1.map entN) :: hadC :: boolC (mk2 l (prZ ops ps p) a).2 :: fnB :: capB :: R)) :
    ACall Try.prog 18 [vInt .i64 p, .rv (.one (.ptr 0 0)), .rv (.one (.ptr 5 0))] (kB l ops ps :: .mp (a.1.map entN) :: hadC :: boolC a.2 :: fnB :: capB :: R) K := by
  refine acall_borrow [0, 1, 2, 3, 4, 5] (R.length + 6) rfl rfl rfl (by simp [allLt, Nat.blt]) (args0 := [vInt .i64 p, .rv (.one (.ptr 0 0)), .rv (.one (.ptr 5 0))]) rfl (m0 := [kB l ops ps, .mp (a.1.map entN), hadC, boolC a.2, fnB, capB]) (fun i b' hi => ?_)
    (acall_body Try.func18 l18 rfl (Nat.le_of_ble_eq_true rfl) (rproc_body l ops ps hps p a.1 a.2)) (fun r m1 hr => ?_)
  · match i, hi with
    | 0, hi => cases hi; exact .inr ⟨fun h => h, _, rfl, .eq rfl (by simp [kB])⟩
    | 1, hi => cases hi; exact .inr ⟨fun h => h, _, rfl, .eq (mapN_ren _) (by simp)⟩
    | 2, hi => cases hi; exact .inr ⟨fun h => h, _, rfl, .eq rfl (by simp [hadC])⟩
    | 3, hi => cases hi; exact .inr ⟨fun h => h, _, rfl, .eq rfl (by simp [boolC])⟩
    | 4, hi => cases hi; exact .inr ⟨fun h => h, _, rfl, .eq rfl (by simp [fnB])⟩
    | 5, hi => cases hi; exact .inr ⟨fun h => h, _, rfl, .eq rfl (by simp [capB])⟩
    | n + 6, hi => simp at hi
  · obtain ⟨rfl, rfl⟩ := hr
    refine ⟨Nat.le_refl _, ?_⟩
    show K (.tup []) (kB l ops ps :: (Bk.mp ((mk2 l (prZ ops ps p) (a.1, a.2)).1.map entN)).ren (sg [0, 1, 2, 3, 4, 5] (R.length + 6)) :: hadC :: boolC (mk2 l (prZ ops ps p) (a.1, a.2)).2 :: fnB :: capB :: app2 R [])
    rw [mapN_ren, app2_eq, List.append_nil]
    exact h
end Fe

def c5 : LF := ⟨88, [.tmp 4], (.seq (.reg [
    ⟨(some 2), .box (.t 0), none⟩,
    ⟨(some 4), .mov (.c (.rv (.one (.dat (.val (.map none)))))), none⟩]) (.seq (.reg [
    ⟨(some 18), .mkmap, none⟩,
    ⟨(some 5), .alloc [(.dat (.val (.map none)))], none⟩,
    ⟨none, .store 1 (.t 5) (.t 18), none⟩]) (.seq (.seq (.reg [
    ⟨(some 6), .alloc [(.dat (.val (.bool false)))], none⟩,
    ⟨none, .store 1 (.t 6) (.c (.rv (.one (.dat (.val (.bool true)))))), none⟩]) (.block 0 (.loop (.seq (.seq (.reg [
    ⟨(some 19), .load false 1 (.t 6), none⟩]) (.cond (.t 19) .skip (.exit 0))) (.seq (.block 1 (.seq (.reg [
    ⟨none, .store 1 (.t 6) (.c (.rv (.one (.dat (.val (.bool false)))))), none⟩]) (.seq (.reg [
    ⟨(some 20), .fn 15 [(.t 2), (.t 5), (.t 6)], none⟩,
    ⟨(some 7), .alloc [(.dat (.val .nilFunc))], none⟩,
    ⟨none, .store 1 (.t 7) (.t 20), none⟩]) (.seq (.reg [
    ⟨(some 21), .fn 17 [(.t 2), (.t 7)], none⟩,
    ⟨(some 8), .alloc [(.dat (.val .nilFunc))], none⟩,
    ⟨none, .store 1 (.t 8) (.t 21), none⟩]) (.seq (.reg [
    ⟨(some 22), .fn 18 [(.t 2), (.t 8)], none⟩,
    ⟨(some 9), .mov (.t 22), none⟩]) (.seq (.seq (.reg [
    ⟨(some 23), .mov (.t 1), none⟩,
    ⟨(some 24), .len 1 (.t 23), none⟩,
    ⟨(some 25), .mov (.c (.rv (.one (.dat (.val (.int .i64 (0))))))), none⟩]) (.block 2 (.loop (.seq (.reg [
    ⟨(some 26), .bin .lss (.t 25) (.t 24), none⟩]) (.seq (.cond (.t 26) .skip (.exit 2)) (.seq (.block 3 (.seq (.reg [
    ⟨(some 27), .idx 1 (.t 23) (.t 25), none⟩,
    ⟨(some 28), .load false 1 (.t 27), none⟩,
    ⟨(some 11), .mov (.t 28), none⟩]) (.reg [
    ⟨(some 29), .mov (.t 9), none⟩,
    ⟨(some 30), .mov (.t 11), none⟩,
    ⟨(some 31), .call (.t 29) [(.t 30)], none⟩]))) (.reg [
    ⟨(some 32), .bin .add (.t 25) (.c (.rv (.one (.dat (.val (.int .i64 (1))))))), none⟩,
    ⟨(some 25), .mov (.t 32), none⟩]))))))) (.seq (.reg [
    ⟨(some 33), .fadr 0 (.t 2), none⟩,
    ⟨(some 34), .load false 1 (.t 33), none⟩,
    ⟨(some 35), .len 1 (.t 34), none⟩,
    ⟨(some 36), .mov (.c (.rv (.one (.dat (.val (.int .i64 (0))))))), none⟩]) (.block 4 (.loop (.seq (.reg [
    ⟨(some 37), .bin .lss (.t 36) (.t 35), none⟩]) (.seq (.cond (.t 37) .skip (.exit 4)) (.seq (.block 5 (.seq (.reg [
    ⟨(some 38), .mov (.t 36), none⟩,
    ⟨(some 39), .idx 9 (.t 34) (.t 36), none⟩,
    ⟨(some 40), .load true 9 (.t 39), none⟩,
    ⟨(some 13), .alloc [(.dat (.val (.int .i64 (0)))), .esl, .esl, (.dat (.val (.string ⟨#[]⟩))), (.dat (.val (.int .i64 (0)))), .esl, (.dat (.val (.int .i64 (0)))), (.dat (.val (.int .i64 (0)))), (.dat (.val (.int .i64 (0))))], none⟩,
    ⟨(some 12), .mov (.t 38), none⟩,
    ⟨none, .store 9 (.t 13) (.t 40), none⟩]) (.seq (.seq (.reg [
    ⟨(some 41), .load false 1 (.t 5), none⟩,
    ⟨(some 42), .mov (.t 12), none⟩,
    ⟨(some 43), .mget (.one (.dat (.val (.bool false)))) (.i .i64) (.t 41) (.t 42) false, none⟩,
    ⟨(some 44), .un .not (.t 43), none⟩]) (.cond (.t 44) (.exit 5) .skip)) (.seq (.seq (.reg [
    ⟨(some 45), .fadr 0 (.t 13), none⟩,
    ⟨(some 46), .load false 1 (.t 45), none⟩,
    ⟨(some 47), .bin .eql (.t 46) (.c (.rv (.one (.dat (.val (.int .i64 (4))))))), none⟩]) (.cond (.t 47) (.reg [
    ⟨(some 48), .load false 1 (.t 7), none⟩,
    ⟨(some 49), .fadr 4 (.t 13), none⟩,
    ⟨(some 50), .load false 1 (.t 49), none⟩,
    ⟨(some 51), .call (.t 48) [(.t 50)], none⟩]) .skip)) (.seq (.seq (.reg [
    ⟨(some 52), .fadr 0 (.t 13), none⟩,
    ⟨(some 53), .load false 1 (.t 52), none⟩,
    ⟨(some 54), .bin .eql (.t 53) (.c (.rv (.one (.dat (.val (.int .i64 (5))))))), none⟩]) (.cond (.t 54) (.reg [
    ⟨(some 55), .mov (.t 9), none⟩,
    ⟨(some 56), .fadr 6 (.t 13), none⟩,
    ⟨(some 57), .load false 1 (.t 56), none⟩,
    ⟨(some 58), .call (.t 55) [(.t 57)], none⟩]) .skip)) (.seq (.seq (.reg [
    ⟨(some 59), .fadr 2 (.t 13), none⟩,
    ⟨(some 60), .load false 1 (.t 59), none⟩,
    ⟨(some 61), .len 1 (.t 60), none⟩,
    ⟨(some 62), .mov (.c (.rv (.one (.dat (.val (.int .i64 (0))))))), none⟩]) (.block 6 (.loop (.seq (.reg [
    ⟨(some 63), .bin .lss (.t 62) (.t 61), none⟩]) (.seq (.cond (.t 63) .skip (.exit 6)) (.seq (.block 7 (.seq (.reg [
    ⟨(some 64), .idx 2 (.t 60) (.t 62), none⟩,
    ⟨(some 65), .load true 2 (.t 64), none⟩,
    ⟨(some 15), .alloc [(.dat (.val (.string ⟨#[]⟩))), (.dat (.val (.int .i64 (0))))], none⟩,
    ⟨none, .store 2 (.t 15) (.t 65), none⟩]) (.reg [
    ⟨(some 66), .load false 1 (.t 7), none⟩,
    ⟨(some 67), .fadr 1 (.t 15), none⟩,
    ⟨(some 68), .load false 1 (.t 67), none⟩,
    ⟨(some 69), .call (.t 66) [(.t 68)], none⟩]))) (.reg [
    ⟨(some 70), .bin .add (.t 62) (.c (.rv (.one (.dat (.val (.int .i64 (1))))))), none⟩,
    ⟨(some 62), .mov (.t 70), none⟩]))))))) (.seq (.reg [
    ⟨(some 71), .fadr 5 (.t 13), none⟩,
    ⟨(some 72), .load false 1 (.t 71), none⟩,
    ⟨(some 73), .len 1 (.t 72), none⟩,
    ⟨(some 74), .mov (.c (.rv (.one (.dat (.val (.int .i64 (0))))))), none⟩]) (.block 8 (.loop (.seq (.reg [
    ⟨(some 75), .bin .lss (.t 74) (.t 73), none⟩]) (.seq (.cond (.t 75) .skip (.exit 8)) (.seq (.block 9 (.seq (.reg [
    ⟨(some 76), .idx 4 (.t 72) (.t 74), none⟩,
    ⟨(some 77), .load true 4 (.t 76), none⟩,
    ⟨(some 17), .alloc [.esl, (.dat (.val (.bool false))), (.dat (.val (.int .i64 (0)))), (.dat (.val (.int .i64 (0))))], none⟩,
    ⟨none, .store 4 (.t 17) (.t 77), none⟩]) (.seq (.reg [
    ⟨(some 78), .fadr 1 (.t 17), none⟩,
    ⟨(some 79), .load false 1 (.t 78), none⟩]) (.cond (.t 79) (.reg [
    ⟨(some 80), .load false 1 (.t 8), none⟩,
    ⟨(some 81), .fadr 2 (.t 17), none⟩,
    ⟨(some 82), .load true 2 (.t 81), none⟩,
    ⟨(some 83), .call (.t 80) [(.t 82)], none⟩]) .skip)))) (.reg [
    ⟨(some 84), .bin .add (.t 74) (.c (.rv (.one (.dat (.val (.int .i64 (1))))))), none⟩,
    ⟨(some 74), .mov (.t 84), none⟩]))))))))))))) (.reg [
    ⟨(some 85), .bin .add (.t 36) (.c (.rv (.one (.dat (.val (.int .i64 (1))))))), none⟩,
    ⟨(some 36), .mov (.t 85), none⟩]))))))))))))) (.seq (.reg [
    ⟨(some 86), .load false 1 (.t 6), none⟩]) (.reg [
    ⟨(some 6), .alloc [(.dat (.val (.bool false)))], none⟩,
    ⟨none, .store 1 (.t 6) (.t 86), none⟩]))))))) (.seq (.reg [
    ⟨(some 87), .load false 1 (.t 5), none⟩,
    ⟨(some 4), .mov (.t 87), none⟩]) .ret))))⟩
/-! Fence: the document's reach -/
namespace Fe
theorem l5 : lowF Try.prog Try.f5 = some c5 := by kernel_rfl
def quL (ops : List Opn) (qs : List Msg) : List Int := (qs.filter (·.has)).map fun q => capZ ops q.opn
theorem quL_take {ops : List Opn} {ss : List Msg} {j : Nat} (h : j < ss.length) : quL ops (ss.take (j + 1)) = quL ops (ss.take j) ++ (if ss[j].has = true then [capZ ops ss[j].opn] else []) := by
  unfold quL
  rw [takeO (List.getElem?_eq_getElem h), List.filter_append, List.map_append, List.filter_cons]
  congr 1
  split <;> simp
def M7 (l : List Obj) (ops : List Opn) (ps : List Prc) (ds : List Dt) (a : List Nat × Bool) : Mem := [kB l ops ps, .mp (a.1.map entN), hadC, boolC a.2, fnB, capB, .var (ds.map .dat)]
theorem vw7 (l : List Obj) (ops : List Opn) (ps : List Prc) (ds : List Dt) (a : List Nat × Bool) (n : Nat) (R : Mem) : MemVw (sg [0, 1, 2, 3, 4, 5, 6] n) (kB l ops ps :: .mp (a.1.map entN) :: hadC :: boolC a.2 :: fnB :: capB :: .var (ds.map .dat) :: R) (fun k => memN [] k = true) 0 (M7 l ops ps ds a) :=
  .put (notF rfl) rfl (.eq rfl (by simp [kB])) (.put (notF rfl) rfl (.eq (mapN_ren _) (by simp)) (.put (notF rfl) rfl (.eq rfl (by simp [hadC])) (.put (notF rfl) rfl (.eq rfl (by simp [boolC])) (.put (notF rfl) rfl (.eq rfl (by simp [fnB])) (.put (notF rfl) rfl (.eq rfl (by simp [capB])) (.put (notF rfl) rfl (.varDE rfl) (.nil _)))))))
def iE (z : Int) : List Dt := [.val (.int .i64 z)]
def intsV (pl : List Int) : CV := .rv (.one (.dat (.sl 1 (pl.map iE))))
theorem int_get {pl : List Int} {k : Nat} (h : k < pl.length) : getZ (pl.map iE) (k : Nat) = some [.val (.int .i64 pl[k])] := by
  rw [getZ_nat, List.getElem?_map, List.getElem?_eq_getElem h]; rfl
def ReachP (l : List Obj) (ops : List Opn) (ps : List Prc) (pl : List Int) (r : CV) (m : Mem) : Prop := ∃ L, FOK l ops ps pl L ∧ r = .rv (.one (.map 0)) ∧ m = [.mp (L.map entN)]
set_option maxRecDepth 100000 in
set_option maxHeartbeats 64000000 in
theorem rreach_body (l : List Obj) (ops : List Opn) (ps : List Prc) (pl : List Int) (hl : l.length ≤ 4194304) (hen : ∀ o, o ∈ l → ∃ es : List NE, o.entries = es.map entD) (hsz : ∀ o, o ∈ l → o.entries.length ≤ 4194304 ∧ o.queue.length ≤ 4194304) (hpl : pl.length ≤ 4194304) (hps : ∀ p, p ∈ ps → p.slots.length ≤ 4194304) :
    body Try.prog c5 [kernV l ops ps, intsV pl] [] (fun r m => ∃ r' m', View 0 ⟨[r], m⟩ ⟨[r'], m'⟩ ∧ ReachP l ops ps pl r' m') := by
  refine loop_keep (fun a : List Nat × Bool => Inv l ops ps pl a.1 ∧ (a.2 = false → FOK l ops ps pl a.1)) [1, 2, 5] (fun _ => [(6, .rv (.one (.ptr 3 0)))]) (fun a => [kB l ops ps, .mp (a.1.map entN), hadC, boolC a.2])
    (fun a => 2 * unm l.length a.1 + (if a.2 then 1 else 0)) ([], true) ⟨⟨by simp, by simp, by simp⟩, (fun h => by cases h)⟩ ?_ (fun a hJ => ?_)
  · refine View.of 4 [0, 1, 2, 3] [] rfl rfl rfl rfl rfl rfl ?_ ?_
    · repeat (first | exact .nil | refine .junk ?_ | refine .eq rfl ?_)
    · exact .put (notF rfl) rfl (.eq rfl (by simp [kB])) (.put (notF rfl) rfl (.eq (mapN_ren []) (by simp)) (.put (notF rfl) rfl (.eq rfl (by simp [hadC])) (.put (notF rfl) rfl (.eq rfl (by simp [boolC])) (.nil _))))
  obtain ⟨LA, more⟩ := a
  obtain ⟨hI, hC⟩ := hJ
  cases more with
  | false =>
    exact ⟨.rv (.one (.map 0)), [.mp (LA.map entN)], View.of 4 [1] [] rfl rfl rfl rfl rfl rfl (.eq rfl .nil) (.put (notF rfl) rfl (.eq (mapN_ren _) (by simp)) (.nil _)), LA, hC rfl, rfl, rfl⟩
  | true =>
    have hI : Inv l ops ps pl LA := hI
    clear hC
    refine loop_keep (fun i => i ≤ pl.length) [1, 2, 5, 6, 7, 8, 9, 23, 24] (fun i => [(25, vInt .i64 (i : Nat))]) (fun i => M6 l ops ps (mk2 l (rtZ ops ps (pl.take i)) (LA, false))) (fun i => pl.length - i) 0 (Nat.zero_le _) ?_ (fun i hi => ?_)
    · refine View.of 6 [0, 1, 2, 3, 4, 5] [] rfl rfl rfl rfl rfl rfl ?_ (vw6 l ops ps (LA, false) 6 [])
      repeat (first | exact .nil | refine .junk ?_ | refine .eq rfl ?_)
    have hi : i ≤ pl.length := hi
    refine bB_dec (fun h => ?_) (fun h => ?_)
    · have hilt : i < pl.length := by
        have h : (i : Int) < ((pl.map iE).length : Int) := h
        rw [List.length_map] at h
        omega
      refine ok_some (int_get hilt) ?_
      refine rproc_ok l ops ps hps pl[i] (mk2 l (rtZ ops ps (pl.take i)) (LA, false)) [] ?_
      refine ⟨i + 1, hilt, (show pl.length - (i + 1) < pl.length - i by omega), ?_⟩
      have e : mk2 l (rtZ ops ps (pl.take (i + 1))) (LA, false) = mk2 l (prZ ops ps pl[i]) (mk2 l (rtZ ops ps (pl.take i)) (LA, false)) := by
        rw [takeO (List.getElem?_eq_getElem hilt), rtZ, List.flatMap_append, mk2_app]; simp [rtZ]
      refine View.of 6 [0, 1, 2, 3, 4, 5] [] rfl rfl rfl rfl rfl rfl ?_ (show MemVw _ _ _ 0 (M6 l ops ps (mk2 l (rtZ ops ps (pl.take (i + 1))) (LA, false))) from by rw [e]; exact vw6 l ops ps _ 6 _)
      repeat (first | exact .nil | refine .junk ?_ | refine .put (.ren (next_i64 (by omega)).symm) ?_ | refine .eq rfl ?_)
    · have hie : i = pl.length := by
        have h : ¬ (i : Int) < ((pl.map iE).length : Int) := h
        rw [List.length_map] at h
        omega
      subst hie
      rw [List.take_length]
      have hps2 := pass_spec hI
      unfold pass at hps2
      generalize mk2 l (rtZ ops ps pl) (LA, false) = a0 at hps2
      refine loop_keep (fun i => i ≤ l.length) [1, 2, 5, 6, 7, 8, 9, 34, 35] (fun i => [(36, vInt .i64 (i : Nat))]) (fun i => M6 l ops ps (stOs l ops ps a0 i)) (fun i => l.length - i) 0 (Nat.zero_le _) ?_ (fun i hi => ?_)
      · refine View.of 6 [0, 1, 2, 3, 4, 5] [] rfl rfl rfl rfl rfl rfl ?_ (vw6 l ops ps a0 6 [])
        repeat (first | exact .nil | refine .junk ?_ | refine .eq rfl ?_)
      have hi : i ≤ l.length := hi
      refine bB_dec (fun h => ?_) (fun h => ?_)
      · have hilt : i < l.length := by
          have h : (i : Int) < ((l.map Obj.enc).length : Int) := h
          rw [List.length_map] at h
          omega
        obtain ⟨es, hes⟩ := hen _ (List.getElem_mem hilt)
        have hz := hsz _ (List.getElem_mem hilt)
        have hg := obj_get hilt
        have hsu : stOs l ops ps a0 (i + 1) = stO l ops ps (stOs l ops ps a0 i) i := stOs_succ l ops ps a0 i
        have hst : ∀ a1, i ∈ (stOs l ops ps a0 i).1 → mk2 l ((if l[i].kind = 4 then [l[i].peer] else []) ++ (if l[i].kind = 5 then prZ ops ps l[i].proc else [])) (stOs l ops ps a0 i) = a1 → stO l ops ps (stOs l ops ps a0 i) i = mk2 l (quL ops l[i].queue) (mk2 l ((l[i].entries.map unE).map (·.2)) a1) := fun a1 him h => by
          rw [← h, stO, if_pos him, List.getElem?_eq_getElem hilt]
          show mk2 l (edZ ops ps l[i]) _ = _
          rw [← mk2_app, ← mk2_app, edZ, enZ, quZ, quL, List.append_assoc]
        have hsn : i ∉ (stOs l ops ps a0 i).1 → stO l ops ps (stOs l ops ps a0 i) i = stOs l ops ps a0 i := fun h => by rw [stO, if_neg h]
        rw [hes, unE_map] at hst
        generalize l[i] = o at hes hz hg hst
        obtain ⟨kind, data, entries, target, peer, queue, proc, links, up⟩ := o
        have hes : entries = es.map entD := hes
        subst hes
        have hel : es.length ≤ 4194304 := by have h := hz.1; have h : (es.map entD).length ≤ 4194304 := h; rw [List.length_map] at h; exact h
        have hql : queue.length ≤ 4194304 := hz.2
        have hst : ∀ a1, i ∈ (stOs l ops ps a0 i).1 → mk2 l ((if kind = 4 then [peer] else []) ++ (if kind = 5 then prZ ops ps proc else [])) (stOs l ops ps a0 i) = a1 → stO l ops ps (stOs l ops ps a0 i) i = mk2 l (quL ops queue) (mk2 l (es.map (·.2)) a1) := hst
        refine ok_some hg ?_
        refine ok_some (mFind_N (i : Int) _) ?_
        cases hN : inN (stOs l ops ps a0 i).1 (i : Int) with
        | false =>
          have hni : i ∉ (stOs l ops ps a0 i).1 := fun hm => by
            rw [inN_iff.2 hm] at hN
            cases hN
          refine ⟨i + 1, hilt, (show l.length - (i + 1) < l.length - i by omega), ?_⟩
          refine View.of 7 [0, 1, 2, 3, 4, 5] [] rfl rfl rfl rfl rfl rfl ?_ (show MemVw _ _ _ 0 (M6 l ops ps (stOs l ops ps a0 (i + 1))) from by rw [hsu, hsn hni]; exact vw6 l ops ps _ 7 _)
          repeat (first | exact .nil | refine .junk ?_ | refine .put (.ren (next_i64 (by omega)).symm) ?_ | refine .eq rfl ?_)
        | true =>
          have hst := fun a1 => hst a1 (inN_iff.1 hN)
          refine bB_beq (fun h4 => ?_) (fun h4 => ?_)
          · have h4 : kind = 4 := h4
            have h5 : ¬ kind = 5 := by omega
            refine rmark_ok l ops ps peer _ _ [fnB, capB,  .var [.dat (.val (.int .i64 kind)), .dat (.sl 1 data), .dat (.sl 2 (es.map entD)), .dat (.val (.string target)), .dat (.val (.int .i64 peer)), .dat (.sl 4 (queue.map Msg.enc)), .dat (.val (.int .i64 proc)), .dat (.val (.int .i64 links)), .dat (.val (.int .i64 up))]] ?_
            refine bB_beq (fun h5' => absurd h5' h5) (fun _ => ?_)
            refine loop_keep (fun k => k ≤ es.length) [1, 2, 5, 6, 7, 8, 9, 13, 34, 35, 36, 60, 61] (fun k => [(62, vInt .i64 (k : Nat))]) (fun k => M7 l ops ps [.val (.int .i64 kind), .sl 1 data, .sl 2 (es.map entD), .val (.string target), .val (.int .i64 peer), .sl 4 (queue.map Msg.enc), .val (.int .i64 proc), .val (.int .i64 links), .val (.int .i64 up)] (mk2 l ((es.take k).map (·.2)) (markL l peer (stOs l ops ps a0 i).1, markM l peer (stOs l ops ps a0 i).1 (stOs l ops ps a0 i).2))) (fun k => es.length - k) 0 (Nat.zero_le _) ?_ (fun k hk => ?_)
            · refine View.of 7 [0, 1, 2, 3, 4, 5, 6] [] rfl rfl rfl rfl rfl rfl ?_ (vw7 l ops ps [.val (.int .i64 kind), .sl 1 data, .sl 2 (es.map entD), .val (.string target), .val (.int .i64 peer), .sl 4 (queue.map Msg.enc), .val (.int .i64 proc), .val (.int .i64 links), .val (.int .i64 up)] (markL l peer (stOs l ops ps a0 i).1, markM l peer (stOs l ops ps a0 i).1 (stOs l ops ps a0 i).2) 7 [])
              repeat (first | exact .nil | refine .junk ?_ | refine .eq rfl ?_)
            have hk : k ≤ es.length := hk
            refine bB_dec (fun hkl => ?_) (fun hkl => ?_)
            · have hklt : k < es.length := by
                have h : (k : Int) < ((es.map entD).length : Int) := hkl
                rw [List.length_map] at h
                omega
              have e : mk2 l ((es.take (k + 1)).map (·.2)) (markL l peer (stOs l ops ps a0 i).1, markM l peer (stOs l ops ps a0 i).1 (stOs l ops ps a0 i).2) = (markL l es[k].2 (mk2 l ((es.take k).map (·.2)) (markL l peer (stOs l ops ps a0 i).1, markM l peer (stOs l ops ps a0 i).1 (stOs l ops ps a0 i).2)).1, markM l es[k].2 (mk2 l ((es.take k).map (·.2)) (markL l peer (stOs l ops ps a0 i).1, markM l peer (stOs l ops ps a0 i).1 (stOs l ops ps a0 i).2)).1 (mk2 l ((es.take k).map (·.2)) (markL l peer (stOs l ops ps a0 i).1, markM l peer (stOs l ops ps a0 i).1 (stOs l ops ps a0 i).2)).2) := by
                rw [takeO (List.getElem?_eq_getElem hklt), List.map_append, mk2_app]; rfl
              refine ok_some (ent_get hklt) ?_
              refine rmark_ok l ops ps es[k].2 _ _ [fnB, capB, .var [.dat (.val (.int .i64 kind)), .dat (.sl 1 data), .dat (.sl 2 (es.map entD)), .dat (.val (.string target)), .dat (.val (.int .i64 peer)), .dat (.sl 4 (queue.map Msg.enc)), .dat (.val (.int .i64 proc)), .dat (.val (.int .i64 links)), .dat (.val (.int .i64 up))], .var [.dat (.val (.string es[k].1)), .dat (.val (.int .i64 es[k].2))]] ?_
              refine ⟨k + 1, hklt, (show es.length - (k + 1) < es.length - k by omega), ?_⟩
              refine View.of 8 [0, 1, 2, 3, 4, 5, 6] [] rfl rfl rfl rfl rfl rfl ?_ (show MemVw _ _ _ 0 (M7 l ops ps [.val (.int .i64 kind), .sl 1 data, .sl 2 (es.map entD), .val (.string target), .val (.int .i64 peer), .sl 4 (queue.map Msg.enc), .val (.int .i64 proc), .val (.int .i64 links), .val (.int .i64 up)] (mk2 l ((es.take (k + 1)).map (·.2)) (markL l peer (stOs l ops ps a0 i).1, markM l peer (stOs l ops ps a0 i).1 (stOs l ops ps a0 i).2))) from by rw [e]; exact vw7 l ops ps [.val (.int .i64 kind), .sl 1 data, .sl 2 (es.map entD), .val (.string target), .val (.int .i64 peer), .sl 4 (queue.map Msg.enc), .val (.int .i64 proc), .val (.int .i64 links), .val (.int .i64 up)] (_, _) 8 _)
              repeat (first | exact .nil | refine .junk ?_ | refine .put (.ren (next_i64 (by omega)).symm) ?_ | refine .eq rfl ?_)
            · have hke : k = es.length := by
                have h : ¬ (k : Int) < ((es.map entD).length : Int) := hkl
                rw [List.length_map] at h
                omega
              subst hke
              rw [List.take_length]
              refine loop_keep (fun k => k ≤ queue.length) [1, 2, 5, 6, 7, 8, 9, 34, 35, 36, 72, 73] (fun k => [(74, vInt .i64 (k : Nat))]) (fun k => M6 l ops ps (mk2 l (quL ops (queue.take k)) (mk2 l (es.map (·.2)) (markL l peer (stOs l ops ps a0 i).1, markM l peer (stOs l ops ps a0 i).1 (stOs l ops ps a0 i).2)))) (fun k => queue.length - k) 0 (Nat.zero_le _) ?_ (fun k hk => ?_)
              · refine View.of 7 [0, 1, 2, 3, 4, 5] [] rfl rfl rfl rfl rfl rfl ?_ (vw6 l ops ps (mk2 l (es.map (·.2)) (markL l peer (stOs l ops ps a0 i).1, markM l peer (stOs l ops ps a0 i).1 (stOs l ops ps a0 i).2)) 7 _)
                repeat (first | exact .nil | refine .junk ?_ | refine .eq rfl ?_)
              have hk : k ≤ queue.length := hk
              refine bB_dec (fun hkl => ?_) (fun hkl => ?_)
              · have hklt : k < queue.length := by
                  have h : (k : Int) < ((queue.map Msg.enc).length : Int) := hkl
                  rw [List.length_map] at h
                  omega
                have ht := quL_take (ops := ops) hklt
                have hg3 : getZ (queue.map Msg.enc) (k : Nat) = some (queue[k].enc) := by rw [getZ_nat, List.getElem?_map, List.getElem?_eq_getElem hklt]; rfl
                generalize queue[k] = ms at ht hg3
                obtain ⟨mdata, has, opn, rts⟩ := ms
                refine ok_some (x := [.sl 1 mdata, .val (.bool has), .val (.int .i64 opn), .val (.int .i64 rts)]) hg3 ?_
                cases has with
                | true =>
                  have e : mk2 l (quL ops (queue.take (k + 1))) (mk2 l (es.map (·.2)) (markL l peer (stOs l ops ps a0 i).1, markM l peer (stOs l ops ps a0 i).1 (stOs l ops ps a0 i).2)) = (markL l (capZ ops opn) (mk2 l (quL ops (queue.take k)) (mk2 l (es.map (·.2)) (markL l peer (stOs l ops ps a0 i).1, markM l peer (stOs l ops ps a0 i).1 (stOs l ops ps a0 i).2))).1, markM l (capZ ops opn) (mk2 l (quL ops (queue.take k)) (mk2 l (es.map (·.2)) (markL l peer (stOs l ops ps a0 i).1, markM l peer (stOs l ops ps a0 i).1 (stOs l ops ps a0 i).2))).1 (mk2 l (quL ops (queue.take k)) (mk2 l (es.map (·.2)) (markL l peer (stOs l ops ps a0 i).1, markM l peer (stOs l ops ps a0 i).1 (stOs l ops ps a0 i).2))).2) := by
                    rw [ht, mk2_app]; rfl
                  refine rcap_ok l ops ps opn rts _ _ [capB, .var [.dat (.sl 1 mdata), .dat (.val (.bool true)), .dat (.val (.int .i64 opn)), .dat (.val (.int .i64 rts))]] ?_
                  refine ⟨k + 1, hklt, (show queue.length - (k + 1) < queue.length - k by omega), ?_⟩
                  refine View.of 7 [0, 1, 2, 3, 4, 5] [] rfl rfl rfl rfl rfl rfl ?_ (show MemVw _ _ _ 0 (M6 l ops ps (mk2 l (quL ops (queue.take (k + 1))) (mk2 l (es.map (·.2)) (markL l peer (stOs l ops ps a0 i).1, markM l peer (stOs l ops ps a0 i).1 (stOs l ops ps a0 i).2)))) from by rw [e]; exact vw6 l ops ps (_, _) 7 _)
                  repeat (first | exact .nil | refine .junk ?_ | refine .put (.ren (next_i64 (by omega)).symm) ?_ | refine .eq rfl ?_)
                | false =>
                  have e : mk2 l (quL ops (queue.take (k + 1))) (mk2 l (es.map (·.2)) (markL l peer (stOs l ops ps a0 i).1, markM l peer (stOs l ops ps a0 i).1 (stOs l ops ps a0 i).2)) = mk2 l (quL ops (queue.take k)) (mk2 l (es.map (·.2)) (markL l peer (stOs l ops ps a0 i).1, markM l peer (stOs l ops ps a0 i).1 (stOs l ops ps a0 i).2)) := by
                    rw [ht, mk2_app]; rfl
                  refine ⟨k + 1, hklt, (show queue.length - (k + 1) < queue.length - k by omega), ?_⟩
                  refine View.of 7 [0, 1, 2, 3, 4, 5] [] rfl rfl rfl rfl rfl rfl ?_ (show MemVw _ _ _ 0 (M6 l ops ps (mk2 l (quL ops (queue.take (k + 1))) (mk2 l (es.map (·.2)) (markL l peer (stOs l ops ps a0 i).1, markM l peer (stOs l ops ps a0 i).1 (stOs l ops ps a0 i).2)))) from by rw [e]; exact vw6 l ops ps _ 7 _)
                  repeat (first | exact .nil | refine .junk ?_ | refine .put (.ren (next_i64 (by omega)).symm) ?_ | refine .eq rfl ?_)
              · have hke : k = queue.length := by
                  have h : ¬ (k : Int) < ((queue.map Msg.enc).length : Int) := hkl
                  rw [List.length_map] at h
                  omega
                subst hke
                rw [List.take_length]
                refine ⟨i + 1, hilt, (show l.length - (i + 1) < l.length - i by omega), ?_⟩
                have e : stOs l ops ps a0 (i + 1) = mk2 l (quL ops queue) (mk2 l (es.map (·.2)) (markL l peer (stOs l ops ps a0 i).1, markM l peer (stOs l ops ps a0 i).1 (stOs l ops ps a0 i).2)) := by rw [hsu]; exact hst _ (by simp [h4, h5, mk2])
                refine View.of 6 [0, 1, 2, 3, 4, 5] [] rfl rfl rfl rfl rfl rfl ?_ (show MemVw _ _ _ 0 (M6 l ops ps (stOs l ops ps a0 (i + 1))) from by rw [e]; exact vw6 l ops ps _ 6 _)
                repeat (first | exact .nil | refine .junk ?_ | refine .put (.ren (next_i64 (by omega)).symm) ?_ | refine .eq rfl ?_)
          · have h4 : ¬ kind = 4 := h4
            refine bB_beq (fun h5 => ?_) (fun h5 => ?_)
            · have h5 : kind = 5 := h5
              refine rproc_ok l ops ps hps proc (stOs l ops ps a0 i) [ .var [.dat (.val (.int .i64 kind)), .dat (.sl 1 data), .dat (.sl 2 (es.map entD)), .dat (.val (.string target)), .dat (.val (.int .i64 peer)), .dat (.sl 4 (queue.map Msg.enc)), .dat (.val (.int .i64 proc)), .dat (.val (.int .i64 links)), .dat (.val (.int .i64 up))]] ?_
              refine loop_keep (fun k => k ≤ es.length) [1, 2, 5, 6, 7, 8, 9, 13, 34, 35, 36, 60, 61] (fun k => [(62, vInt .i64 (k : Nat))]) (fun k => M7 l ops ps [.val (.int .i64 kind), .sl 1 data, .sl 2 (es.map entD), .val (.string target), .val (.int .i64 peer), .sl 4 (queue.map Msg.enc), .val (.int .i64 proc), .val (.int .i64 links), .val (.int .i64 up)] (mk2 l ((es.take k).map (·.2)) (mk2 l (prZ ops ps proc) (stOs l ops ps a0 i)))) (fun k => es.length - k) 0 (Nat.zero_le _) ?_ (fun k hk => ?_)
              · refine View.of 7 [0, 1, 2, 3, 4, 5, 6] [] rfl rfl rfl rfl rfl rfl ?_ (vw7 l ops ps [.val (.int .i64 kind), .sl 1 data, .sl 2 (es.map entD), .val (.string target), .val (.int .i64 peer), .sl 4 (queue.map Msg.enc), .val (.int .i64 proc), .val (.int .i64 links), .val (.int .i64 up)] (mk2 l (prZ ops ps proc) (stOs l ops ps a0 i)) 7 [])
                repeat (first | exact .nil | refine .junk ?_ | refine .eq rfl ?_)
              have hk : k ≤ es.length := hk
              refine bB_dec (fun hkl => ?_) (fun hkl => ?_)
              · have hklt : k < es.length := by
                  have h : (k : Int) < ((es.map entD).length : Int) := hkl
                  rw [List.length_map] at h
                  omega
                have e : mk2 l ((es.take (k + 1)).map (·.2)) (mk2 l (prZ ops ps proc) (stOs l ops ps a0 i)) = (markL l es[k].2 (mk2 l ((es.take k).map (·.2)) (mk2 l (prZ ops ps proc) (stOs l ops ps a0 i))).1, markM l es[k].2 (mk2 l ((es.take k).map (·.2)) (mk2 l (prZ ops ps proc) (stOs l ops ps a0 i))).1 (mk2 l ((es.take k).map (·.2)) (mk2 l (prZ ops ps proc) (stOs l ops ps a0 i))).2) := by
                  rw [takeO (List.getElem?_eq_getElem hklt), List.map_append, mk2_app]; rfl
                refine ok_some (ent_get hklt) ?_
                refine rmark_ok l ops ps es[k].2 _ _ [fnB, capB, .var [.dat (.val (.int .i64 kind)), .dat (.sl 1 data), .dat (.sl 2 (es.map entD)), .dat (.val (.string target)), .dat (.val (.int .i64 peer)), .dat (.sl 4 (queue.map Msg.enc)), .dat (.val (.int .i64 proc)), .dat (.val (.int .i64 links)), .dat (.val (.int .i64 up))], .var [.dat (.val (.string es[k].1)), .dat (.val (.int .i64 es[k].2))]] ?_
                refine ⟨k + 1, hklt, (show es.length - (k + 1) < es.length - k by omega), ?_⟩
                refine View.of 8 [0, 1, 2, 3, 4, 5, 6] [] rfl rfl rfl rfl rfl rfl ?_ (show MemVw _ _ _ 0 (M7 l ops ps [.val (.int .i64 kind), .sl 1 data, .sl 2 (es.map entD), .val (.string target), .val (.int .i64 peer), .sl 4 (queue.map Msg.enc), .val (.int .i64 proc), .val (.int .i64 links), .val (.int .i64 up)] (mk2 l ((es.take (k + 1)).map (·.2)) (mk2 l (prZ ops ps proc) (stOs l ops ps a0 i)))) from by rw [e]; exact vw7 l ops ps [.val (.int .i64 kind), .sl 1 data, .sl 2 (es.map entD), .val (.string target), .val (.int .i64 peer), .sl 4 (queue.map Msg.enc), .val (.int .i64 proc), .val (.int .i64 links), .val (.int .i64 up)] (_, _) 8 _)
                repeat (first | exact .nil | refine .junk ?_ | refine .put (.ren (next_i64 (by omega)).symm) ?_ | refine .eq rfl ?_)
              · have hke : k = es.length := by
                  have h : ¬ (k : Int) < ((es.map entD).length : Int) := hkl
                  rw [List.length_map] at h
                  omega
                subst hke
                rw [List.take_length]
                refine loop_keep (fun k => k ≤ queue.length) [1, 2, 5, 6, 7, 8, 9, 34, 35, 36, 72, 73] (fun k => [(74, vInt .i64 (k : Nat))]) (fun k => M6 l ops ps (mk2 l (quL ops (queue.take k)) (mk2 l (es.map (·.2)) (mk2 l (prZ ops ps proc) (stOs l ops ps a0 i))))) (fun k => queue.length - k) 0 (Nat.zero_le _) ?_ (fun k hk => ?_)
                · refine View.of 7 [0, 1, 2, 3, 4, 5] [] rfl rfl rfl rfl rfl rfl ?_ (vw6 l ops ps (mk2 l (es.map (·.2)) (mk2 l (prZ ops ps proc) (stOs l ops ps a0 i))) 7 _)
                  repeat (first | exact .nil | refine .junk ?_ | refine .eq rfl ?_)
                have hk : k ≤ queue.length := hk
                refine bB_dec (fun hkl => ?_) (fun hkl => ?_)
                · have hklt : k < queue.length := by
                    have h : (k : Int) < ((queue.map Msg.enc).length : Int) := hkl
                    rw [List.length_map] at h
                    omega
                  have ht := quL_take (ops := ops) hklt
                  have hg3 : getZ (queue.map Msg.enc) (k : Nat) = some (queue[k].enc) := by rw [getZ_nat, List.getElem?_map, List.getElem?_eq_getElem hklt]; rfl
                  generalize queue[k] = ms at ht hg3
                  obtain ⟨mdata, has, opn, rts⟩ := ms
                  refine ok_some (x := [.sl 1 mdata, .val (.bool has), .val (.int .i64 opn), .val (.int .i64 rts)]) hg3 ?_
                  cases has with
                  | true =>
                    have e : mk2 l (quL ops (queue.take (k + 1))) (mk2 l (es.map (·.2)) (mk2 l (prZ ops ps proc) (stOs l ops ps a0 i))) = (markL l (capZ ops opn) (mk2 l (quL ops (queue.take k)) (mk2 l (es.map (·.2)) (mk2 l (prZ ops ps proc) (stOs l ops ps a0 i)))).1, markM l (capZ ops opn) (mk2 l (quL ops (queue.take k)) (mk2 l (es.map (·.2)) (mk2 l (prZ ops ps proc) (stOs l ops ps a0 i)))).1 (mk2 l (quL ops (queue.take k)) (mk2 l (es.map (·.2)) (mk2 l (prZ ops ps proc) (stOs l ops ps a0 i)))).2) := by
                      rw [ht, mk2_app]; rfl
                    refine rcap_ok l ops ps opn rts _ _ [capB, .var [.dat (.sl 1 mdata), .dat (.val (.bool true)), .dat (.val (.int .i64 opn)), .dat (.val (.int .i64 rts))]] ?_
                    refine ⟨k + 1, hklt, (show queue.length - (k + 1) < queue.length - k by omega), ?_⟩
                    refine View.of 7 [0, 1, 2, 3, 4, 5] [] rfl rfl rfl rfl rfl rfl ?_ (show MemVw _ _ _ 0 (M6 l ops ps (mk2 l (quL ops (queue.take (k + 1))) (mk2 l (es.map (·.2)) (mk2 l (prZ ops ps proc) (stOs l ops ps a0 i))))) from by rw [e]; exact vw6 l ops ps (_, _) 7 _)
                    repeat (first | exact .nil | refine .junk ?_ | refine .put (.ren (next_i64 (by omega)).symm) ?_ | refine .eq rfl ?_)
                  | false =>
                    have e : mk2 l (quL ops (queue.take (k + 1))) (mk2 l (es.map (·.2)) (mk2 l (prZ ops ps proc) (stOs l ops ps a0 i))) = mk2 l (quL ops (queue.take k)) (mk2 l (es.map (·.2)) (mk2 l (prZ ops ps proc) (stOs l ops ps a0 i))) := by
                      rw [ht, mk2_app]; rfl
                    refine ⟨k + 1, hklt, (show queue.length - (k + 1) < queue.length - k by omega), ?_⟩
                    refine View.of 7 [0, 1, 2, 3, 4, 5] [] rfl rfl rfl rfl rfl rfl ?_ (show MemVw _ _ _ 0 (M6 l ops ps (mk2 l (quL ops (queue.take (k + 1))) (mk2 l (es.map (·.2)) (mk2 l (prZ ops ps proc) (stOs l ops ps a0 i))))) from by rw [e]; exact vw6 l ops ps _ 7 _)
                    repeat (first | exact .nil | refine .junk ?_ | refine .put (.ren (next_i64 (by omega)).symm) ?_ | refine .eq rfl ?_)
                · have hke : k = queue.length := by
                    have h : ¬ (k : Int) < ((queue.map Msg.enc).length : Int) := hkl
                    rw [List.length_map] at h
                    omega
                  subst hke
                  rw [List.take_length]
                  refine ⟨i + 1, hilt, (show l.length - (i + 1) < l.length - i by omega), ?_⟩
                  have e : stOs l ops ps a0 (i + 1) = mk2 l (quL ops queue) (mk2 l (es.map (·.2)) (mk2 l (prZ ops ps proc) (stOs l ops ps a0 i))) := by rw [hsu]; exact hst _ (by simp [h4, h5, mk2])
                  refine View.of 6 [0, 1, 2, 3, 4, 5] [] rfl rfl rfl rfl rfl rfl ?_ (show MemVw _ _ _ 0 (M6 l ops ps (stOs l ops ps a0 (i + 1))) from by rw [e]; exact vw6 l ops ps _ 6 _)
                  repeat (first | exact .nil | refine .junk ?_ | refine .put (.ren (next_i64 (by omega)).symm) ?_ | refine .eq rfl ?_)
            · have h5 : ¬ kind = 5 := h5
              refine loop_keep (fun k => k ≤ es.length) [1, 2, 5, 6, 7, 8, 9, 13, 34, 35, 36, 60, 61] (fun k => [(62, vInt .i64 (k : Nat))]) (fun k => M7 l ops ps [.val (.int .i64 kind), .sl 1 data, .sl 2 (es.map entD), .val (.string target), .val (.int .i64 peer), .sl 4 (queue.map Msg.enc), .val (.int .i64 proc), .val (.int .i64 links), .val (.int .i64 up)] (mk2 l ((es.take k).map (·.2)) (stOs l ops ps a0 i))) (fun k => es.length - k) 0 (Nat.zero_le _) ?_ (fun k hk => ?_)
              · refine View.of 7 [0, 1, 2, 3, 4, 5, 6] [] rfl rfl rfl rfl rfl rfl ?_ (vw7 l ops ps [.val (.int .i64 kind), .sl 1 data, .sl 2 (es.map entD), .val (.string target), .val (.int .i64 peer), .sl 4 (queue.map Msg.enc), .val (.int .i64 proc), .val (.int .i64 links), .val (.int .i64 up)] (stOs l ops ps a0 i) 7 [])
                repeat (first | exact .nil | refine .junk ?_ | refine .eq rfl ?_)
              have hk : k ≤ es.length := hk
              refine bB_dec (fun hkl => ?_) (fun hkl => ?_)
              · have hklt : k < es.length := by
                  have h : (k : Int) < ((es.map entD).length : Int) := hkl
                  rw [List.length_map] at h
                  omega
                have e : mk2 l ((es.take (k + 1)).map (·.2)) (stOs l ops ps a0 i) = (markL l es[k].2 (mk2 l ((es.take k).map (·.2)) (stOs l ops ps a0 i)).1, markM l es[k].2 (mk2 l ((es.take k).map (·.2)) (stOs l ops ps a0 i)).1 (mk2 l ((es.take k).map (·.2)) (stOs l ops ps a0 i)).2) := by
                  rw [takeO (List.getElem?_eq_getElem hklt), List.map_append, mk2_app]; rfl
                refine ok_some (ent_get hklt) ?_
                refine rmark_ok l ops ps es[k].2 _ _ [fnB, capB, .var [.dat (.val (.int .i64 kind)), .dat (.sl 1 data), .dat (.sl 2 (es.map entD)), .dat (.val (.string target)), .dat (.val (.int .i64 peer)), .dat (.sl 4 (queue.map Msg.enc)), .dat (.val (.int .i64 proc)), .dat (.val (.int .i64 links)), .dat (.val (.int .i64 up))], .var [.dat (.val (.string es[k].1)), .dat (.val (.int .i64 es[k].2))]] ?_
                refine ⟨k + 1, hklt, (show es.length - (k + 1) < es.length - k by omega), ?_⟩
                refine View.of 8 [0, 1, 2, 3, 4, 5, 6] [] rfl rfl rfl rfl rfl rfl ?_ (show MemVw _ _ _ 0 (M7 l ops ps [.val (.int .i64 kind), .sl 1 data, .sl 2 (es.map entD), .val (.string target), .val (.int .i64 peer), .sl 4 (queue.map Msg.enc), .val (.int .i64 proc), .val (.int .i64 links), .val (.int .i64 up)] (mk2 l ((es.take (k + 1)).map (·.2)) (stOs l ops ps a0 i))) from by rw [e]; exact vw7 l ops ps [.val (.int .i64 kind), .sl 1 data, .sl 2 (es.map entD), .val (.string target), .val (.int .i64 peer), .sl 4 (queue.map Msg.enc), .val (.int .i64 proc), .val (.int .i64 links), .val (.int .i64 up)] (_, _) 8 _)
                repeat (first | exact .nil | refine .junk ?_ | refine .put (.ren (next_i64 (by omega)).symm) ?_ | refine .eq rfl ?_)
              · have hke : k = es.length := by
                  have h : ¬ (k : Int) < ((es.map entD).length : Int) := hkl
                  rw [List.length_map] at h
                  omega
                subst hke
                rw [List.take_length]
                refine loop_keep (fun k => k ≤ queue.length) [1, 2, 5, 6, 7, 8, 9, 34, 35, 36, 72, 73] (fun k => [(74, vInt .i64 (k : Nat))]) (fun k => M6 l ops ps (mk2 l (quL ops (queue.take k)) (mk2 l (es.map (·.2)) (stOs l ops ps a0 i)))) (fun k => queue.length - k) 0 (Nat.zero_le _) ?_ (fun k hk => ?_)
                · refine View.of 7 [0, 1, 2, 3, 4, 5] [] rfl rfl rfl rfl rfl rfl ?_ (vw6 l ops ps (mk2 l (es.map (·.2)) (stOs l ops ps a0 i)) 7 _)
                  repeat (first | exact .nil | refine .junk ?_ | refine .eq rfl ?_)
                have hk : k ≤ queue.length := hk
                refine bB_dec (fun hkl => ?_) (fun hkl => ?_)
                · have hklt : k < queue.length := by
                    have h : (k : Int) < ((queue.map Msg.enc).length : Int) := hkl
                    rw [List.length_map] at h
                    omega
                  have ht := quL_take (ops := ops) hklt
                  have hg3 : getZ (queue.map Msg.enc) (k : Nat) = some (queue[k].enc) := by rw [getZ_nat, List.getElem?_map, List.getElem?_eq_getElem hklt]; rfl
                  generalize queue[k] = ms at ht hg3
                  obtain ⟨mdata, has, opn, rts⟩ := ms
                  refine ok_some (x := [.sl 1 mdata, .val (.bool has), .val (.int .i64 opn), .val (.int .i64 rts)]) hg3 ?_
                  cases has with
                  | true =>
                    have e : mk2 l (quL ops (queue.take (k + 1))) (mk2 l (es.map (·.2)) (stOs l ops ps a0 i)) = (markL l (capZ ops opn) (mk2 l (quL ops (queue.take k)) (mk2 l (es.map (·.2)) (stOs l ops ps a0 i))).1, markM l (capZ ops opn) (mk2 l (quL ops (queue.take k)) (mk2 l (es.map (·.2)) (stOs l ops ps a0 i))).1 (mk2 l (quL ops (queue.take k)) (mk2 l (es.map (·.2)) (stOs l ops ps a0 i))).2) := by
                      rw [ht, mk2_app]; rfl
                    refine rcap_ok l ops ps opn rts _ _ [capB, .var [.dat (.sl 1 mdata), .dat (.val (.bool true)), .dat (.val (.int .i64 opn)), .dat (.val (.int .i64 rts))]] ?_
                    refine ⟨k + 1, hklt, (show queue.length - (k + 1) < queue.length - k by omega), ?_⟩
                    refine View.of 7 [0, 1, 2, 3, 4, 5] [] rfl rfl rfl rfl rfl rfl ?_ (show MemVw _ _ _ 0 (M6 l ops ps (mk2 l (quL ops (queue.take (k + 1))) (mk2 l (es.map (·.2)) (stOs l ops ps a0 i)))) from by rw [e]; exact vw6 l ops ps (_, _) 7 _)
                    repeat (first | exact .nil | refine .junk ?_ | refine .put (.ren (next_i64 (by omega)).symm) ?_ | refine .eq rfl ?_)
                  | false =>
                    have e : mk2 l (quL ops (queue.take (k + 1))) (mk2 l (es.map (·.2)) (stOs l ops ps a0 i)) = mk2 l (quL ops (queue.take k)) (mk2 l (es.map (·.2)) (stOs l ops ps a0 i)) := by
                      rw [ht, mk2_app]; rfl
                    refine ⟨k + 1, hklt, (show queue.length - (k + 1) < queue.length - k by omega), ?_⟩
                    refine View.of 7 [0, 1, 2, 3, 4, 5] [] rfl rfl rfl rfl rfl rfl ?_ (show MemVw _ _ _ 0 (M6 l ops ps (mk2 l (quL ops (queue.take (k + 1))) (mk2 l (es.map (·.2)) (stOs l ops ps a0 i)))) from by rw [e]; exact vw6 l ops ps _ 7 _)
                    repeat (first | exact .nil | refine .junk ?_ | refine .put (.ren (next_i64 (by omega)).symm) ?_ | refine .eq rfl ?_)
                · have hke : k = queue.length := by
                    have h : ¬ (k : Int) < ((queue.map Msg.enc).length : Int) := hkl
                    rw [List.length_map] at h
                    omega
                  subst hke
                  rw [List.take_length]
                  refine ⟨i + 1, hilt, (show l.length - (i + 1) < l.length - i by omega), ?_⟩
                  have e : stOs l ops ps a0 (i + 1) = mk2 l (quL ops queue) (mk2 l (es.map (·.2)) (stOs l ops ps a0 i)) := by rw [hsu]; exact hst _ (by simp [h4, h5, mk2])
                  refine View.of 6 [0, 1, 2, 3, 4, 5] [] rfl rfl rfl rfl rfl rfl ?_ (show MemVw _ _ _ 0 (M6 l ops ps (stOs l ops ps a0 (i + 1))) from by rw [e]; exact vw6 l ops ps _ 6 _)
                  repeat (first | exact .nil | refine .junk ?_ | refine .put (.ren (next_i64 (by omega)).symm) ?_ | refine .eq rfl ?_)
      · have hie : i = l.length := by
          have h : ¬ (i : Int) < ((l.map Obj.enc).length : Int) := h
          rw [List.length_map] at h
          omega
        subst hie
        generalize stOs l ops ps a0 l.length = aE at hps2
        obtain ⟨LE, mE⟩ := aE
        obtain ⟨g1, g2, g3⟩ := hps2
        refine ⟨(LE, mE), ⟨g1, fun hm => ?_⟩, ?_, View.of 7 [0, 1, 2, 6] [] rfl rfl rfl rfl rfl rfl ?_ ?_⟩
        · have := g2 hm
          have e : LE = LA := this.1
          show FOK l ops ps pl LE
          rw [e]
          exact this.2
        · show 2 * unm l.length LE + (if mE then 1 else 0) < 2 * unm l.length LA + (if true then 1 else 0)
          cases mE with
          | true => have := g3 rfl; simp; omega
          | false =>
            have e : LE = LA := (g2 rfl).1
            rw [e]; simp
        · repeat (first | exact .nil | refine .junk ?_ | refine .eq rfl ?_)
        · exact .put (notF rfl) rfl (.eq rfl (by simp [kB])) (.put (notF rfl) rfl (.eq (mapN_ren _) (by simp)) (.put (notF rfl) rfl (.eq rfl (by simp [hadC])) (.put (notF rfl) rfl (.eq rfl (by simp [boolC])) (.nil _))))
set_option maxRecDepth 100000 in
theorem rreach_ok (l : List Obj) (ops : List Opn) (ps : List Prc) (pl : List Int) (hl : l.length ≤ 4194304) (hen : ∀ o, o ∈ l → ∃ es : List NE, o.entries = es.map entD) (hsz : ∀ o, o ∈ l → o.entries.length ≤ 4194304 ∧ o.queue.length ≤ 4194304) (hpl : pl.length ≤ 4194304) (hps : ∀ p, p ∈ ps → p.slots.length ≤ 4194304) {m : Mem} {K : CV → Mem → Prop}
    (h : ∀ L, FOK l ops ps pl L → K (.rv (.one (.map m.length))) (m ++ [.mp (L.map entN)])) : ACall Try.prog 5 [kernV l ops ps, intsV pl] m K := by
  refine acall_borrow [] m.length rfl rfl rfl rfl (args0 := [kernV l ops ps, intsV pl]) rfl (fun i b' hi => by simp at hi) (K0 := ReachP l ops ps pl)
    (acall_view (acall_body Try.func5 l5 rfl (Nat.le_of_ble_eq_true rfl) (rreach_body l ops ps pl hl hen hsz hpl hps)) fun r m1 h => h) (fun r m1 hr => ?_)
  obtain ⟨L, hL, rfl, rfl⟩ := hr
  refine ⟨Nat.zero_le _, ?_⟩
  show K (.rv (.one (.map (m.length + (0 - 0))))) (app2 m [(Bk.mp (L.map entN)).ren _])
  rw [app2_eq, mapN_ren]
  exact h L hL
end Fe


end Go.Proofs.Ytbemknkbegkflaa
