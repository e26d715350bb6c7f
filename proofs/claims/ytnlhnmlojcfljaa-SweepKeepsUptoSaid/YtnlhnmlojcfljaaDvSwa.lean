import Derived.Test.YtnlhnmlojcfljaaAmZ2
import Derived.Test.YtnlhnmlojcfljaaDvOb6
import Derived.Test.YtnlhnmlojcfljaaAmY
set_option linter.unusedVariables false
set_option linter.unusedSimpArgs false
namespace Go.Proofs.Ytnlhnmlojcfljaa
open Go.AM Go.ChangeShapes Go.WideShapes Go.ChangeAt Go.RowKit
/-! Marks: what is marked, and what that leads to -/
structure Mk where
  O : List Bool
  P : List Bool
def onB (L : List Bool) (i : Nat) : Prop := L[i]? = some true
def vO (l : List Obj) (z : Int) (i : Nat) : Prop := z = i ∧ ∃ o, l[i]? = some o ∧ o.kind ≠ 0
def vP (ops : List Opn) (z : Int) (c : Nat) : Prop := z = c ∧ c < ops.length
def sE (o : Obj) (z : Int) : Prop := ∃ nm : ByteArray, entD (nm, z) ∈ o.entries
def sQ (o : Obj) (z : Int) : Prop := ∃ q, q ∈ o.queue ∧ q.has = true ∧ q.opn = z
structure Step (l : List Obj) (ops : List Opn) (E : Nat → Prop) (a b : Mk) : Prop where
  lo : b.O.length = a.O.length
  lp : b.P.length = a.P.length
  mo : ∀ i, onB a.O i → onB b.O i
  mp : ∀ c, onB a.P c → onB b.P c
  co : ∀ i o, onB b.O i → ¬ onB a.O i → ¬ E i → l[i]? = some o → (∀ z n, sE o z → vO l z n → onB b.O n) ∧ (∀ z c, sQ o z → vP ops z c → onB b.P c)
  cp : ∀ c o, onB b.P c → ¬ onB a.P c → ops[c]? = some o → ∀ n, vO l o.obj n → onB b.O n
/-- what is closed under all that leads on -/
structure Cl (l : List Obj) (ops : List Opn) (RO RP : Nat → Prop) : Prop where
  e : ∀ i o, RO i → l[i]? = some o → ∀ z n, sE o z → vO l z n → RO n
  q : ∀ i o, RO i → l[i]? = some o → ∀ z c, sQ o z → vP ops z c → RP c
  p : ∀ c o, RP c → ops[c]? = some o → ∀ n, vO l o.obj n → RO n
def InR (RO RP : Nat → Prop) (a : Mk) : Prop := (∀ i, onB a.O i → RO i) ∧ (∀ c, onB a.P c → RP c)
def falses (L : List Bool) : Nat := (L.filter (fun b => !b)).length
def Mk.mu (a : Mk) : Nat := falses a.O + falses a.P
theorem Step.refl {l : List Obj} {ops : List Opn} {E : Nat → Prop} (a : Mk) : Step l ops E a a :=
  ⟨rfl, rfl, fun _ h => h, fun _ h => h, fun _ _ h h2 => absurd h h2, fun _ _ h h2 => absurd h h2⟩
theorem Step.trans {l : List Obj} {ops : List Opn} {E : Nat → Prop} {a b c : Mk} (h1 : Step l ops E a b) (h2 : Step l ops (fun _ => False) b c) : Step l ops E a c := by
  refine ⟨h2.lo.trans h1.lo, h2.lp.trans h1.lp, fun i h => h2.mo i (h1.mo i h), fun i h => h2.mp i (h1.mp i h), fun i o hi hn hE ho => ?_, fun i o hi hn ho n hv => ?_⟩
  · by_cases hb : onB b.O i
    · obtain ⟨k1, k2⟩ := h1.co i o hb hn hE ho
      exact ⟨fun z n hz hv => h2.mo n (k1 z n hz hv), fun z c hz hv => h2.mp c (k2 z c hz hv)⟩
    · exact h2.co i o hi hb (fun h => h) ho
  · by_cases hb : onB b.P i
    · exact h2.mo n (h1.cp i o hb hn ho n hv)
    · exact h2.cp i o hi hb ho n hv
theorem falses_le : ∀ (a b : List Bool), b.length = a.length → (∀ i, onB a i → onB b i) → falses b ≤ falses a
  | [], [], _, _ => Nat.le_refl _
  | [], _ :: _, h, _ => by simp at h
  | _ :: _, [], h, _ => by simp at h
  | x :: a, y :: b, h, hm => by
    have ih := falses_le a b (by simpa using h) (fun i hi => by simpa [onB] using hm (i + 1) (by simpa [onB] using hi))
    have h0 : x = true → y = true := fun hx => by simpa [onB] using hm 0 (by simp [onB, hx])
    unfold falses at ih ⊢
    cases x <;> cases y <;> simp at h0 ⊢ <;> omega
theorem falses_set : ∀ (a : List Bool) (n : Nat), a[n]? = some false → falses (a.set n true) + 1 = falses a
  | [], n, h => by simp at h
  | x :: a, 0, h => by
    simp at h
    subst h
    simp [falses]
  | x :: a, n + 1, h => by
    have ih := falses_set a n (by simpa using h)
    unfold falses at ih ⊢
    cases x <;> simp at ih ⊢ <;> omega
theorem Step.mu_le {l : List Obj} {ops : List Opn} {E : Nat → Prop} {a b : Mk} (h : Step l ops E a b) : b.mu ≤ a.mu :=
  Nat.add_le_add (falses_le _ _ h.lo h.mo) (falses_le _ _ h.lp h.mp)
theorem onB_set {L : List Bool} {n i : Nat} (h : onB L i) : onB (L.set n true) i := by
  unfold onB at h ⊢
  rw [List.getElem?_set]
  split
  · rename_i e
    subst e
    have := (List.getElem?_eq_some_iff.1 h).1
    simp [this]
  · exact h
theorem onB_set_self {L : List Bool} {n : Nat} (h : n < L.length) : onB (L.set n true) n := by
  unfold onB
  simp [h]
theorem onB_set_or {L : List Bool} {n i : Nat} (h : onB (L.set n true) i) : onB L i ∨ i = n := by
  unfold onB at h ⊢
  rw [List.getElem?_set] at h
  split at h
  · rename_i e; exact .inr e.symm
  · exact .inl h
/-- what the marking of an object comes to -/
structure PO (l : List Obj) (ops : List Opn) (z : Int) (a b : Mk) : Prop where
  st : Step l ops (fun _ => False) a b
  on : ∀ n, vO l z n → onB b.O n
  sd : ∀ RO RP, Cl l ops RO RP → InR RO RP a → (∀ n, vO l z n → RO n) → InR RO RP b
structure PP (l : List Obj) (ops : List Opn) (z : Int) (a b : Mk) : Prop where
  st : Step l ops (fun _ => False) a b
  on : ∀ c, vP ops z c → onB b.P c
  sd : ∀ RO RP, Cl l ops RO RP → InR RO RP a → (∀ c, vP ops z c → RP c) → InR RO RP b
theorem PO.none {l : List Obj} {ops : List Opn} {z : Int} {a : Mk} (h : ∀ n, vO l z n → onB a.O n) : PO l ops z a a := ⟨.refl a, h, fun _ _ _ h _ => h⟩
theorem PP.none {l : List Obj} {ops : List Opn} {z : Int} {a : Mk} (h : ∀ n, vP ops z n → onB a.P n) : PP l ops z a a := ⟨.refl a, h, fun _ _ _ h _ => h⟩
/-- between: an object is marked, and so much of what is in it was gone through -/
structure Mid (l : List Obj) (ops : List Opn) (n : Nat) (a b : Mk) (nE nQ : Nat) (es : List (ByteArray × Int)) (qs : List Msg) : Prop where
  st : Step l ops (fun i => i = n) a b
  on : onB b.O n
  e : ∀ j e, j < nE → es[j]? = some e → ∀ m, vO l e.2 m → onB b.O m
  q : ∀ j q, j < nQ → qs[j]? = some q → q.has = true → ∀ c, vP ops q.opn c → onB b.P c
  sd : ∀ RO RP, Cl l ops RO RP → InR RO RP a → RO n → InR RO RP b
theorem Mid.start {l : List Obj} {ops : List Opn} {n : Nat} {a : Mk} (hn : n < a.O.length) (es : List (ByteArray × Int)) (qs : List Msg) : Mid l ops n a ⟨a.O.set n true, a.P⟩ 0 0 es qs := by
  refine ⟨⟨by simp, rfl, fun i h => onB_set h, fun i h => h, fun i o h h2 h3 => ?_, fun _ _ h h2 => absurd h h2⟩, onB_set_self hn, fun j e h => absurd h (Nat.not_lt_zero j), fun j e h => absurd h (Nat.not_lt_zero j), fun RO RP _ h hr => ⟨fun i hi => ?_, h.2⟩⟩
  · rcases onB_set_or h with h | h
    · exact absurd h h2
    · exact absurd h h3
  · rcases onB_set_or hi with hi | rfl
    · exact h.1 i hi
    · exact hr
theorem Mid.stepE {l : List Obj} {ops : List Opn} {n : Nat} {a b c : Mk} {j : Nat} {es : List (ByteArray × Int)} {qs : List Msg} (h : Mid l ops n a b j 0 es qs) {e : ByteArray × Int} (he : es[j]? = some e) (hc : PO l ops e.2 b c)
    {o : Obj} (ho : l[n]? = some o) (hes : o.entries = es.map entD) : Mid l ops n a c (j + 1) 0 es qs := by
  have hse : sE o e.2 := ⟨e.1, by rw [hes]; exact List.mem_map_of_mem (List.mem_of_getElem? he)⟩
  refine ⟨h.st.trans hc.st, hc.st.mo n h.on, fun i x hi hx m hv => ?_, fun i x hi => absurd hi (Nat.not_lt_zero i), fun RO RP hcl hin hr => hc.sd RO RP hcl (h.sd RO RP hcl hin hr) fun m hv => hcl.e n o hr ho e.2 m hse hv⟩
  rcases Nat.lt_or_ge i j with hij | hij
  · exact hc.st.mo m (h.e i x hij hx m hv)
  · have : i = j := by omega
    subst this
    rw [he] at hx
    cases hx
    exact hc.on m hv
theorem Mid.stepQ {l : List Obj} {ops : List Opn} {n : Nat} {a b c : Mk} {k j : Nat} {es : List (ByteArray × Int)} {qs : List Msg} (h : Mid l ops n a b k j es qs) {q : Msg} (hq : qs[j]? = some q) (hh : q.has = true) (hc : PP l ops q.opn b c)
    {o : Obj} (ho : l[n]? = some o) (hqs : o.queue = qs) : Mid l ops n a c k (j + 1) es qs := by
  have hsq : sQ o q.opn := ⟨q, by rw [hqs]; exact List.mem_of_getElem? hq, hh, rfl⟩
  refine ⟨h.st.trans hc.st, hc.st.mo n h.on, fun i x hi hx m hv => hc.st.mo m (h.e i x hi hx m hv), fun i x hi hx hxh m hv => ?_, fun RO RP hcl hin hr => hc.sd RO RP hcl (h.sd RO RP hcl hin hr) fun m hv => hcl.q n o hr ho q.opn m hsq hv⟩
  rcases Nat.lt_or_ge i j with hij | hij
  · exact hc.st.mp m (h.q i x hij hx hxh m hv)
  · have : i = j := by omega
    subst this
    rw [hq] at hx
    cases hx
    exact hc.on m hv
theorem Mid.skipQ {l : List Obj} {ops : List Opn} {n : Nat} {a b : Mk} {k j : Nat} {es : List (ByteArray × Int)} {qs : List Msg} (h : Mid l ops n a b k j es qs) {q : Msg} (hq : qs[j]? = some q) (hh : q.has = false) : Mid l ops n a b k (j + 1) es qs := by
  refine ⟨h.st, h.on, h.e, fun i x hi hx hxh m hv => ?_, h.sd⟩
  rcases Nat.lt_or_ge i j with hij | hij
  · exact h.q i x hij hx hxh m hv
  · have : i = j := by omega
    subst this
    rw [hq] at hx
    cases hx
    rw [hh] at hxh
    cases hxh
theorem Mid.fin {l : List Obj} {ops : List Opn} {n : Nat} {a b : Mk} {es : List (ByteArray × Int)} {qs : List Msg} (h : Mid l ops n a b es.length qs.length es qs) {o : Obj} (ho : l[n]? = some o) (hk : o.kind ≠ 0) (hes : o.entries = es.map entD) (hqs : o.queue = qs) : PO l ops (n : Int) a b := by
  refine ⟨⟨h.st.lo, h.st.lp, h.st.mo, h.st.mp, fun i x hi hni _ hx => ?_, h.st.cp⟩, fun m hv => ?_, fun RO RP hcl hin hr => h.sd RO RP hcl hin (hr n ⟨rfl, o, ho, hk⟩)⟩
  · by_cases hin : i = n
    · subst hin
      rw [ho] at hx
      cases hx
      refine ⟨fun z m ⟨nm, hm⟩ hv => ?_, fun z c ⟨q, hq, hh, hz⟩ hv => ?_⟩
      · rw [hes] at hm
        obtain ⟨e, he, hee⟩ := List.mem_map.1 hm
        have : e.2 = z := by
          simp [entD] at hee
          exact hee.2
        subst this
        obtain ⟨j, hj⟩ := List.getElem?_of_mem he
        exact h.e j e (List.getElem?_eq_some_iff.1 hj).1 hj m hv
      · rw [hqs] at hq
        obtain ⟨j, hj⟩ := List.getElem?_of_mem hq
        subst hz
        exact h.q j q (List.getElem?_eq_some_iff.1 hj).1 hj hh c hv
    · exact h.st.co i x hi hni hin hx
  · have : m = n := by have := hv.1; omega
    subst this
    exact h.on
theorem PP.of {l : List Obj} {ops : List Opn} {a b : Mk} {c : Nat} (hc : c < a.P.length) {o : Opn} (ho : ops[c]? = some o) (h : PO l ops o.obj ⟨a.O, a.P.set c true⟩ b) : PP l ops (c : Int) a b := by
  have hst : Step l ops (fun _ => False) a b := by
    refine ⟨h.st.lo, by have := h.st.lp; simpa using this, h.st.mo, fun i hi => h.st.mp i (onB_set hi), fun i x hi hni => h.st.co i x hi hni, fun i x hi hni hx n hv => ?_⟩
    by_cases hic : i = c
    · subst hic
      rw [ho] at hx
      cases hx
      exact h.on n hv
    · exact h.st.cp i x hi (fun hs => (onB_set_or hs).elim hni hic) hx n hv
  refine ⟨hst, fun d hd => ?_, fun RO RP hcl hin hr => ?_⟩
  · have : d = c := by have := hd.1; omega
    subst this
    exact h.st.mp d (onB_set_self hc)
  · have hrc : RP c := hr c ⟨rfl, (List.getElem?_eq_some_iff.1 ho).1⟩
    exact h.sd RO RP hcl ⟨hin.1, fun i hi => (onB_set_or hi).elim (hin.2 i) fun e => e ▸ hrc⟩ fun n hv => hcl.p c o hrc ho n hv

def c44 : LF := ⟨88, [], (.seq (.seq (.reg [
    ⟨(some 9), .mov (.t 1), none⟩,
    ⟨(some 10), .bin .lss (.t 9) (.c (.rv (.one (.dat (.val (.int .i64 (0))))))), none⟩,
    ⟨(some 11), .mov (.t 10), none⟩,
    ⟨(some 12), .mov (.t 1), (some (11, false))⟩,
    ⟨(some 13), .mov (.t 0), (some (11, false))⟩,
    ⟨(some 14), .nilc (.t 13), (some (11, false))⟩,
    ⟨(some 15), .fadr 1 (.t 14), (some (11, false))⟩,
    ⟨(some 16), .load false 1 (.t 15), (some (11, false))⟩,
    ⟨(some 17), .len 1 (.t 16), (some (11, false))⟩,
    ⟨(some 18), .bin .geq (.t 12) (.t 17), (some (11, false))⟩,
    ⟨(some 19), .pick (.t 11) (.c (.rv (.one (.dat (.val (.bool true)))))) (.t 18), none⟩,
    ⟨(some 20), .mov (.t 19), none⟩,
    ⟨(some 21), .mov (.t 0), (some (20, false))⟩,
    ⟨(some 22), .nilc (.t 21), (some (20, false))⟩,
    ⟨(some 23), .fadr 1 (.t 22), (some (20, false))⟩,
    ⟨(some 24), .load false 1 (.t 23), (some (20, false))⟩,
    ⟨(some 25), .mov (.t 1), (some (20, false))⟩,
    ⟨(some 26), .idx 1 (.t 24) (.t 25), (some (20, false))⟩,
    ⟨(some 27), .load false 1 (.t 26), (some (20, false))⟩,
    ⟨(some 28), .pick (.t 20) (.c (.rv (.one (.dat (.val (.bool true)))))) (.t 27), none⟩,
    ⟨(some 29), .mov (.t 28), none⟩,
    ⟨(some 30), .mov (.t 0), (some (29, false))⟩,
    ⟨(some 31), .nilc (.t 30), (some (29, false))⟩,
    ⟨(some 32), .fadr 0 (.t 31), (some (29, false))⟩,
    ⟨(some 33), .load false 1 (.t 32), (some (29, false))⟩,
    ⟨(some 34), .nilc (.t 33), (some (29, false))⟩,
    ⟨(some 35), .fadr 0 (.t 34), (some (29, false))⟩,
    ⟨(some 36), .load false 1 (.t 35), (some (29, false))⟩,
    ⟨(some 37), .mov (.t 1), (some (29, false))⟩,
    ⟨(some 38), .idx 9 (.t 36) (.t 37), (some (29, false))⟩,
    ⟨(some 39), .fadr 0 (.t 38), (some (29, false))⟩,
    ⟨(some 40), .load false 1 (.t 39), (some (29, false))⟩,
    ⟨(some 41), .bin .eql (.t 40) (.c (.rv (.one (.dat (.val (.int .i64 (0))))))), (some (29, false))⟩,
    ⟨(some 42), .pick (.t 29) (.c (.rv (.one (.dat (.val (.bool true)))))) (.t 41), none⟩]) (.cond (.t 42) .ret .skip)) (.seq (.reg [
    ⟨(some 43), .mov (.t 0), none⟩,
    ⟨(some 44), .nilc (.t 43), none⟩,
    ⟨(some 45), .fadr 1 (.t 44), none⟩,
    ⟨(some 46), .load false 1 (.t 45), none⟩,
    ⟨(some 47), .mov (.t 1), none⟩,
    ⟨(some 48), .idx 1 (.t 46) (.t 47), none⟩,
    ⟨none, .store 1 (.t 48) (.c (.rv (.one (.dat (.val (.bool true)))))), none⟩]) (.seq (.reg [
    ⟨(some 49), .mov (.t 0), none⟩,
    ⟨(some 50), .nilc (.t 49), none⟩,
    ⟨(some 51), .fadr 0 (.t 50), none⟩,
    ⟨(some 52), .load false 1 (.t 51), none⟩,
    ⟨(some 53), .nilc (.t 52), none⟩,
    ⟨(some 54), .fadr 0 (.t 53), none⟩,
    ⟨(some 55), .load false 1 (.t 54), none⟩,
    ⟨(some 56), .mov (.t 1), none⟩,
    ⟨(some 57), .idx 9 (.t 55) (.t 56), none⟩,
    ⟨(some 4), .mov (.t 57), none⟩]) (.seq (.seq (.reg [
    ⟨(some 58), .mov (.t 4), none⟩,
    ⟨(some 59), .nilc (.t 58), none⟩,
    ⟨(some 60), .fadr 2 (.t 59), none⟩,
    ⟨(some 61), .load false 1 (.t 60), none⟩,
    ⟨(some 62), .len 1 (.t 61), none⟩,
    ⟨(some 63), .mov (.c (.rv (.one (.dat (.val (.int .i64 (0))))))), none⟩]) (.block 0 (.loop (.seq (.reg [
    ⟨(some 64), .bin .lss (.t 63) (.t 62), none⟩]) (.seq (.cond (.t 64) .skip (.exit 0)) (.seq (.block 1 (.seq (.reg [
    ⟨(some 65), .idx 2 (.t 61) (.t 63), none⟩,
    ⟨(some 66), .load true 2 (.t 65), none⟩,
    ⟨(some 6), .alloc [(.dat (.val (.string ⟨#[]⟩))), (.dat (.val (.int .i64 (0))))], none⟩,
    ⟨none, .store 2 (.t 6) (.t 66), none⟩]) (.reg [
    ⟨(some 67), .mov (.t 0), none⟩,
    ⟨(some 68), .fadr 1 (.t 6), none⟩,
    ⟨(some 69), .load false 1 (.t 68), none⟩,
    ⟨(some 70), .call (.c (.rv (.one (.fn 44 [])))) [(.t 67), (.t 69)], none⟩]))) (.reg [
    ⟨(some 71), .bin .add (.t 63) (.c (.rv (.one (.dat (.val (.int .i64 (1))))))), none⟩,
    ⟨(some 63), .mov (.t 71), none⟩]))))))) (.seq (.reg [
    ⟨(some 72), .mov (.t 4), none⟩,
    ⟨(some 73), .nilc (.t 72), none⟩,
    ⟨(some 74), .fadr 5 (.t 73), none⟩,
    ⟨(some 75), .load false 1 (.t 74), none⟩,
    ⟨(some 76), .len 1 (.t 75), none⟩,
    ⟨(some 77), .mov (.c (.rv (.one (.dat (.val (.int .i64 (0))))))), none⟩]) (.block 2 (.loop (.seq (.reg [
    ⟨(some 78), .bin .lss (.t 77) (.t 76), none⟩]) (.seq (.cond (.t 78) .skip (.exit 2)) (.seq (.block 3 (.seq (.reg [
    ⟨(some 79), .idx 4 (.t 75) (.t 77), none⟩,
    ⟨(some 80), .load true 4 (.t 79), none⟩,
    ⟨(some 8), .alloc [.esl, (.dat (.val (.bool false))), (.dat (.val (.int .i64 (0)))), (.dat (.val (.int .i64 (0))))], none⟩,
    ⟨none, .store 4 (.t 8) (.t 80), none⟩]) (.seq (.reg [
    ⟨(some 81), .fadr 1 (.t 8), none⟩,
    ⟨(some 82), .load false 1 (.t 81), none⟩]) (.cond (.t 82) (.reg [
    ⟨(some 83), .mov (.t 0), none⟩,
    ⟨(some 84), .fadr 2 (.t 8), none⟩,
    ⟨(some 85), .load true 2 (.t 84), none⟩,
    ⟨(some 86), .call (.c (.rv (.one (.fn 45 [])))) [(.t 83), (.t 85)], none⟩]) .skip)))) (.reg [
    ⟨(some 87), .bin .add (.t 77) (.c (.rv (.one (.dat (.val (.int .i64 (1))))))), none⟩,
    ⟨(some 77), .mov (.t 87), none⟩])))))))))))⟩
def c45 : LF := ⟨48, [], (.seq (.reg [
    ⟨(some 3), .box (.t 1), none⟩]) (.seq (.seq (.draw [
    ⟨(some 4), .fadr 0 (.t 3), none⟩,
    ⟨(some 5), .load false 1 (.t 4), none⟩,
    ⟨(some 6), .bin .lss (.t 5) (.c (.rv (.one (.dat (.val (.int .i64 (0))))))), none⟩,
    ⟨(some 7), .mov (.t 6), none⟩,
    ⟨(some 8), .fadr 0 (.t 3), (some (7, false))⟩,
    ⟨(some 9), .load false 1 (.t 8), (some (7, false))⟩,
    ⟨(some 10), .mov (.t 0), (some (7, false))⟩,
    ⟨(some 11), .nilc (.t 10), (some (7, false))⟩,
    ⟨(some 12), .fadr 2 (.t 11), (some (7, false))⟩,
    ⟨(some 13), .load false 1 (.t 12), (some (7, false))⟩,
    ⟨(some 14), .len 1 (.t 13), (some (7, false))⟩,
    ⟨(some 15), .bin .geq (.t 9) (.t 14), (some (7, false))⟩,
    ⟨(some 16), .pick (.t 7) (.c (.rv (.one (.dat (.val (.bool true)))))) (.t 15), none⟩,
    ⟨(some 17), .mov (.t 16), none⟩,
    ⟨(some 18), .mov (.t 0), (some (17, false))⟩,
    ⟨(some 19), .nilc (.t 18), (some (17, false))⟩,
    ⟨(some 20), .fadr 2 (.t 19), (some (17, false))⟩,
    ⟨(some 21), .load false 1 (.t 20), (some (17, false))⟩,
    ⟨(some 22), .fadr 0 (.t 3), (some (17, false))⟩,
    ⟨(some 23), .load false 1 (.t 22), (some (17, false))⟩,
    ⟨(some 24), .idx 1 (.t 21) (.t 23), (some (17, false))⟩,
    ⟨(some 25), .load false 1 (.t 24), (some (17, false))⟩,
    ⟨(some 26), .pick (.t 17) (.c (.rv (.one (.dat (.val (.bool true)))))) (.t 25), none⟩]
    [(.cons 0 none (.cons 1 none (.cons 2 none (.cons 3 none (.cons 4 none (.cons 5 none (.cons 6 none (.cons 7 none (.cons 8 none (.cons 9 none (.cons 10 none (.cons 11 none (.cons 12 none (.cons 13 none (.cons 14 none (.cons 15 none (.cons 16 none (.cons 17 none (.cons 18 none (.cons 19 none (.cons 20 none (.cons 21 none (.cons 22 none .nil)))))))))))))))))))))))]) (.cond (.t 26) .ret .skip)) (.seq (.draw [
    ⟨(some 27), .mov (.t 0), none⟩,
    ⟨(some 28), .nilc (.t 27), none⟩,
    ⟨(some 29), .fadr 2 (.t 28), none⟩,
    ⟨(some 30), .load false 1 (.t 29), none⟩,
    ⟨(some 31), .fadr 0 (.t 3), none⟩,
    ⟨(some 32), .load false 1 (.t 31), none⟩,
    ⟨(some 33), .idx 1 (.t 30) (.t 32), none⟩,
    ⟨none, .store 1 (.t 33) (.c (.rv (.one (.dat (.val (.bool true)))))), none⟩]
    [(.cons 0 none (.cons 1 none (.cons 2 none (.cons 3 none (.cons 4 none (.cons 5 none (.cons 6 none (.cons 7 (some []) .nil))))))))]) (.draw [
    ⟨(some 34), .mov (.t 0), none⟩,
    ⟨(some 35), .mov (.t 0), none⟩,
    ⟨(some 36), .nilc (.t 35), none⟩,
    ⟨(some 37), .fadr 0 (.t 36), none⟩,
    ⟨(some 38), .load false 1 (.t 37), none⟩,
    ⟨(some 39), .nilc (.t 38), none⟩,
    ⟨(some 40), .fadr 1 (.t 39), none⟩,
    ⟨(some 41), .load false 1 (.t 40), none⟩,
    ⟨(some 42), .fadr 0 (.t 3), none⟩,
    ⟨(some 43), .load false 1 (.t 42), none⟩,
    ⟨(some 44), .idx 2 (.t 41) (.t 43), none⟩,
    ⟨(some 45), .fadr 0 (.t 44), none⟩,
    ⟨(some 46), .load false 1 (.t 45), none⟩,
    ⟨(some 47), .call (.c (.rv (.one (.fn 44 [])))) [(.t 34), (.t 46)], none⟩]
    [(.cons 0 none (.cons 1 none (.cons 2 none (.cons 3 none (.cons 4 none (.cons 5 none (.cons 6 none (.cons 7 none (.cons 8 none (.cons 9 none (.cons 10 none (.cons 11 none (.cons 12 none (.cons 13 (some []) .nil))))))))))))))]))))⟩
/-! marker.obj, marker.cap: over a kernel that is data -/
def bE (b : Bool) : List Dt := [.val (.bool b)]
def M0 (l : List Obj) (ops : List Opn) (ps : List Prc) (a : Mk) : Mem :=
  [.var [.ptr 1 0, .row 2 1 0 none, .row 3 1 0 none], .var [.dat (objsD l), .dat (opnD ops), .dat (prcD ps)], .row 1 (dRows (a.O.map bE)), .row 1 (dRows (a.P.map bE))]
theorem l44 : lowF Try.prog Try.f44 = some c44 := by kernel_rfl
theorem l45 : lowF Try.prog Try.f45 = some c45 := by kernel_rfl
theorem borrowD {l : List Obj} {ops : List Opn} {ps : List Prc} {a : Mk} {f : Nat} {args : List CV} {Q : Mk → Prop} (h : ACall Try.prog f args (M0 l ops ps a) (fun r m => ∃ b, Q b ∧ r = .tup [] ∧ m = M0 l ops ps b)) (x : Bk)
    (hargs : args = args.map (CV.ren (sg [0, 1, 2, 3] 5))) {K : CV → Mem → Prop} (hK : ∀ b, Q b → K (.tup []) [.var [.ptr 1 0, .row 2 1 0 none, .row 3 1 0 none], .var [.dat (objsD l), .dat (opnD ops), .dat (prcD ps)], .row 1 (dRows (b.O.map bE)), .row 1 (dRows (b.P.map bE)), x]) :
    ACall Try.prog f args [.var [.ptr 1 0, .row 2 1 0 none, .row 3 1 0 none], .var [.dat (objsD l), .dat (opnD ops), .dat (prcD ps)], .row 1 (dRows (a.O.map bE)), .row 1 (dRows (a.P.map bE)), x] K := by
  refine acall_borrow [0, 1, 2, 3] 5 rfl rfl rfl rfl (args0 := args) hargs (fun i b' hi => ?_) h (fun r m1 hr => ?_)
  · match i, hi with
    | 0, hi => cases hi; exact .inr ⟨fun h => h, _, rfl, .eq rfl (by simp)⟩
    | 1, hi => cases hi; exact .inr ⟨fun h => h, _, rfl, .eq rfl (by simp)⟩
    | 2, hi => cases hi; exact .inr ⟨fun h => h, _, rfl, .rowDE rfl⟩
    | 3, hi => cases hi; exact .inr ⟨fun h => h, _, rfl, .rowDE rfl⟩
    | n + 4, hi => simp [M0] at hi
  · obtain ⟨b, hb, rfl, rfl⟩ := hr
    refine ⟨Nat.le_refl _, ?_⟩
    have e2 : (Bk.row 1 (dRows (b.O.map bE))).ren (sg [0, 1, 2, 3] 5) = .row 1 (dRows (b.O.map bE)) := by simp only [Bk.ren, dRows_ren]
    have e3 : (Bk.row 1 (dRows (b.P.map bE))).ren (sg [0, 1, 2, 3] 5) = .row 1 (dRows (b.P.map bE)) := by simp only [Bk.ren, dRows_ren]
    show K _ [.var [.ptr 1 0, .row 2 1 0 none, .row 3 1 0 none], .var [.dat (objsD l), .dat (opnD ops), .dat (prcD ps)], (Bk.row 1 (dRows (b.O.map bE))).ren (sg [0, 1, 2, 3] 5), (Bk.row 1 (dRows (b.P.map bE))).ren (sg [0, 1, 2, 3] 5), x]
    rw [e2, e3]
    exact hK b hb
def bseO (l : List Obj) (ops : List Opn) (a : Mk) : Prop := a.O.length = l.length ∧ a.P.length = ops.length
theorem bO_get {L : List Bool} {n : Nat} (h : n < L.length) : nth (dRows (L.map bE)) n = some [.dat (.val (.bool L[n]))] := dRows_nth' bE L h
theorem b_idx {L : List Bool} {n : Nat} (h : n < L.length) : idxZ (n : Int) (lenOf (dRows (L.map bE)).length 0 none) = some n := idxZ_nat (by show n < (dRows (L.map bE)).length; rw [dRows_len, List.length_map]; exact h)
theorem bO_set {L : List Bool} {n : Nat} : setN (dRows (L.map bE)) n [CC.dat (.val (.bool true))] = dRows ((L.set n true).map bE) := dRows_set' bE L n true
theorem Mid.mu_le {l : List Obj} {ops : List Opn} {n : Nat} {a b : Mk} {k j : Nat} {es : List (ByteArray × Int)} {qs : List Msg} (h : Mid l ops n a b k j es qs) : b.mu ≤ (⟨a.O.set n true, a.P⟩ : Mk).mu := by
  refine Nat.add_le_add (falses_le _ _ (by rw [List.length_set]; exact h.st.lo) fun i hi => ?_) (falses_le _ _ h.st.lp h.st.mp)
  rcases onB_set_or hi with hi | rfl
  · exact h.st.mo i hi
  · exact h.on
theorem msg_get {qs : List Msg} {k : Nat} (h : k < qs.length) : getZ (qs.map Msg.enc) (k : Nat) = some [.sl 1 qs[k].data, .val (.bool qs[k].has), .val (.int .i64 qs[k].opn), .val (.int .i64 qs[k].rts)] := by
  rw [getZ_nat, List.getElem?_map, List.getElem?_eq_getElem h]; rfl
structure StM where
  j : Nat
  b : Mk
set_option maxRecDepth 100000 in
set_option maxHeartbeats 16000000 in
theorem obj_bodyD (l : List Obj) (ops : List Opn) (ps : List Prc) (g : ∀ o, o ∈ l → o.sm) (N : Nat)
    (ihO : ∀ a z, bseO l ops a → a.mu < N → ACall Try.prog 44 [.rv (.one (.ptr 0 0)), vInt .i64 z] (M0 l ops ps a) (fun r m => ∃ b, PO l ops z a b ∧ r = .tup [] ∧ m = M0 l ops ps b))
    (ihP : ∀ a z w, bseO l ops a → a.mu < N → ACall Try.prog 45 [.rv (.one (.ptr 0 0)), .rv (.agg [.dat (.val (.int .i64 z)), .dat (.val (.int .i64 w))])] (M0 l ops ps a) (fun r m => ∃ b, PP l ops z a b ∧ r = .tup [] ∧ m = M0 l ops ps b))
    (a : Mk) (z : Int) (hbs : bseO l ops a) (hmu : a.mu ≤ N) : body Try.prog c44 [.rv (.one (.ptr 0 0)), vInt .i64 z] (M0 l ops ps a) (fun r m => ∃ b, PO l ops z a b ∧ r = .tup [] ∧ m = M0 l ops ps b) := by
  have hlen : ∀ L : List Bool, (dRows (L.map bE)).length = L.length := fun L => by rw [dRows_len, List.length_map]
  obtain ⟨hO, hP⟩ := hbs
  refine bB_dec (fun h => ?_) (fun h0 => ?_)
  · exact ⟨a, .none fun n hv => by have := hv.1; have h : z < 0 := h; omega, rfl, rfl⟩
  obtain ⟨n, rfl⟩ : ∃ n : Nat, z = n := ⟨z.toNat, by have h : ¬ z < 0 := h0; omega⟩
  refine bB_dec (fun h => ?_) (fun h1 => ?_)
  · refine ⟨a, .none fun m hv => ?_, rfl, rfl⟩
    obtain ⟨hz, o, ho, _⟩ := hv
    have h : (n : Int) ≥ ((dRows (a.O.map bE)).length : Int) := h
    rw [hlen] at h
    have := (List.getElem?_eq_some_iff.1 ho).1
    omega
  have hn : n < a.O.length := by
    have h : ¬ (n : Int) ≥ ((dRows (a.O.map bE)).length : Int) := h1
    rw [hlen] at h
    omega
  have hnl : n < l.length := by omega
  refine ok_some (b_idx hn) ?_
  refine ok_some (bO_get hn) ?_
  refine bB_split (fun h2 => ?_) (fun h2 => ?_)
  · refine ⟨a, .none fun m hv => ?_, rfl, rfl⟩
    have : m = n := by have := hv.1; omega
    subst this
    exact (List.getElem?_eq_getElem hn).trans (congrArg some h2)
  have hog := obj_get hnl
  have hol := List.getElem?_eq_getElem hnl
  have hsm := g _ (List.getElem_mem hnl)
  generalize l[n] = o at hog hol hsm
  obtain ⟨kind, data, entries, target, peer, queue, proc, links, up⟩ := o
  obtain ⟨es, rfl⟩ : ∃ es : List (ByteArray × Int), entries = es.map entD := hsm.t.2.1
  refine ok_some hog ?_
  refine bB_beq (fun h3 => ?_) (fun h3 => ?_)
  · refine ⟨a, .none fun m hv => ?_, rfl, rfl⟩
    obtain ⟨hz, o2, ho2, hk⟩ := hv
    have : m = n := by omega
    subst this
    rw [hol] at ho2
    cases ho2
    exact absurd h3 hk
  have h3 : kind ≠ 0 := h3
  have hel : es.length ≤ 8 := by have := hsm.e; simpa using this
  have hql : queue.length ≤ 8 := hsm.q
  have hmid := Mid.start (l := l) (ops := ops) hn es queue
  have hmu1 : (⟨a.O.set n true, a.P⟩ : Mk).mu < N := by
    have := falses_set a.O n ((List.getElem?_eq_getElem hn).trans (congrArg some h2))
    have hmu : falses a.O + falses a.P ≤ N := hmu
    show falses (a.O.set n true) + falses a.P < N
    omega
  refine ok_some (b_idx hn) ?_
  refine ok_some (bO_get hn) ?_
  refine ok_some hog ?_
  refine loop_keep (fun (s : StM) => s.j ≤ es.length ∧ Mid l ops n a s.b s.j 0 es queue) [0, 4, 61, 62] (fun s => [(63, vInt .i64 (s.j : Nat))]) (fun s => [.var [.ptr 1 0, .row 2 1 0 none, .row 3 1 0 none], .var [.dat (objsD l), .dat (opnD ops), .dat (prcD ps)], .row 1 (dRows (s.b.O.map bE)), .row 1 (dRows (s.b.P.map bE))]) (fun s => es.length - s.j) ⟨0, _⟩ ⟨Nat.zero_le _, hmid⟩ ?_ (fun s hs => ?_)
  · refine View.of 4 [0, 1, 2, 3] [] rfl rfl rfl rfl rfl rfl ?_ ?_
    · repeat (first | exact .nil | refine .junk ?_ | refine .eq rfl ?_)
    · exact .put (notF rfl) rfl (.eq rfl (by simp)) (.put (notF rfl) rfl (.eq rfl (by simp)) (.put (notF rfl) rfl (.rowDE bO_set) (.put (notF rfl) rfl (.rowDE rfl) (.nil _))))
  obtain ⟨j, b⟩ := s
  obtain ⟨hj, hM⟩ := hs
  have hj : j ≤ es.length := hj
  have hM : Mid l ops n a b j 0 es queue := hM
  refine bB_dec (fun h => ?_) (fun h => ?_)
  · have hjlt : j < es.length := by
      have h : (j : Int) < ((es.map entD).length : Int) := h
      rw [List.length_map] at h
      omega
    refine ok_some (ent_get hjlt) ?_
    have hbm := hM.mu_le
    refine borrowD (ihO b es[j].2 ⟨hM.st.lo.trans hO, hM.st.lp.trans hP⟩ (by omega)) _ rfl fun c hc => ?_
    refine ⟨⟨j + 1, c⟩, ⟨hjlt, hM.stepE (List.getElem?_eq_getElem hjlt) hc hol rfl⟩, (show es.length - (j + 1) < es.length - j by omega), View.of 5 [0, 1, 2, 3] [] rfl rfl rfl rfl rfl rfl ?_ ?_⟩
    · repeat (first | exact .nil | refine .junk ?_ | refine .put (.ren (next_i64 (by omega)).symm) ?_ | refine .eq rfl ?_)
    · exact .put (notF rfl) rfl (.eq rfl (by simp)) (.put (notF rfl) rfl (.eq rfl (by simp)) (.put (notF rfl) rfl (.rowDE rfl) (.put (notF rfl) rfl (.rowDE rfl) (.nil _))))
  · have hje : j = es.length := by
      have h : ¬ (j : Int) < ((es.map entD).length : Int) := h
      rw [List.length_map] at h
      omega
    subst hje
    refine loop_keep (fun (s : StM) => s.j ≤ queue.length ∧ Mid l ops n a s.b es.length s.j es queue) [0, 75, 76] (fun s => [(77, vInt .i64 (s.j : Nat))]) (fun s => [.var [.ptr 1 0, .row 2 1 0 none, .row 3 1 0 none], .var [.dat (objsD l), .dat (opnD ops), .dat (prcD ps)], .row 1 (dRows (s.b.O.map bE)), .row 1 (dRows (s.b.P.map bE))]) (fun s => queue.length - s.j) ⟨0, b⟩ ⟨Nat.zero_le _, hM⟩ ?_ (fun s hs => ?_)
    · refine View.of 4 [0, 1, 2, 3] [] rfl rfl rfl rfl rfl rfl ?_ ?_
      · repeat (first | exact .nil | refine .junk ?_ | refine .eq rfl ?_)
      · exact .put (notF rfl) rfl (.eq rfl (by simp)) (.put (notF rfl) rfl (.eq rfl (by simp)) (.put (notF rfl) rfl (.rowDE rfl) (.put (notF rfl) rfl (.rowDE rfl) (.nil _))))
    clear hM hj h
    obtain ⟨j, b⟩ := s
    obtain ⟨hj, hM⟩ := hs
    have hj : j ≤ queue.length := hj
    have hM : Mid l ops n a b es.length j es queue := hM
    refine bB_dec (fun h => ?_) (fun h => ?_)
    · have hjlt : j < queue.length := by
        have h : (j : Int) < ((queue.map Msg.enc).length : Int) := h
        rw [List.length_map] at h
        omega
      have hqj := List.getElem?_eq_getElem hjlt
      refine ok_some (msg_get hjlt) ?_
      have hbm := hM.mu_le
      refine bB_split (fun hh => ?_) (fun hh => ?_)
      · refine borrowD (ihP b queue[j].opn queue[j].rts ⟨hM.st.lo.trans hO, hM.st.lp.trans hP⟩ (by omega)) _ rfl fun c hc => ?_
        refine ⟨⟨j + 1, c⟩, ⟨hjlt, hM.stepQ hqj hh hc hol rfl⟩, (show queue.length - (j + 1) < queue.length - j by omega), View.of 5 [0, 1, 2, 3] [] rfl rfl rfl rfl rfl rfl ?_ ?_⟩
        · repeat (first | exact .nil | refine .junk ?_ | refine .put (.ren (next_i64 (by omega)).symm) ?_ | refine .eq rfl ?_)
        · exact .put (notF rfl) rfl (.eq rfl (by simp)) (.put (notF rfl) rfl (.eq rfl (by simp)) (.put (notF rfl) rfl (.rowDE rfl) (.put (notF rfl) rfl (.rowDE rfl) (.nil _))))
      · skip
        refine ⟨⟨j + 1, b⟩, ⟨hjlt, hM.skipQ hqj hh⟩, (show queue.length - (j + 1) < queue.length - j by omega), View.of 5 [0, 1, 2, 3] [] rfl rfl rfl rfl rfl rfl ?_ ?_⟩
        · repeat (first | exact .nil | refine .junk ?_ | refine .put (.ren (next_i64 (by omega)).symm) ?_ | refine .eq rfl ?_)
        · exact .put (notF rfl) rfl (.eq rfl (by simp)) (.put (notF rfl) rfl (.eq rfl (by simp)) (.put (notF rfl) rfl (.rowDE rfl) (.put (notF rfl) rfl (.rowDE rfl) (.nil _))))
    · have hje : j = queue.length := by
        have h : ¬ (j : Int) < ((queue.map Msg.enc).length : Int) := h
        rw [List.length_map] at h
        omega
      subst hje
      exact ⟨b, hM.fin hol h3 rfl rfl, rfl, rfl⟩
set_option maxRecDepth 100000 in
set_option maxHeartbeats 16000000 in
theorem cap_bodyD (l : List Obj) (ops : List Opn) (ps : List Prc) (N : Nat)
    (ihO : ∀ a z, bseO l ops a → a.mu < N → ACall Try.prog 44 [.rv (.one (.ptr 0 0)), vInt .i64 z] (M0 l ops ps a) (fun r m => ∃ b, PO l ops z a b ∧ r = .tup [] ∧ m = M0 l ops ps b))
    (a : Mk) (z w : Int) (hbs : bseO l ops a) (hmu : a.mu ≤ N) : body Try.prog c45 [.rv (.one (.ptr 0 0)), .rv (.agg [.dat (.val (.int .i64 z)), .dat (.val (.int .i64 w))])] (M0 l ops ps a) (fun r m => ∃ b m', PP l ops z a b ∧ r = .tup [] ∧ m = M0 l ops ps b ++ m') := by
  have hlen : ∀ L : List Bool, (dRows (L.map bE)).length = L.length := fun L => by rw [dRows_len, List.length_map]
  obtain ⟨hO, hP⟩ := hbs
  refine bB_dec (fun h => ?_) (fun h0 => ?_)
  · exact ⟨a, [_], .none fun n hv => by have := hv.1; have h : z < 0 := h; omega, rfl, rfl⟩
  obtain ⟨n, rfl⟩ : ∃ n : Nat, z = n := ⟨z.toNat, by have h : ¬ z < 0 := h0; omega⟩
  refine bB_dec (fun h => ?_) (fun h1 => ?_)
  · refine ⟨a, [_], .none fun m hv => ?_, rfl, rfl⟩
    obtain ⟨hz, ho⟩ := hv
    have h : (n : Int) ≥ ((dRows (a.P.map bE)).length : Int) := h
    rw [hlen] at h
    omega
  have hn : n < a.P.length := by
    have h : ¬ (n : Int) ≥ ((dRows (a.P.map bE)).length : Int) := h1
    rw [hlen] at h
    omega
  have hnl : n < ops.length := by omega
  refine ok_some (b_idx hn) ?_
  refine ok_some (bO_get hn) ?_
  refine bB_split (fun h2 => ?_) (fun h2 => ?_)
  · refine ⟨a, [_], .none fun m hv => ?_, rfl, rfl⟩
    have : m = n := by have := hv.1; omega
    subst this
    exact (List.getElem?_eq_getElem hn).trans (congrArg some h2)
  have hmu1 : (⟨a.O, a.P.set n true⟩ : Mk).mu < N := by
    have := falses_set a.P n ((List.getElem?_eq_getElem hn).trans (congrArg some h2))
    have hmu : falses a.O + falses a.P ≤ N := hmu
    show falses a.O + falses (a.P.set n true) < N
    omega
  refine ok_some (b_idx hn) ?_
  refine ok_some (bO_get hn) ?_
  refine ⟨trivial, ?_⟩
  have hog : getZ (ops.map Opn.enc) (n : Nat) = some [.val (.int .i64 ops[n].obj), .val (.int .i64 ops[n].at')] := by
    rw [getZ_nat, List.getElem?_map, List.getElem?_eq_getElem hnl]; rfl
  refine ok_some hog ?_
  refine acall_pre (args' := [.rv (.one (.ptr 0 0)), vInt .i64 ops[n].obj]) (m' := M0 l ops ps ⟨a.O, a.P.set n true⟩ ++ [.var [.dat (.val (.int .i64 (n : Nat))), .dat (.val (.int .i64 w))]]) (View.of 5 [0, 1, 2, 3, 4] [] rfl rfl rfl rfl rfl rfl (.eq rfl (.eq rfl .nil))
    (.put (notF rfl) rfl (.eq rfl (by simp)) (.put (notF rfl) rfl (.eq rfl (by simp)) (.put (notF rfl) rfl (.rowDE rfl) (.put (notF rfl) rfl (.rowDE bO_set) (.put (notF rfl) rfl (.eq rfl (by simp)) (.nil _))))))) ?_
  refine borrowD (ihO ⟨a.O, a.P.set n true⟩ ops[n].obj ⟨hO, by simpa using hP⟩ hmu1) _ rfl fun c hc => ?_
  exact ⟨trivial, c, [_], PP.of hn (List.getElem?_eq_getElem hnl) hc, rfl, rfl⟩
theorem objcapD (l : List Obj) (ops : List Opn) (ps : List Prc) (g : ∀ o, o ∈ l → o.sm) : ∀ N,
    (∀ a z, bseO l ops a → a.mu < N → ACall Try.prog 44 [.rv (.one (.ptr 0 0)), vInt .i64 z] (M0 l ops ps a) (fun r m => ∃ b, PO l ops z a b ∧ r = .tup [] ∧ m = M0 l ops ps b)) ∧
    (∀ a z w, bseO l ops a → a.mu < N → ACall Try.prog 45 [.rv (.one (.ptr 0 0)), .rv (.agg [.dat (.val (.int .i64 z)), .dat (.val (.int .i64 w))])] (M0 l ops ps a) (fun r m => ∃ b, PP l ops z a b ∧ r = .tup [] ∧ m = M0 l ops ps b))
  | 0 => ⟨fun _ _ _ h => absurd h (Nat.not_lt_zero _), fun _ _ _ _ h => absurd h (Nat.not_lt_zero _)⟩
  | N + 1 => by
    obtain ⟨ihO, ihP⟩ := objcapD l ops ps g N
    refine ⟨fun a z hb hm => acall_body Try.func44 l44 rfl (Nat.le_of_ble_eq_true rfl) (obj_bodyD l ops ps g N ihO ihP a z hb (by omega)), fun a z w hb hm => ?_⟩
    refine acall_view (acall_body Try.func45 l45 rfl (Nat.le_of_ble_eq_true rfl) (cap_bodyD l ops ps N ihO a z w hb (by omega))) fun r m1 ⟨b, m', hp, hr, hm1⟩ => ?_
    subst hr hm1
    refine ⟨.tup [], M0 l ops ps b, View.of (4 + m'.length) [0, 1, 2, 3] [] (by simp [M0]; omega) rfl rfl rfl rfl (by simp [allLt] <;> omega) (.put (.tup rfl fun i r r' h => by simp at h) .nil) ?_, ⟨b, hp, rfl, rfl⟩⟩
    exact .put (notF rfl) rfl (.eq rfl (by simp)) (.put (notF rfl) rfl (.eq rfl (by simp)) (.put (notF rfl) rfl (.rowDE rfl) (.put (notF rfl) rfl (.rowDE rfl) (.nil _))))

/-! marker.obj, marker.cap: over a kernel whose lists are rows -/
def M0R (l : List Obj) (ops : List Opn) (ps : List Prc) (a : Mk) : Mem :=
  [.var [.ptr 1 0, .row 2 1 0 none, .row 3 1 0 none], .var [.row 4 9 0 none, .row 5 2 0 none, .row 6 4 0 none], .row 1 (dRows (a.O.map bE)), .row 1 (dRows (a.P.map bE)), .row 9 (dRows (l.map Obj.enc)), .row 2 (dRows (ops.map Opn.enc)), .row 4 (dRows (ps.map Prc.enc))]
theorem borrowDR {l : List Obj} {ops : List Opn} {ps : List Prc} {a : Mk} {f : Nat} {args : List CV} {Q : Mk → Prop} (h : ACall Try.prog f args (M0R l ops ps a) (fun r m => ∃ b, Q b ∧ r = .tup [] ∧ m = M0R l ops ps b)) (x : Bk)
    (hargs : args = args.map (CV.ren (sg [0, 1, 2, 3, 4, 5, 6] 8))) {K : CV → Mem → Prop} (hK : ∀ b, Q b → K (.tup []) [.var [.ptr 1 0, .row 2 1 0 none, .row 3 1 0 none], .var [.row 4 9 0 none, .row 5 2 0 none, .row 6 4 0 none], .row 1 (dRows (b.O.map bE)), .row 1 (dRows (b.P.map bE)), .row 9 (dRows (l.map Obj.enc)), .row 2 (dRows (ops.map Opn.enc)), .row 4 (dRows (ps.map Prc.enc)), x]) :
    ACall Try.prog f args [.var [.ptr 1 0, .row 2 1 0 none, .row 3 1 0 none], .var [.row 4 9 0 none, .row 5 2 0 none, .row 6 4 0 none], .row 1 (dRows (a.O.map bE)), .row 1 (dRows (a.P.map bE)), .row 9 (dRows (l.map Obj.enc)), .row 2 (dRows (ops.map Opn.enc)), .row 4 (dRows (ps.map Prc.enc)), x] K := by
  refine acall_borrow [0, 1, 2, 3, 4, 5, 6] 8 rfl rfl rfl rfl (args0 := args) hargs (fun i b' hi => ?_) h (fun r m1 hr => ?_)
  · match i, hi with
    | 0, hi => cases hi; exact .inr ⟨fun h => h, _, rfl, .eq rfl (by simp)⟩
    | 1, hi => cases hi; exact .inr ⟨fun h => h, _, rfl, .eq rfl (by simp)⟩
    | 2, hi => cases hi; exact .inr ⟨fun h => h, _, rfl, .rowDE rfl⟩
    | 3, hi => cases hi; exact .inr ⟨fun h => h, _, rfl, .rowDE rfl⟩
    | 4, hi => cases hi; exact .inr ⟨fun h => h, _, rfl, .rowDE rfl⟩
    | 5, hi => cases hi; exact .inr ⟨fun h => h, _, rfl, .rowDE rfl⟩
    | 6, hi => cases hi; exact .inr ⟨fun h => h, _, rfl, .rowDE rfl⟩
    | n + 7, hi => simp [M0R] at hi
  · obtain ⟨b, hb, rfl, rfl⟩ := hr
    refine ⟨Nat.le_refl _, ?_⟩
    have e2 : (Bk.row 1 (dRows (b.O.map bE))).ren (sg [0, 1, 2, 3, 4, 5, 6] 8) = .row 1 (dRows (b.O.map bE)) := by simp only [Bk.ren, dRows_ren]
    have e3 : (Bk.row 1 (dRows (b.P.map bE))).ren (sg [0, 1, 2, 3, 4, 5, 6] 8) = .row 1 (dRows (b.P.map bE)) := by simp only [Bk.ren, dRows_ren]
    show K _ [.var [.ptr 1 0, .row 2 1 0 none, .row 3 1 0 none], .var [.row 4 9 0 none, .row 5 2 0 none, .row 6 4 0 none], (Bk.row 1 (dRows (b.O.map bE))).ren (sg [0, 1, 2, 3, 4, 5, 6] 8), (Bk.row 1 (dRows (b.P.map bE))).ren (sg [0, 1, 2, 3, 4, 5, 6] 8), (Bk.row 9 (dRows (l.map Obj.enc))).ren (sg [0, 1, 2, 3, 4, 5, 6] 8), (Bk.row 2 (dRows (ops.map Opn.enc))).ren (sg [0, 1, 2, 3, 4, 5, 6] 8), (Bk.row 4 (dRows (ps.map Prc.enc))).ren (sg [0, 1, 2, 3, 4, 5, 6] 8), x]
    have e4 : (Bk.row 9 (dRows (l.map Obj.enc))).ren (sg [0, 1, 2, 3, 4, 5, 6] 8) = .row 9 (dRows (l.map Obj.enc)) := by simp only [Bk.ren, dRows_ren]
    have e5 : (Bk.row 2 (dRows (ops.map Opn.enc))).ren (sg [0, 1, 2, 3, 4, 5, 6] 8) = .row 2 (dRows (ops.map Opn.enc)) := by simp only [Bk.ren, dRows_ren]
    have e6 : (Bk.row 4 (dRows (ps.map Prc.enc))).ren (sg [0, 1, 2, 3, 4, 5, 6] 8) = .row 4 (dRows (ps.map Prc.enc)) := by simp only [Bk.ren, dRows_ren]
    rw [e2, e3, e4, e5, e6]
    exact hK b hb
set_option maxRecDepth 100000 in
set_option maxHeartbeats 16000000 in
theorem obj_bodyDR (l : List Obj) (ops : List Opn) (ps : List Prc) (g : ∀ o, o ∈ l → o.sm) (N : Nat)
    (ihO : ∀ a z, bseO l ops a → a.mu < N → ACall Try.prog 44 [.rv (.one (.ptr 0 0)), vInt .i64 z] (M0R l ops ps a) (fun r m => ∃ b, PO l ops z a b ∧ r = .tup [] ∧ m = M0R l ops ps b))
    (ihP : ∀ a z w, bseO l ops a → a.mu < N → ACall Try.prog 45 [.rv (.one (.ptr 0 0)), .rv (.agg [.dat (.val (.int .i64 z)), .dat (.val (.int .i64 w))])] (M0R l ops ps a) (fun r m => ∃ b, PP l ops z a b ∧ r = .tup [] ∧ m = M0R l ops ps b))
    (a : Mk) (z : Int) (hbs : bseO l ops a) (hmu : a.mu ≤ N) : body Try.prog c44 [.rv (.one (.ptr 0 0)), vInt .i64 z] (M0R l ops ps a) (fun r m => ∃ b, PO l ops z a b ∧ r = .tup [] ∧ m = M0R l ops ps b) := by
  have hlen : ∀ L : List Bool, (dRows (L.map bE)).length = L.length := fun L => by rw [dRows_len, List.length_map]
  obtain ⟨hO, hP⟩ := hbs
  refine bB_dec (fun h => ?_) (fun h0 => ?_)
  · exact ⟨a, .none fun n hv => by have := hv.1; have h : z < 0 := h; omega, rfl, rfl⟩
  obtain ⟨n, rfl⟩ : ∃ n : Nat, z = n := ⟨z.toNat, by have h : ¬ z < 0 := h0; omega⟩
  refine bB_dec (fun h => ?_) (fun h1 => ?_)
  · refine ⟨a, .none fun m hv => ?_, rfl, rfl⟩
    obtain ⟨hz, o, ho, _⟩ := hv
    have h : (n : Int) ≥ ((dRows (a.O.map bE)).length : Int) := h
    rw [hlen] at h
    have := (List.getElem?_eq_some_iff.1 ho).1
    omega
  have hn : n < a.O.length := by
    have h : ¬ (n : Int) ≥ ((dRows (a.O.map bE)).length : Int) := h1
    rw [hlen] at h
    omega
  have hnl : n < l.length := by omega
  refine ok_some (b_idx hn) ?_
  refine ok_some (bO_get hn) ?_
  refine bB_split (fun h2 => ?_) (fun h2 => ?_)
  · refine ⟨a, .none fun m hv => ?_, rfl, rfl⟩
    have : m = n := by have := hv.1; omega
    subst this
    exact (List.getElem?_eq_getElem hn).trans (congrArg some h2)
  have hix : idxZ (n : Int) (lenOf (dRows (l.map Obj.enc)).length 0 none) = some n := idxZ_nat (by show n < (dRows (l.map Obj.enc)).length; rw [dRows_len, List.length_map]; exact hnl)
  have hog := dRows_nth' Obj.enc l hnl
  have hol := List.getElem?_eq_getElem hnl
  have hsm := g _ (List.getElem_mem hnl)
  generalize l[n] = o at hog hol hsm
  obtain ⟨kind, data, entries, target, peer, queue, proc, links, up⟩ := o
  obtain ⟨es, rfl⟩ : ∃ es : List (ByteArray × Int), entries = es.map entD := hsm.t.2.1
  refine ok_some hix ?_
  refine ok_some hog ?_
  refine bB_beq (fun h3 => ?_) (fun h3 => ?_)
  · refine ⟨a, .none fun m hv => ?_, rfl, rfl⟩
    obtain ⟨hz, o2, ho2, hk⟩ := hv
    have : m = n := by omega
    subst this
    rw [hol] at ho2
    cases ho2
    exact absurd h3 hk
  have h3 : kind ≠ 0 := h3
  have hel : es.length ≤ 8 := by have := hsm.e; simpa using this
  have hql : queue.length ≤ 8 := hsm.q
  have hmid := Mid.start (l := l) (ops := ops) hn es queue
  have hmu1 : (⟨a.O.set n true, a.P⟩ : Mk).mu < N := by
    have := falses_set a.O n ((List.getElem?_eq_getElem hn).trans (congrArg some h2))
    have hmu : falses a.O + falses a.P ≤ N := hmu
    show falses (a.O.set n true) + falses a.P < N
    omega
  refine ok_some (b_idx hn) ?_
  refine ok_some (bO_get hn) ?_
  refine ok_some hix ?_
  refine ok_some hog ?_
  refine loop_keep (fun (s : StM) => s.j ≤ es.length ∧ Mid l ops n a s.b s.j 0 es queue) [0, 4, 61, 62] (fun s => [(63, vInt .i64 (s.j : Nat))]) (fun s => [.var [.ptr 1 0, .row 2 1 0 none, .row 3 1 0 none], .var [.row 4 9 0 none, .row 5 2 0 none, .row 6 4 0 none], .row 1 (dRows (s.b.O.map bE)), .row 1 (dRows (s.b.P.map bE)), .row 9 (dRows (l.map Obj.enc)), .row 2 (dRows (ops.map Opn.enc)), .row 4 (dRows (ps.map Prc.enc))]) (fun s => es.length - s.j) ⟨0, _⟩ ⟨Nat.zero_le _, hmid⟩ ?_ (fun s hs => ?_)
  · refine View.of 7 [0, 1, 2, 3, 4, 5, 6] [] rfl rfl rfl rfl rfl rfl ?_ ?_
    · repeat (first | exact .nil | refine .junk ?_ | refine .eq rfl ?_)
    · exact .put (notF rfl) rfl (.eq rfl (by simp)) (.put (notF rfl) rfl (.eq rfl (by simp)) (.put (notF rfl) rfl (.rowDE bO_set) (.put (notF rfl) rfl (.rowDE rfl) (.put (notF rfl) rfl (.rowDE rfl) (.put (notF rfl) rfl (.rowDE rfl) (.put (notF rfl) rfl (.rowDE rfl) (.nil _)))))))
  obtain ⟨j, b⟩ := s
  obtain ⟨hj, hM⟩ := hs
  have hj : j ≤ es.length := hj
  have hM : Mid l ops n a b j 0 es queue := hM
  refine bB_dec (fun h => ?_) (fun h => ?_)
  · have hjlt : j < es.length := by
      have h : (j : Int) < ((es.map entD).length : Int) := h
      rw [List.length_map] at h
      omega
    refine ok_some (ent_get hjlt) ?_
    have hbm := hM.mu_le
    refine borrowDR (ihO b es[j].2 ⟨hM.st.lo.trans hO, hM.st.lp.trans hP⟩ (by omega)) _ rfl fun c hc => ?_
    refine ⟨⟨j + 1, c⟩, ⟨hjlt, hM.stepE (List.getElem?_eq_getElem hjlt) hc hol rfl⟩, (show es.length - (j + 1) < es.length - j by omega), View.of 8 [0, 1, 2, 3, 4, 5, 6] [] rfl rfl rfl rfl rfl rfl ?_ ?_⟩
    · repeat (first | exact .nil | refine .junk ?_ | refine .put (.ren (next_i64 (by omega)).symm) ?_ | refine .eq rfl ?_)
    · exact .put (notF rfl) rfl (.eq rfl (by simp)) (.put (notF rfl) rfl (.eq rfl (by simp)) (.put (notF rfl) rfl (.rowDE rfl) (.put (notF rfl) rfl (.rowDE rfl) (.put (notF rfl) rfl (.rowDE rfl) (.put (notF rfl) rfl (.rowDE rfl) (.put (notF rfl) rfl (.rowDE rfl) (.nil _)))))))
  · have hje : j = es.length := by
      have h : ¬ (j : Int) < ((es.map entD).length : Int) := h
      rw [List.length_map] at h
      omega
    subst hje
    refine ok_some hog ?_
    refine loop_keep (fun (s : StM) => s.j ≤ queue.length ∧ Mid l ops n a s.b es.length s.j es queue) [0, 75, 76] (fun s => [(77, vInt .i64 (s.j : Nat))]) (fun s => [.var [.ptr 1 0, .row 2 1 0 none, .row 3 1 0 none], .var [.row 4 9 0 none, .row 5 2 0 none, .row 6 4 0 none], .row 1 (dRows (s.b.O.map bE)), .row 1 (dRows (s.b.P.map bE)), .row 9 (dRows (l.map Obj.enc)), .row 2 (dRows (ops.map Opn.enc)), .row 4 (dRows (ps.map Prc.enc))]) (fun s => queue.length - s.j) ⟨0, b⟩ ⟨Nat.zero_le _, hM⟩ ?_ (fun s hs => ?_)
    · refine View.of 7 [0, 1, 2, 3, 4, 5, 6] [] rfl rfl rfl rfl rfl rfl ?_ ?_
      · repeat (first | exact .nil | refine .junk ?_ | refine .eq rfl ?_)
      · exact .put (notF rfl) rfl (.eq rfl (by simp)) (.put (notF rfl) rfl (.eq rfl (by simp)) (.put (notF rfl) rfl (.rowDE rfl) (.put (notF rfl) rfl (.rowDE rfl) (.put (notF rfl) rfl (.rowDE rfl) (.put (notF rfl) rfl (.rowDE rfl) (.put (notF rfl) rfl (.rowDE rfl) (.nil _)))))))
    clear hM hj h
    obtain ⟨j, b⟩ := s
    obtain ⟨hj, hM⟩ := hs
    have hj : j ≤ queue.length := hj
    have hM : Mid l ops n a b es.length j es queue := hM
    refine bB_dec (fun h => ?_) (fun h => ?_)
    · have hjlt : j < queue.length := by
        have h : (j : Int) < ((queue.map Msg.enc).length : Int) := h
        rw [List.length_map] at h
        omega
      have hqj := List.getElem?_eq_getElem hjlt
      refine ok_some (msg_get hjlt) ?_
      have hbm := hM.mu_le
      refine bB_split (fun hh => ?_) (fun hh => ?_)
      · refine borrowDR (ihP b queue[j].opn queue[j].rts ⟨hM.st.lo.trans hO, hM.st.lp.trans hP⟩ (by omega)) _ rfl fun c hc => ?_
        refine ⟨⟨j + 1, c⟩, ⟨hjlt, hM.stepQ hqj hh hc hol rfl⟩, (show queue.length - (j + 1) < queue.length - j by omega), View.of 8 [0, 1, 2, 3, 4, 5, 6] [] rfl rfl rfl rfl rfl rfl ?_ ?_⟩
        · repeat (first | exact .nil | refine .junk ?_ | refine .put (.ren (next_i64 (by omega)).symm) ?_ | refine .eq rfl ?_)
        · exact .put (notF rfl) rfl (.eq rfl (by simp)) (.put (notF rfl) rfl (.eq rfl (by simp)) (.put (notF rfl) rfl (.rowDE rfl) (.put (notF rfl) rfl (.rowDE rfl) (.put (notF rfl) rfl (.rowDE rfl) (.put (notF rfl) rfl (.rowDE rfl) (.put (notF rfl) rfl (.rowDE rfl) (.nil _)))))))
      · skip
        refine ⟨⟨j + 1, b⟩, ⟨hjlt, hM.skipQ hqj hh⟩, (show queue.length - (j + 1) < queue.length - j by omega), View.of 8 [0, 1, 2, 3, 4, 5, 6] [] rfl rfl rfl rfl rfl rfl ?_ ?_⟩
        · repeat (first | exact .nil | refine .junk ?_ | refine .put (.ren (next_i64 (by omega)).symm) ?_ | refine .eq rfl ?_)
        · exact .put (notF rfl) rfl (.eq rfl (by simp)) (.put (notF rfl) rfl (.eq rfl (by simp)) (.put (notF rfl) rfl (.rowDE rfl) (.put (notF rfl) rfl (.rowDE rfl) (.put (notF rfl) rfl (.rowDE rfl) (.put (notF rfl) rfl (.rowDE rfl) (.put (notF rfl) rfl (.rowDE rfl) (.nil _)))))))
    · have hje : j = queue.length := by
        have h : ¬ (j : Int) < ((queue.map Msg.enc).length : Int) := h
        rw [List.length_map] at h
        omega
      subst hje
      exact ⟨b, hM.fin hol h3 rfl rfl, rfl, rfl⟩
set_option maxRecDepth 100000 in
set_option maxHeartbeats 16000000 in
theorem cap_bodyDR (l : List Obj) (ops : List Opn) (ps : List Prc) (N : Nat)
    (ihO : ∀ a z, bseO l ops a → a.mu < N → ACall Try.prog 44 [.rv (.one (.ptr 0 0)), vInt .i64 z] (M0R l ops ps a) (fun r m => ∃ b, PO l ops z a b ∧ r = .tup [] ∧ m = M0R l ops ps b))
    (a : Mk) (z w : Int) (hbs : bseO l ops a) (hmu : a.mu ≤ N) : body Try.prog c45 [.rv (.one (.ptr 0 0)), .rv (.agg [.dat (.val (.int .i64 z)), .dat (.val (.int .i64 w))])] (M0R l ops ps a) (fun r m => ∃ b m', PP l ops z a b ∧ r = .tup [] ∧ m = M0R l ops ps b ++ m') := by
  have hlen : ∀ L : List Bool, (dRows (L.map bE)).length = L.length := fun L => by rw [dRows_len, List.length_map]
  obtain ⟨hO, hP⟩ := hbs
  refine bB_dec (fun h => ?_) (fun h0 => ?_)
  · exact ⟨a, [_], .none fun n hv => by have := hv.1; have h : z < 0 := h; omega, rfl, rfl⟩
  obtain ⟨n, rfl⟩ : ∃ n : Nat, z = n := ⟨z.toNat, by have h : ¬ z < 0 := h0; omega⟩
  refine bB_dec (fun h => ?_) (fun h1 => ?_)
  · refine ⟨a, [_], .none fun m hv => ?_, rfl, rfl⟩
    obtain ⟨hz, ho⟩ := hv
    have h : (n : Int) ≥ ((dRows (a.P.map bE)).length : Int) := h
    rw [hlen] at h
    omega
  have hn : n < a.P.length := by
    have h : ¬ (n : Int) ≥ ((dRows (a.P.map bE)).length : Int) := h1
    rw [hlen] at h
    omega
  have hnl : n < ops.length := by omega
  refine ok_some (b_idx hn) ?_
  refine ok_some (bO_get hn) ?_
  refine bB_split (fun h2 => ?_) (fun h2 => ?_)
  · refine ⟨a, [_], .none fun m hv => ?_, rfl, rfl⟩
    have : m = n := by have := hv.1; omega
    subst this
    exact (List.getElem?_eq_getElem hn).trans (congrArg some h2)
  have hmu1 : (⟨a.O, a.P.set n true⟩ : Mk).mu < N := by
    have := falses_set a.P n ((List.getElem?_eq_getElem hn).trans (congrArg some h2))
    have hmu : falses a.O + falses a.P ≤ N := hmu
    show falses a.O + falses (a.P.set n true) < N
    omega
  refine ok_some (b_idx hn) ?_
  refine ok_some (bO_get hn) ?_
  refine ⟨trivial, ?_⟩
  have hix : idxZ (n : Int) (lenOf (dRows (ops.map Opn.enc)).length 0 none) = some n := idxZ_nat (by show n < (dRows (ops.map Opn.enc)).length; rw [dRows_len, List.length_map]; exact hnl)
  refine ok_some hix ?_
  refine ok_some (dRows_nth' Opn.enc ops hnl) ?_
  refine acall_pre (args' := [.rv (.one (.ptr 0 0)), vInt .i64 ops[n].obj]) (m' := M0R l ops ps ⟨a.O, a.P.set n true⟩ ++ [.var [.dat (.val (.int .i64 (n : Nat))), .dat (.val (.int .i64 w))]]) (View.of 8 [0, 1, 2, 3, 4, 5, 6, 7] [] rfl rfl rfl rfl rfl rfl (.eq rfl (.eq rfl .nil))
    (.put (notF rfl) rfl (.eq rfl (by simp)) (.put (notF rfl) rfl (.eq rfl (by simp)) (.put (notF rfl) rfl (.rowDE rfl) (.put (notF rfl) rfl (.rowDE bO_set) (.put (notF rfl) rfl (.rowDE rfl) (.put (notF rfl) rfl (.rowDE rfl) (.put (notF rfl) rfl (.rowDE rfl) (.put (notF rfl) rfl (.eq rfl (by simp)) (.nil _)))))))))) ?_
  refine borrowDR (ihO ⟨a.O, a.P.set n true⟩ ops[n].obj ⟨hO, by simpa using hP⟩ hmu1) _ rfl fun c hc => ?_
  exact ⟨trivial, c, [_], PP.of hn (List.getElem?_eq_getElem hnl) hc, rfl, rfl⟩
theorem objcapDR (l : List Obj) (ops : List Opn) (ps : List Prc) (g : ∀ o, o ∈ l → o.sm) : ∀ N,
    (∀ a z, bseO l ops a → a.mu < N → ACall Try.prog 44 [.rv (.one (.ptr 0 0)), vInt .i64 z] (M0R l ops ps a) (fun r m => ∃ b, PO l ops z a b ∧ r = .tup [] ∧ m = M0R l ops ps b)) ∧
    (∀ a z w, bseO l ops a → a.mu < N → ACall Try.prog 45 [.rv (.one (.ptr 0 0)), .rv (.agg [.dat (.val (.int .i64 z)), .dat (.val (.int .i64 w))])] (M0R l ops ps a) (fun r m => ∃ b, PP l ops z a b ∧ r = .tup [] ∧ m = M0R l ops ps b))
  | 0 => ⟨fun _ _ _ h => absurd h (Nat.not_lt_zero _), fun _ _ _ _ h => absurd h (Nat.not_lt_zero _)⟩
  | N + 1 => by
    obtain ⟨ihO, ihP⟩ := objcapDR l ops ps g N
    refine ⟨fun a z hb hm => acall_body Try.func44 l44 rfl (Nat.le_of_ble_eq_true rfl) (obj_bodyDR l ops ps g N ihO ihP a z hb (by omega)), fun a z w hb hm => ?_⟩
    refine acall_view (acall_body Try.func45 l45 rfl (Nat.le_of_ble_eq_true rfl) (cap_bodyDR l ops ps N ihO a z w hb (by omega))) fun r m1 ⟨b, m', hp, hr, hm1⟩ => ?_
    subst hr hm1
    refine ⟨.tup [], M0R l ops ps b, View.of (7 + m'.length) [0, 1, 2, 3, 4, 5, 6] [] (by simp [M0R]; omega) rfl rfl rfl rfl (by simp [allLt] <;> omega) (.put (.tup rfl fun i r r' h => by simp at h) .nil) ?_, ⟨b, hp, rfl, rfl⟩⟩
    exact .put (notF rfl) rfl (.eq rfl (by simp)) (.put (notF rfl) rfl (.eq rfl (by simp)) (.put (notF rfl) rfl (.rowDE rfl) (.put (notF rfl) rfl (.rowDE rfl) (.put (notF rfl) rfl (.rowDE rfl) (.put (notF rfl) rfl (.rowDE rfl) (.put (notF rfl) rfl (.rowDE rfl) (.nil _)))))))

end Go.Proofs.Ytnlhnmlojcfljaa
