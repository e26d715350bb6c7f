import Derived.Test.YtjofmgkcllffnaaAmZ2
import Derived.Test.YtjofmgkcllffnaaDvGa
import Derived.Test.YtjofmgkcllffnaaAmY
set_option linter.unusedVariables false
set_option linter.unusedSimpArgs false
namespace Go.Proofs.Ytjofmgkcllffnaa
open Go.AM Go.ChangeShapes Go.WideShapes Go.ChangeAt Go.RowKit
/-! Marks: what is marked, and what that leads to -/
structure Mk where
  O : List Bool
  P : List Bool
def onB (L : List Bool) (i : Nat) : Prop := L[i]? = some true
def vO (l : List Obj) (z : Int) (i : Nat) : Prop := z = i ∧ ∃ o, l[i]? = some o ∧ o.kind ≠ 0
def vP (ops : List Opn) (z : Int) (c : Nat) : Prop := z = c ∧ c < ops.length
def sE (o : Obj) (z : Int) : Prop := ∃ nm : ByteArray, entD (nm, z) ∈ o.entries
def sQ (o : Obj) (z : Int) : Prop := ∃ q, q ∈ o.queue ∧ q.has = true ∧ q.opn = z
structure Step (l : List Obj) (ops : List Opn) (E : Nat → Prop) (a b : Mk) : Prop where
  lo : b.O.length = a.O.length
  lp : b.P.length = a.P.length
  mo : ∀ i, onB a.O i → onB b.O i
  mp : ∀ c, onB a.P c → onB b.P c
  co : ∀ i o, onB b.O i → ¬ onB a.O i → ¬ E i → l[i]? = some o → (∀ z n, sE o z → vO l z n → onB b.O n) ∧ (∀ z c, sQ o z → vP ops z c → onB b.P c)
  cp : ∀ c o, onB b.P c → ¬ onB a.P c → ops[c]? = some o → ∀ n, vO l o.obj n → onB b.O n
/-- what is closed under all that leads on -/
structure Cl (l : List Obj) (ops : List Opn) (RO RP : Nat → Prop) : Prop where
  e : ∀ i o, RO i → l[i]? = some o → ∀ z n, sE o z → vO l z n → RO n
  q : ∀ i o, RO i → l[i]? = some o → ∀ z c, sQ o z → vP ops z c → RP c
  p : ∀ c o, RP c → ops[c]? = some o → ∀ n, vO l o.obj n → RO n
def InR (RO RP : Nat → Prop) (a : Mk) : Prop := (∀ i, onB a.O i → RO i) ∧ (∀ c, onB a.P c → RP c)
def falses (L : List Bool) : Nat := (L.filter (fun b => !b)).length
def Mk.mu (a : Mk) : Nat := falses a.O + falses a.P
theorem Step.refl {l : List Obj} {ops : List Opn} {E : Nat → Prop} (a : Mk) : Step l ops E a a :=
  ⟨rfl, rfl, fun _ h => h, fun _ h => h, fun _ _ h h2 => absurd h h2, fun _ _ h h2 => absurd h h2⟩
theorem Step.trans {l : List Obj} {ops : List Opn} {E : Nat → Prop} {a b c : Mk} (h1 : Step l ops E a b) (h2 : Step l ops (fun _ => False) b c) : Step l ops E a c := by
  refine ⟨h2.lo.trans h1.lo, h2.lp.trans h1.lp, fun i h => h2.mo i (h1.mo i h), fun i h => h2.mp i (h1.mp i h), fun i o hi hn hE ho => ?_, fun i o hi hn ho n hv => ?_⟩
  · by_cases hb : onB b.O i
    · obtain ⟨k1, k2⟩ := h1.co i o hb hn hE ho
      exact ⟨fun z n hz hv => h2.mo n (k1 z n hz hv), fun z c hz hv => h2.mp c (k2 z c hz hv)⟩
    · exact h2.co i o hi hb (fun h => h) ho
  · by_cases hb : onB b.P i
    · exact h2.mo n (h1.cp i o hb hn ho n hv)
    · exact h2.cp i o hi hb ho n hv
theorem falses_le : ∀ (a b : List Bool), b.length = a.length → (∀ i, onB a i → onB b i) → falses b ≤ falses a
  | [], [], _, _ => Nat.le_refl _
  | [], _ :: _, h, _ => by simp at h
  | _ :: _, [], h, _ => by simp at h
  | x :: a, y :: b, h, hm => by
    have ih := falses_le a b (by simpa using h) (fun i hi => by simpa [onB] using hm (i + 1) (by simpa [onB] using hi))
    have h0 : x = true → y = true := fun hx => by simpa [onB] using hm 0 (by simp [onB, hx])
    unfold falses at ih ⊢
    cases x <;> cases y <;> simp at h0 ⊢ <;> omega
theorem falses_set : ∀ (a : List Bool) (n : Nat), a[n]? = some false → falses (a.set n true) + 1 = falses a
  | [], n, h => by simp at h
  | x :: a, 0, h => by
    simp at h
    subst h
    simp [falses]
  | x :: a, n + 1, h => by
    have ih := falses_set a n (by simpa using h)
    unfold falses at ih ⊢
    cases x <;> simp at ih ⊢ <;> omega
theorem Step.mu_le {l : List Obj} {ops : List Opn} {E : Nat → Prop} {a b : Mk} (h : Step l ops E a b) : b.mu ≤ a.mu :=
  Nat.add_le_add (falses_le _ _ h.lo h.mo) (falses_le _ _ h.lp h.mp)
theorem onB_set {L : List Bool} {n i : Nat} (h : onB L i) : onB (L.set n true) i := by
  unfold onB at h ⊢
  rw [List.getElem?_set]
  split
  · rename_i e
    subst e
    have := (List.getElem?_eq_some_iff.1 h).1
    simp [this]
  · exact h
theorem onB_set_self {L : List Bool} {n : Nat} (h : n < L.length) : onB (L.set n true) n := by
  unfold onB
  simp [h]
theorem onB_set_or {L : List Bool} {n i : Nat} (h : onB (L.set n true) i) : onB L i ∨ i = n := by
  unfold onB at h ⊢
  rw [List.getElem?_set] at h
  split at h
  · rename_i e; exact .inr e.symm
  · exact .inl h
/-- what the marking of an object comes to -/
structure PO (l : List Obj) (ops : List Opn) (z : Int) (a b : Mk) : Prop where
  st : Step l ops (fun _ => False) a b
  on : ∀ n, vO l z n → onB b.O n
  sd : ∀ RO RP, Cl l ops RO RP → InR RO RP a → (∀ n, vO l z n → RO n) → InR RO RP b
structure PP (l : List Obj) (ops : List Opn) (z : Int) (a b : Mk) : Prop where
  st : Step l ops (fun _ => False) a b
  on : ∀ c, vP ops z c → onB b.P c
  sd : ∀ RO RP, Cl l ops RO RP → InR RO RP a → (∀ c, vP ops z c → RP c) → InR RO RP b
theorem PO.none {l : List Obj} {ops : List Opn} {z : Int} {a : Mk} (h : ∀ n, vO l z n → onB a.O n) : PO l ops z a a := ⟨.refl a, h, fun _ _ _ h _ => h⟩
theorem PP.none {l : List Obj} {ops : List Opn} {z : Int} {a : Mk} (h : ∀ n, vP ops z n → onB a.P n) : PP l ops z a a := ⟨.refl a, h, fun _ _ _ h _ => h⟩
/-- between: an object is marked, and so much of what is in it was gone through -/
structure Mid (l : List Obj) (ops : List Opn) (n : Nat) (a b : Mk) (nE nQ : Nat) (es : List (ByteArray × Int)) (qs : List Msg) : Prop where
  st : Step l ops (fun i => i = n) a b
  on : onB b.O n
  e : ∀ j e, j < nE → es[j]? = some e → ∀ m, vO l e.2 m → onB b.O m
  q : ∀ j q, j < nQ → qs[j]? = some q → q.has = true → ∀ c, vP ops q.opn c → onB b.P c
  sd : ∀ RO RP, Cl l ops RO RP → InR RO RP a → RO n → InR RO RP b
theorem Mid.start {l : List Obj} {ops : List Opn} {n : Nat} {a : Mk} (hn : n < a.O.length) (es : List (ByteArray × Int)) (qs : List Msg) : Mid l ops n a ⟨a.O.set n true, a.P⟩ 0 0 es qs := by
  refine ⟨⟨by simp, rfl, fun i h => onB_set h, fun i h => h, fun i o h h2 h3 => ?_, fun _ _ h h2 => absurd h h2⟩, onB_set_self hn, fun j e h => absurd h (Nat.not_lt_zero j), fun j e h => absurd h (Nat.not_lt_zero j), fun RO RP _ h hr => ⟨fun i hi => ?_, h.2⟩⟩
  · rcases onB_set_or h with h | h
    · exact absurd h h2
    · exact absurd h h3
  · rcases onB_set_or hi with hi | rfl
    · exact h.1 i hi
    · exact hr
theorem Mid.stepE {l : List Obj} {ops : List Opn} {n : Nat} {a b c : Mk} {j : Nat} {es : List (ByteArray × Int)} {qs : List Msg} (h : Mid l ops n a b j 0 es qs) {e : ByteArray × Int} (he : es[j]? = some e) (hc : PO l ops e.2 b c)
    {o : Obj} (ho : l[n]? = some o) (hes : o.entries = es.map entD) : Mid l ops n a c (j + 1) 0 es qs := by
  have hse : sE o e.2 := ⟨e.1, by rw [hes]; exact List.mem_map_of_mem (List.mem_of_getElem? he)⟩
  refine ⟨h.st.trans hc.st, hc.st.mo n h.on, fun i x hi hx m hv => ?_, fun i x hi => absurd hi (Nat.not_lt_zero i), fun RO RP hcl hin hr => hc.sd RO RP hcl (h.sd RO RP hcl hin hr) fun m hv => hcl.e n o hr ho e.2 m hse hv⟩
  rcases Nat.lt_or_ge i j with hij | hij
  · exact hc.st.mo m (h.e i x hij hx m hv)
  · have : i = j := by omega
    subst this
    rw [he] at hx
    cases hx
    exact hc.on m hv
theorem Mid.stepQ {l : List Obj} {ops : List Opn} {n : Nat} {a b c : Mk} {k j : Nat} {es : List (ByteArray × Int)} {qs : List Msg} (h : Mid l ops n a b k j es qs) {q : Msg} (hq : qs[j]? = some q) (hh : q.has = true) (hc : PP l ops q.opn b c)
    {o : Obj} (ho : l[n]? = some o) (hqs : o.queue = qs) : Mid l ops n a c k (j + 1) es qs := by
  have hsq : sQ o q.opn := ⟨q, by rw [hqs]; exact List.mem_of_getElem? hq, hh, rfl⟩
  refine ⟨h.st.trans hc.st, hc.st.mo n h.on, fun i x hi hx m hv => hc.st.mo m (h.e i x hi hx m hv), fun i x hi hx hxh m hv => ?_, fun RO RP hcl hin hr => hc.sd RO RP hcl (h.sd RO RP hcl hin hr) fun m hv => hcl.q n o hr ho q.opn m hsq hv⟩
  rcases Nat.lt_or_ge i j with hij | hij
  · exact hc.st.mp m (h.q i x hij hx hxh m hv)
  · have : i = j := by omega
    subst this
    rw [hq] at hx
    cases hx
    exact hc.on m hv
theorem Mid.skipQ {l : List Obj} {ops : List Opn} {n : Nat} {a b : Mk} {k j : Nat} {es : List (ByteArray × Int)} {qs : List Msg} (h : Mid l ops n a b k j es qs) {q : Msg} (hq : qs[j]? = some q) (hh : q.has = false) : Mid l ops n a b k (j + 1) es qs := by
  refine ⟨h.st, h.on, h.e, fun i x hi hx hxh m hv => ?_, h.sd⟩
  rcases Nat.lt_or_ge i j with hij | hij
  · exact h.q i x hij hx hxh m hv
  · have : i = j := by omega
    subst this
    rw [hq] at hx
    cases hx
    rw [hh] at hxh
    cases hxh
theorem Mid.fin {l : List Obj} {ops : List Opn} {n : Nat} {a b : Mk} {es : List (ByteArray × Int)} {qs : List Msg} (h : Mid l ops n a b es.length qs.length es qs) {o : Obj} (ho : l[n]? = some o) (hk : o.kind ≠ 0) (hes : o.entries = es.map entD) (hqs : o.queue = qs) : PO l ops (n : Int) a b := by
  refine ⟨⟨h.st.lo, h.st.lp, h.st.mo, h.st.mp, fun i x hi hni _ hx => ?_, h.st.cp⟩, fun m hv => ?_, fun RO RP hcl hin hr => h.sd RO RP hcl hin (hr n ⟨rfl, o, ho, hk⟩)⟩
  · by_cases hin : i = n
    · subst hin
      rw [ho] at hx
      cases hx
      refine ⟨fun z m ⟨nm, hm⟩ hv => ?_, fun z c ⟨q, hq, hh, hz⟩ hv => ?_⟩
      · rw [hes] at hm
        obtain ⟨e, he, hee⟩ := List.mem_map.1 hm
        have : e.2 = z := by
          simp [entD] at hee
          exact hee.2
        subst this
        obtain ⟨j, hj⟩ := List.getElem?_of_mem he
        exact h.e j e (List.getElem?_eq_some_iff.1 hj).1 hj m hv
      · rw [hqs] at hq
        obtain ⟨j, hj⟩ := List.getElem?_of_mem hq
        subst hz
        exact h.q j q (List.getElem?_eq_some_iff.1 hj).1 hj hh c hv
    · exact h.st.co i x hi hni hin hx
  · have : m = n := by have := hv.1; omega
    subst this
    exact h.on
theorem PP.of {l : List Obj} {ops : List Opn} {a b : Mk} {c : Nat} (hc : c < a.P.length) {o : Opn} (ho : ops[c]? = some o) (h : PO l ops o.obj ⟨a.O, a.P.set c true⟩ b) : PP l ops (c : Int) a b := by
  have hst : Step l ops (fun _ => False) a b := by
    refine ⟨h.st.lo, by have := h.st.lp; simpa using this, h.st.mo, fun i hi => h.st.mp i (onB_set hi), fun i x hi hni => h.st.co i x hi hni, fun i x hi hni hx n hv => ?_⟩
    by_cases hic : i = c
    · subst hic
      rw [ho] at hx
      cases hx
      exact h.on n hv
    · exact h.st.cp i x hi (fun hs => (onB_set_or hs).elim hni hic) hx n hv
  refine ⟨hst, fun d hd => ?_, fun RO RP hcl hin hr => ?_⟩
  · have : d = c := by have := hd.1; omega
    subst this
    exact h.st.mp d (onB_set_self hc)
  · have hrc : RP c := hr c ⟨rfl, (List.getElem?_eq_some_iff.1 ho).1⟩
    exact h.sd RO RP hcl ⟨hin.1, fun i hi => (onB_set_or hi).elim (hin.2 i) fun e => e ▸ hrc⟩ fun n hv => hcl.p c o hrc ho n hv

def c58 : LF := ⟨88, [], (.seq (.seq (.reg [
    ⟨(some 9), .mov (.t 1), none⟩,
    ⟨(some 10), .bin .lss (.t 9) (.c (.rv (.one (.dat (.val (.int .i64 (0))))))), none⟩,
    ⟨(some 11), .mov (.t 10), none⟩,
    ⟨(some 12), .mov (.t 1), (some (11, false))⟩,
    ⟨(some 13), .mov (.t 0), (some (11, false))⟩,
    ⟨(some 14), .nilc (.t 13), (some (11, false))⟩,
    ⟨(some 15), .fadr 1 (.t 14), (some (11, false))⟩,
    ⟨(some 16), .load false 1 (.t 15), (some (11, false))⟩,
    ⟨(some 17), .len 1 (.t 16), (some (11, false))⟩,
    ⟨(some 18), .bin .geq (.t 12) (.t 17), (some (11, false))⟩,
    ⟨(some 19), .pick (.t 11) (.c (.rv (.one (.dat (.val (.bool true)))))) (.t 18), none⟩,
    ⟨(some 20), .mov (.t 19), none⟩,
    ⟨(some 21), .mov (.t 0), (some (20, false))⟩,
    ⟨(some 22), .nilc (.t 21), (some (20, false))⟩,
    ⟨(some 23), .fadr 1 (.t 22), (some (20, false))⟩,
    ⟨(some 24), .load false 1 (.t 23), (some (20, false))⟩,
    ⟨(some 25), .mov (.t 1), (some (20, false))⟩,
    ⟨(some 26), .idx 1 (.t 24) (.t 25), (some (20, false))⟩,
    ⟨(some 27), .load false 1 (.t 26), (some (20, false))⟩,
    ⟨(some 28), .pick (.t 20) (.c (.rv (.one (.dat (.val (.bool true)))))) (.t 27), none⟩,
    ⟨(some 29), .mov (.t 28), none⟩,
    ⟨(some 30), .mov (.t 0), (some (29, false))⟩,
    ⟨(some 31), .nilc (.t 30), (some (29, false))⟩,
    ⟨(some 32), .fadr 0 (.t 31), (some (29, false))⟩,
    ⟨(some 33), .load false 1 (.t 32), (some (29, false))⟩,
    ⟨(some 34), .nilc (.t 33), (some (29, false))⟩,
    ⟨(some 35), .fadr 0 (.t 34), (some (29, false))⟩,
    ⟨(some 36), .load false 1 (.t 35), (some (29, false))⟩,
    ⟨(some 37), .mov (.t 1), (some (29, false))⟩,
    ⟨(some 38), .idx 9 (.t 36) (.t 37), (some (29, false))⟩,
    ⟨(some 39), .fadr 0 (.t 38), (some (29, false))⟩,
    ⟨(some 40), .load false 1 (.t 39), (some (29, false))⟩,
    ⟨(some 41), .bin .eql (.t 40) (.c (.rv (.one (.dat (.val (.int .i64 (0))))))), (some (29, false))⟩,
    ⟨(some 42), .pick (.t 29) (.c (.rv (.one (.dat (.val (.bool true)))))) (.t 41), none⟩]) (.cond (.t 42) .ret .skip)) (.seq (.reg [
    ⟨(some 43), .mov (.t 0), none⟩,
    ⟨(some 44), .nilc (.t 43), none⟩,
    ⟨(some 45), .fadr 1 (.t 44), none⟩,
    ⟨(some 46), .load false 1 (.t 45), none⟩,
    ⟨(some 47), .mov (.t 1), none⟩,
    ⟨(some 48), .idx 1 (.t 46) (.t 47), none⟩,
    ⟨none, .store 1 (.t 48) (.c (.rv (.one (.dat (.val (.bool true)))))), none⟩]) (.seq (.reg [
    ⟨(some 49), .mov (.t 0), none⟩,
    ⟨(some 50), .nilc (.t 49), none⟩,
    ⟨(some 51), .fadr 0 (.t 50), none⟩,
    ⟨(some 52), .load false 1 (.t 51), none⟩,
    ⟨(some 53), .nilc (.t 52), none⟩,
    ⟨(some 54), .fadr 0 (.t 53), none⟩,
    ⟨(some 55), .load false 1 (.t 54), none⟩,
    ⟨(some 56), .mov (.t 1), none⟩,
    ⟨(some 57), .idx 9 (.t 55) (.t 56), none⟩,
    ⟨(some 4), .mov (.t 57), none⟩]) (.seq (.seq (.reg [
    ⟨(some 58), .mov (.t 4), none⟩,
    ⟨(some 59), .nilc (.t 58), none⟩,
    ⟨(some 60), .fadr 2 (.t 59), none⟩,
    ⟨(some 61), .load false 1 (.t 60), none⟩,
    ⟨(some 62), .len 1 (.t 61), none⟩,
    ⟨(some 63), .mov (.c (.rv (.one (.dat (.val (.int .i64 (0))))))), none⟩]) (.block 0 (.loop (.seq (.reg [
    ⟨(some 64), .bin .lss (.t 63) (.t 62), none⟩]) (.seq (.cond (.t 64) .skip (.exit 0)) (.seq (.block 1 (.seq (.reg [
    ⟨(some 65), .idx 2 (.t 61) (.t 63), none⟩,
    ⟨(some 66), .load true 2 (.t 65), none⟩,
    ⟨(some 6), .alloc [(.dat (.val (.string ⟨#[]⟩))), (.dat (.val (.int .i64 (0))))], none⟩,
    ⟨none, .store 2 (.t 6) (.t 66), none⟩]) (.reg [
    ⟨(some 67), .mov (.t 0), none⟩,
    ⟨(some 68), .fadr 1 (.t 6), none⟩,
    ⟨(some 69), .load false 1 (.t 68), none⟩,
    ⟨(some 70), .call (.c (.rv (.one (.fn 58 [])))) [(.t 67), (.t 69)], none⟩]))) (.reg [
    ⟨(some 71), .bin .add (.t 63) (.c (.rv (.one (.dat (.val (.int .i64 (1))))))), none⟩,
    ⟨(some 63), .mov (.t 71), none⟩]))))))) (.seq (.reg [
    ⟨(some 72), .mov (.t 4), none⟩,
    ⟨(some 73), .nilc (.t 72), none⟩,
    ⟨(some 74), .fadr 5 (.t 73), none⟩,
    ⟨(some 75), .load false 1 (.t 74), none⟩,
    ⟨(some 76), .len 1 (.t 75), none⟩,
    ⟨(some 77), .mov (.c (.rv (.one (.dat (.val (.int .i64 (0))))))), none⟩]) (.block 2 (.loop (.seq (.reg [
    ⟨(some 78), .bin .lss (.t 77) (.t 76), none⟩]) (.seq (.cond (.t 78) .skip (.exit 2)) (.seq (.block 3 (.seq (.reg [
    ⟨(some 79), .idx 4 (.t 75) (.t 77), none⟩,
    ⟨(some 80), .load true 4 (.t 79), none⟩,
    ⟨(some 8), .alloc [.esl, (.dat (.val (.bool false))), (.dat (.val (.int .i64 (0)))), (.dat (.val (.int .i64 (0))))], none⟩,
    ⟨none, .store 4 (.t 8) (.t 80), none⟩]) (.seq (.reg [
    ⟨(some 81), .fadr 1 (.t 8), none⟩,
    ⟨(some 82), .load false 1 (.t 81), none⟩]) (.cond (.t 82) (.reg [
    ⟨(some 83), .mov (.t 0), none⟩,
    ⟨(some 84), .fadr 2 (.t 8), none⟩,
    ⟨(some 85), .load true 2 (.t 84), none⟩,
    ⟨(some 86), .call (.c (.rv (.one (.fn 59 [])))) [(.t 83), (.t 85)], none⟩]) .skip)))) (.reg [
    ⟨(some 87), .bin .add (.t 77) (.c (.rv (.one (.dat (.val (.int .i64 (1))))))), none⟩,
    ⟨(some 77), .mov (.t 87), none⟩])))))))))))⟩
def c59 : LF := ⟨48, [], (.seq (.reg [
    ⟨(some 3), .box (.t 1), none⟩]) (.seq (.seq (.draw [
    ⟨(some 4), .fadr 0 (.t 3), none⟩,
    ⟨(some 5), .load false 1 (.t 4), none⟩,
    ⟨(some 6), .bin .lss (.t 5) (.c (.rv (.one (.dat (.val (.int .i64 (0))))))), none⟩,
    ⟨(some 7), .mov (.t 6), none⟩,
    ⟨(some 8), .fadr 0 (.t 3), (some (7, false))⟩,
    ⟨(some 9), .load false 1 (.t 8), (some (7, false))⟩,
    ⟨(some 10), .mov (.t 0), (some (7, false))⟩,
    ⟨(some 11), .nilc (.t 10), (some (7, false))⟩,
    ⟨(some 12), .fadr 2 (.t 11), (some (7, false))⟩,
    ⟨(some 13), .load false 1 (.t 12), (some (7, false))⟩,
    ⟨(some 14), .len 1 (.t 13), (some (7, false))⟩,
    ⟨(some 15), .bin .geq (.t 9) (.t 14), (some (7, false))⟩,
    ⟨(some 16), .pick (.t 7) (.c (.rv (.one (.dat (.val (.bool true)))))) (.t 15), none⟩,
    ⟨(some 17), .mov (.t 16), none⟩,
    ⟨(some 18), .mov (.t 0), (some (17, false))⟩,
    ⟨(some 19), .nilc (.t 18), (some (17, false))⟩,
    ⟨(some 20), .fadr 2 (.t 19), (some (17, false))⟩,
    ⟨(some 21), .load false 1 (.t 20), (some (17, false))⟩,
    ⟨(some 22), .fadr 0 (.t 3), (some (17, false))⟩,
    ⟨(some 23), .load false 1 (.t 22), (some (17, false))⟩,
    ⟨(some 24), .idx 1 (.t 21) (.t 23), (some (17, false))⟩,
    ⟨(some 25), .load false 1 (.t 24), (some (17, false))⟩,
    ⟨(some 26), .pick (.t 17) (.c (.rv (.one (.dat (.val (.bool true)))))) (.t 25), none⟩]
    [(.cons 0 none (.cons 1 none (.cons 2 none (.cons 3 none (.cons 4 none (.cons 5 none (.cons 6 none (.cons 7 none (.cons 8 none (.cons 9 none (.cons 10 none (.cons 11 none (.cons 12 none (.cons 13 none (.cons 14 none (.cons 15 none (.cons 16 none (.cons 17 none (.cons 18 none (.cons 19 none (.cons 20 none (.cons 21 none (.cons 22 none .nil)))))))))))))))))))))))]) (.cond (.t 26) .ret .skip)) (.seq (.draw [
    ⟨(some 27), .mov (.t 0), none⟩,
    ⟨(some 28), .nilc (.t 27), none⟩,
    ⟨(some 29), .fadr 2 (.t 28), none⟩,
    ⟨(some 30), .load false 1 (.t 29), none⟩,
    ⟨(some 31), .fadr 0 (.t 3), none⟩,
    ⟨(some 32), .load false 1 (.t 31), none⟩,
    ⟨(some 33), .idx 1 (.t 30) (.t 32), none⟩,
    ⟨none, .store 1 (.t 33) (.c (.rv (.one (.dat (.val (.bool true)))))), none⟩]
    [(.cons 0 none (.cons 1 none (.cons 2 none (.cons 3 none (.cons 4 none (.cons 5 none (.cons 6 none (.cons 7 (some []) .nil))))))))]) (.draw [
    ⟨(some 34), .mov (.t 0), none⟩,
    ⟨(some 35), .mov (.t 0), none⟩,
    ⟨(some 36), .nilc (.t 35), none⟩,
    ⟨(some 37), .fadr 0 (.t 36), none⟩,
    ⟨(some 38), .load false 1 (.t 37), none⟩,
    ⟨(some 39), .nilc (.t 38), none⟩,
    ⟨(some 40), .fadr 1 (.t 39), none⟩,
    ⟨(some 41), .load false 1 (.t 40), none⟩,
    ⟨(some 42), .fadr 0 (.t 3), none⟩,
    ⟨(some 43), .load false 1 (.t 42), none⟩,
    ⟨(some 44), .idx 2 (.t 41) (.t 43), none⟩,
    ⟨(some 45), .fadr 0 (.t 44), none⟩,
    ⟨(some 46), .load false 1 (.t 45), none⟩,
    ⟨(some 47), .call (.c (.rv (.one (.fn 58 [])))) [(.t 34), (.t 46)], none⟩]
    [(.cons 0 none (.cons 1 none (.cons 2 none (.cons 3 none (.cons 4 none (.cons 5 none (.cons 6 none (.cons 7 none (.cons 8 none (.cons 9 none (.cons 10 none (.cons 11 none (.cons 12 none (.cons 13 (some []) .nil))))))))))))))]))))⟩
/-! marker.obj, marker.cap: over a kernel that is data -/
def bE (b : Bool) : List Dt := [.val (.bool b)]
def M0 (l : List Obj) (ops : List Opn) (ps : List Prc) (a : Mk) : Mem :=
  [.var [.ptr 1 0, .row 2 1 0 none, .row 3 1 0 none], .var [.dat (objsD l), .dat (opnD ops), .dat (prcD ps)], .row 1 (dRows (a.O.map bE)), .row 1 (dRows (a.P.map bE))]
theorem l58 : lowF Try.prog Try.f58 = some c58 := by kernel_rfl
theorem l59 : lowF Try.prog Try.f59 = some c59 := by kernel_rfl
theorem borrowD {l : List Obj} {ops : List Opn} {ps : List Prc} {a : Mk} {f : Nat} {args : List CV} {Q : Mk → Prop} (h : ACall Try.prog f args (M0 l ops ps a) (fun r m => ∃ b, Q b ∧ r = .tup [] ∧ m = M0 l ops ps b)) (x : Bk)
    (hargs : args = args.map (CV.ren (sg [0, 1, 2, 3] 5))) {K : CV → Mem → Prop} (hK : ∀ b, Q b → K (.tup []) [.var [.ptr 1 0, .row 2 1 0 none, .row 3 1 0 none], .var [.dat (objsD l), .dat (opnD ops), .dat (prcD ps)], .row 1 (dRows (b.O.map bE)), .row 1 (dRows (b.P.map bE)), x]) :
    ACall Try.prog f args [.var [.ptr 1 0, .row 2 1 0 none, .row 3 1 0 none], .var [.dat (objsD l), .dat (opnD ops), .dat (prcD ps)], .row 1 (dRows (a.O.map bE)), .row 1 (dRows (a.P.map bE)), x] K := by
  refine acall_borrow [0, 1, 2, 3] 5 rfl rfl rfl rfl (args0 := args) hargs (fun i b' hi => ?_) h (fun r m1 hr => ?_)
  · match i, hi with
    | 0, hi => cases hi; exact .inr ⟨fun h => h, _, rfl, .eq rfl (by simp)⟩
    | 1, hi => cases hi; exact .inr ⟨fun h => h, _, rfl, .eq rfl (by simp)⟩
    | 2, hi => cases hi; exact .inr ⟨fun h => h, _, rfl, .rowDE rfl⟩
    | 3, hi => cases hi; exact .inr ⟨fun h => h, _, rfl, .rowDE rfl⟩
    | n + 4, hi => simp [M0] at hi
  · obtain ⟨b, hb, rfl, rfl⟩ := hr
    refine ⟨Nat.le_refl _, ?_⟩
    have e2 : (Bk.row 1 (dRows (b.O.map bE))).ren (sg [0, 1, 2, 3] 5) = .row 1 (dRows (b.O.map bE)) := by simp only [Bk.ren, dRows_ren]
    have e3 : (Bk.row 1 (dRows (b.P.map bE))).ren (sg [0, 1, 2, 3] 5) = .row 1 (dRows (b.P.map bE)) := by simp only [Bk.ren, dRows_ren]
    show K _ [.var [.ptr 1 0, .row 2 1 0 none, .row 3 1 0 none], .var [.dat (objsD l), .dat (opnD ops), .dat (prcD ps)], (Bk.row 1 (dRows (b.O.map bE))).ren (sg [0, 1, 2, 3] 5), (Bk.row 1 (dRows (b.P.map bE))).ren (sg [0, 1, 2, 3] 5), x]
    rw [e2, e3]
    exact hK b hb
def bseO (l : List Obj) (ops : List Opn) (a : Mk) : Prop := a.O.length = l.length ∧ a.P.length = ops.length
theorem bO_get {L : List Bool} {n : Nat} (h : n < L.length) : nth (dRows (L.map bE)) n = some [.dat (.val (.bool L[n]))] := dRows_nth' bE L h
theorem b_idx {L : List Bool} {n : Nat} (h : n < L.length) : idxZ (n : Int) (lenOf (dRows (L.map bE)).length 0 none) = some n := idxZ_nat (by show n < (dRows (L.map bE)).length; rw [dRows_len, List.length_map]; exact h)
theorem bO_set {L : List Bool} {n : Nat} : setN (dRows (L.map bE)) n [CC.dat (.val (.bool true))] = dRows ((L.set n true).map bE) := dRows_set' bE L n true
theorem Mid.mu_le {l : List Obj} {ops : List Opn} {n : Nat} {a b : Mk} {k j : Nat} {es : List (ByteArray × Int)} {qs : List Msg} (h : Mid l ops n a b k j es qs) : b.mu ≤ (⟨a.O.set n true, a.P⟩ : Mk).mu := by
  refine Nat.add_le_add (falses_le _ _ (by rw [List.length_set]; exact h.st.lo) fun i hi => ?_) (falses_le _ _ h.st.lp h.st.mp)
  rcases onB_set_or hi with hi | rfl
  · exact h.st.mo i hi
  · exact h.on
theorem msg_get {qs : List Msg} {k : Nat} (h : k < qs.length) : getZ (qs.map Msg.enc) (k : Nat) = some [.sl 1 qs[k].data, .val (.bool qs[k].has), .val (.int .i64 qs[k].opn), .val (.int .i64 qs[k].rts)] := by
  rw [getZ_nat, List.getElem?_map, List.getElem?_eq_getElem h]; rfl
structure StM where
  j : Nat
  b : Mk
set_option maxRecDepth 100000 in
set_option maxHeartbeats 16000000 in
theorem obj_bodyD (l : List Obj) (ops : List Opn) (ps : List Prc) (g : ∀ o, o ∈ l → o.sm) (N : Nat)
    (ihO : ∀ a z, bseO l ops a → a.mu < N → ACall Try.prog 58 [.rv (.one (.ptr 0 0)), vInt .i64 z] (M0 l ops ps a) (fun r m => ∃ b, PO l ops z a b ∧ r = .tup [] ∧ m = M0 l ops ps b))
    (ihP : ∀ a z w, bseO l ops a → a.mu < N → ACall Try.prog 59 [.rv (.one (.ptr 0 0)), .rv (.agg [.dat (.val (.int .i64 z)), .dat (.val (.int .i64 w))])] (M0 l ops ps a) (fun r m => ∃ b, PP l ops z a b ∧ r = .tup [] ∧ m = M0 l ops ps b))
    (a : Mk) (z : Int) (hbs : bseO l ops a) (hmu : a.mu ≤ N) : body Try.prog c58 [.rv (.one (.ptr 0 0)), vInt .i64 z] (M0 l ops ps a) (fun r m => ∃ b, PO l ops z a b ∧ r = .tup [] ∧ m = M0 l ops ps b) := by
  have hlen : ∀ L : List Bool, (dRows (L.map bE)).length = L.length := fun L => by rw [dRows_len, List.length_map]
  obtain ⟨hO, hP⟩ := hbs
  refine bB_dec (fun h => ?_) (fun h0 => ?_)
  · exact ⟨a, .none fun n hv => by have := hv.1; have h : z < 0 := h; omega, rfl, rfl⟩
  obtain ⟨n, rfl⟩ : ∃ n : Nat, z = n := ⟨z.toNat, by have h : ¬ z < 0 := h0; omega⟩
  refine bB_dec (fun h => ?_) (fun h1 => ?_)
  · refine ⟨a, .none fun m hv => ?_, rfl, rfl⟩
    obtain ⟨hz, o, ho, _⟩ := hv
    have h : (n : Int) ≥ ((dRows (a.O.map bE)).length : Int) := h
    rw [hlen] at h
    have := (List.getElem?_eq_some_iff.1 ho).1
    omega
  have hn : n < a.O.length := by
    have h : ¬ (n : Int) ≥ ((dRows (a.O.map bE)).length : Int) := h1
    rw [hlen] at h
    omega
  have hnl : n < l.length := by omega
  refine ok_some (b_idx hn) ?_
  refine ok_some (bO_get hn) ?_
  refine bB_split (fun h2 => ?_) (fun h2 => ?_)
  · refine ⟨a, .none fun m hv => ?_, rfl, rfl⟩
    have : m = n := by have := hv.1; omega
    subst this
    exact (List.getElem?_eq_getElem hn).trans (congrArg some h2)
  have hog := obj_get hnl
  have hol := List.getElem?_eq_getElem hnl
  have hsm := g _ (List.getElem_mem hnl)
  generalize l[n] = o at hog hol hsm
  obtain ⟨kind, data, entries, target, peer, queue, proc, links, up⟩ := o
  obtain ⟨es, rfl⟩ : ∃ es : List (ByteArray × Int), entries = es.map entD := hsm.t.2.1
  refine ok_some hog ?_
  refine bB_beq (fun h3 => ?_) (fun h3 => ?_)
  · refine ⟨a, .none fun m hv => ?_, rfl, rfl⟩
    obtain ⟨hz, o2, ho2, hk⟩ := hv
    have : m = n := by omega
    subst this
    rw [hol] at ho2
    cases ho2
    exact absurd h3 hk
  have h3 : kind ≠ 0 := h3
  have hel : es.length ≤ 8 := by have := hsm.e; simpa using this
  have hql : queue.length ≤ 8 := hsm.q
  have hmid := Mid.start (l := l) (ops := ops) hn es queue
  have hmu1 : (⟨a.O.set n true, a.P⟩ : Mk).mu < N := by
    have := falses_set a.O n ((List.getElem?_eq_getElem hn).trans (congrArg some h2))
    have hmu : falses a.O + falses a.P ≤ N := hmu
    show falses (a.O.set n true) + falses a.P < N
    omega
  refine ok_some (b_idx hn) ?_
  refine ok_some (bO_get hn) ?_
  refine ok_some hog ?_
  refine loop_keep (fun (s : StM) => s.j ≤ es.length ∧ Mid l ops n a s.b s.j 0 es queue) [0, 4, 61, 62] (fun s => [(63, vInt .i64 (s.j : Nat))]) (fun s => [.var [.ptr 1 0, .row 2 1 0 none, .row 3 1 0 none], .var [.dat (objsD l), .dat (opnD ops), .dat (prcD ps)], .row 1 (dRows (s.b.O.map bE)), .row 1 (dRows (s.b.P.map bE))]) (fun s => es.length - s.j) ⟨0, _⟩ ⟨Nat.zero_le _, hmid⟩ ?_ (fun s hs => ?_)
  · refine View.of 4 [0, 1, 2, 3] [] rfl rfl rfl rfl rfl rfl ?_ ?_
    · repeat (first | exact .nil | refine .junk ?_ | refine .eq rfl ?_)
    · exact .put (notF rfl) rfl (.eq rfl (by simp)) (.put (notF rfl) rfl (.eq rfl (by simp)) (.put (notF rfl) rfl (.rowDE bO_set) (.put (notF rfl) rfl (.rowDE rfl) (.nil _))))
  obtain ⟨j, b⟩ := s
  obtain ⟨hj, hM⟩ := hs
  have hj : j ≤ es.length := hj
  have hM : Mid l ops n a b j 0 es queue := hM
  refine bB_dec (fun h => ?_) (fun h => ?_)
  · have hjlt : j < es.length := by
      have h : (j : Int) < ((es.map entD).length : Int) := h
      rw [List.length_map] at h
      omega
    refine ok_some (ent_get hjlt) ?_
    have hbm := hM.mu_le
    refine borrowD (ihO b es[j].2 ⟨hM.st.lo.trans hO, hM.st.lp.trans hP⟩ (by omega)) _ rfl fun c hc => ?_
    refine ⟨⟨j + 1, c⟩, ⟨hjlt, hM.stepE (List.getElem?_eq_getElem hjlt) hc hol rfl⟩, (show es.length - (j + 1) < es.length - j by omega), View.of 5 [0, 1, 2, 3] [] rfl rfl rfl rfl rfl rfl ?_ ?_⟩
    · repeat (first | exact .nil | refine .junk ?_ | refine .put (.ren (next_i64 (by omega)).symm) ?_ | refine .eq rfl ?_)
    · exact .put (notF rfl) rfl (.eq rfl (by simp)) (.put (notF rfl) rfl (.eq rfl (by simp)) (.put (notF rfl) rfl (.rowDE rfl) (.put (notF rfl) rfl (.rowDE rfl) (.nil _))))
  · have hje : j = es.length := by
      have h : ¬ (j : Int) < ((es.map entD).length : Int) := h
      rw [List.length_map] at h
      omega
    subst hje
    refine loop_keep (fun (s : StM) => s.j ≤ queue.length ∧ Mid l ops n a s.b es.length s.j es queue) [0, 75, 76] (fun s => [(77, vInt .i64 (s.j : Nat))]) (fun s => [.var [.ptr 1 0, .row 2 1 0 none, .row 3 1 0 none], .var [.dat (objsD l), .dat (opnD ops), .dat (prcD ps)], .row 1 (dRows (s.b.O.map bE)), .row 1 (dRows (s.b.P.map bE))]) (fun s => queue.length - s.j) ⟨0, b⟩ ⟨Nat.zero_le _, hM⟩ ?_ (fun s hs => ?_)
    · refine View.of 4 [0, 1, 2, 3] [] rfl rfl rfl rfl rfl rfl ?_ ?_
      · repeat (first | exact .nil | refine .junk ?_ | refine .eq rfl ?_)
      · exact .put (notF rfl) rfl (.eq rfl (by simp)) (.put (notF rfl) rfl (.eq rfl (by simp)) (.put (notF rfl) rfl (.rowDE rfl) (.put (notF rfl) rfl (.rowDE rfl) (.nil _))))
    clear hM hj h
    obtain ⟨j, b⟩ := s
    obtain ⟨hj, hM⟩ := hs
    have hj : j ≤ queue.length := hj
    have hM : Mid l ops n a b es.length j es queue := hM
    refine bB_dec (fun h => ?_) (fun h => ?_)
    · have hjlt : j < queue.length := by
        have h : (j : Int) < ((queue.map Msg.enc).length : Int) := h
        rw [List.length_map] at h
        omega
      have hqj := List.getElem?_eq_getElem hjlt
      refine ok_some (msg_get hjlt) ?_
      have hbm := hM.mu_le
      refine bB_split (fun hh => ?_) (fun hh => ?_)
      · refine borrowD (ihP b queue[j].opn queue[j].rts ⟨hM.st.lo.trans hO, hM.st.lp.trans hP⟩ (by omega)) _ rfl fun c hc => ?_
        refine ⟨⟨j + 1, c⟩, ⟨hjlt, hM.stepQ hqj hh hc hol rfl⟩, (show queue.length - (j + 1) < queue.length - j by omega), View.of 5 [0, 1, 2, 3] [] rfl rfl rfl rfl rfl rfl ?_ ?_⟩
        · repeat (first | exact .nil | refine .junk ?_ | refine .put (.ren (next_i64 (by omega)).symm) ?_ | refine .eq rfl ?_)
        · exact .put (notF rfl) rfl (.eq rfl (by simp)) (.put (notF rfl) rfl (.eq rfl (by simp)) (.put (notF rfl) rfl (.rowDE rfl) (.put (notF rfl) rfl (.rowDE rfl) (.nil _))))
      · skip
        refine ⟨⟨j + 1, b⟩, ⟨hjlt, hM.skipQ hqj hh⟩, (show queue.length - (j + 1) < queue.length - j by omega), View.of 5 [0, 1, 2, 3] [] rfl rfl rfl rfl rfl rfl ?_ ?_⟩
        · repeat (first | exact .nil | refine .junk ?_ | refine .put (.ren (next_i64 (by omega)).symm) ?_ | refine .eq rfl ?_)
        · exact .put (notF rfl) rfl (.eq rfl (by simp)) (.put (notF rfl) rfl (.eq rfl (by simp)) (.put (notF rfl) rfl (.rowDE rfl) (.put (notF rfl) rfl (.rowDE rfl) (.nil _))))
    · have hje : j = queue.length := by
        have h : ¬ (j : Int) < ((queue.map Msg.enc).length : Int) := h
        rw [List.length_map] at h
        omega
      subst hje
      exact ⟨b, hM.fin hol h3 rfl rfl, rfl, rfl⟩
set_option maxRecDepth 100000 in
set_option maxHeartbeats 16000000 in
theorem cap_bodyD (l : List Obj) (ops : List Opn) (ps : List Prc) (N : Nat)
    (ihO : ∀ a z, bseO l ops a → a.mu < N → ACall Try.prog 58 [.rv (.one (.ptr 0 0)), vInt .i64 z] (M0 l ops ps a) (fun r m => ∃ b, PO l ops z a b ∧ r = .tup [] ∧ m = M0 l ops ps b))
    (a : Mk) (z w : Int) (hbs : bseO l ops a) (hmu : a.mu ≤ N) : body Try.prog c59 [.rv (.one (.ptr 0 0)), .rv (.agg [.dat (.val (.int .i64 z)), .dat (.val (.int .i64 w))])] (M0 l ops ps a) (fun r m => ∃ b m', PP l ops z a b ∧ r = .tup [] ∧ m = M0 l ops ps b ++ m') := by
  have hlen : ∀ L : List Bool, (dRows (L.map bE)).length = L.length := fun L => by rw [dRows_len, List.length_map]
  obtain ⟨hO, hP⟩ := hbs
  refine bB_dec (fun h => ?_) (fun h0 => ?_)
  · exact ⟨a, [_], .none fun n hv => by have := hv.1; have h : z < 0 := h; omega, rfl, rfl⟩
  obtain ⟨n, rfl⟩ : ∃ n : Nat, z = n := ⟨z.toNat, by have h : ¬ z < 0 := h0; omega⟩
  refine bB_dec (fun h => ?_) (fun h1 => ?_)
  · refine ⟨a, [_], .none fun m hv => ?_, rfl, rfl⟩
    obtain ⟨hz, ho⟩ := hv
    have h : (n : Int) ≥ ((dRows (a.P.map bE)).length : Int) := h
    rw [hlen] at h
    omega
  have hn : n < a.P.length := by
    have h : ¬ (n : Int) ≥ ((dRows (a.P.map bE)).length : Int) := h1
    rw [hlen] at h
    omega
  have hnl : n < ops.length := by omega
  refine ok_some (b_idx hn) ?_
  refine ok_some (bO_get hn) ?_
  refine bB_split (fun h2 => ?_) (fun h2 => ?_)
  · refine ⟨a, [_], .none fun m hv => ?_, rfl, rfl⟩
    have : m = n := by have := hv.1; omega
    subst this
    exact (List.getElem?_eq_getElem hn).trans (congrArg some h2)
  have hmu1 : (⟨a.O, a.P.set n true⟩ : Mk).mu < N := by
    have := falses_set a.P n ((List.getElem?_eq_getElem hn).trans (congrArg some h2))
    have hmu : falses a.O + falses a.P ≤ N := hmu
    show falses a.O + falses (a.P.set n true) < N
    omega
  refine ok_some (b_idx hn) ?_
  refine ok_some (bO_get hn) ?_
  refine ⟨trivial, ?_⟩
  have hog : getZ (ops.map Opn.enc) (n : Nat) = some [.val (.int .i64 ops[n].obj), .val (.int .i64 ops[n].at')] := by
    rw [getZ_nat, List.getElem?_map, List.getElem?_eq_getElem hnl]; rfl
  refine ok_some hog ?_
  refine acall_pre (args' := [.rv (.one (.ptr 0 0)), vInt .i64 ops[n].obj]) (m' := M0 l ops ps ⟨a.O, a.P.set n true⟩ ++ [.var [.dat (.val (.int .i64 (n : Nat))), .dat (.val (.int .i64 w))]]) (View.of 5 [0, 1, 2, 3, 4] [] rfl rfl rfl rfl rfl rfl (.eq rfl (.eq rfl .nil))
    (.put (notF rfl) rfl (.eq rfl (by simp)) (.put (notF rfl) rfl (.eq rfl (by simp)) (.put (notF rfl) rfl (.rowDE rfl) (.put (notF rfl) rfl (.rowDE bO_set) (.put (notF rfl) rfl (.eq rfl (by simp)) (.nil _))))))) ?_
  refine borrowD (ihO ⟨a.O, a.P.set n true⟩ ops[n].obj ⟨hO, by simpa using hP⟩ hmu1) _ rfl fun c hc => ?_
  exact ⟨trivial, c, [_], PP.of hn (List.getElem?_eq_getElem hnl) hc, rfl, rfl⟩
theorem objcapD (l : List Obj) (ops : List Opn) (ps : List Prc) (g : ∀ o, o ∈ l → o.sm) : ∀ N,
    (∀ a z, bseO l ops a → a.mu < N → ACall Try.prog 58 [.rv (.one (.ptr 0 0)), vInt .i64 z] (M0 l ops ps a) (fun r m => ∃ b, PO l ops z a b ∧ r = .tup [] ∧ m = M0 l ops ps b)) ∧
    (∀ a z w, bseO l ops a → a.mu < N → ACall Try.prog 59 [.rv (.one (.ptr 0 0)), .rv (.agg [.dat (.val (.int .i64 z)), .dat (.val (.int .i64 w))])] (M0 l ops ps a) (fun r m => ∃ b, PP l ops z a b ∧ r = .tup [] ∧ m = M0 l ops ps b))
  | 0 => ⟨fun _ _ _ h => absurd h (Nat.not_lt_zero _), fun _ _ _ _ h => absurd h (Nat.not_lt_zero _)⟩
  | N + 1 => by
    obtain ⟨ihO, ihP⟩ := objcapD l ops ps g N
    refine ⟨fun a z hb hm => acall_body Try.func58 l58 rfl (Nat.le_of_ble_eq_true rfl) (obj_bodyD l ops ps g N ihO ihP a z hb (by omega)), fun a z w hb hm => ?_⟩
    refine acall_view (acall_body Try.func59 l59 rfl (Nat.le_of_ble_eq_true rfl) (cap_bodyD l ops ps N ihO a z w hb (by omega))) fun r m1 ⟨b, m', hp, hr, hm1⟩ => ?_
    subst hr hm1
    refine ⟨.tup [], M0 l ops ps b, View.of (4 + m'.length) [0, 1, 2, 3] [] (by simp [M0]; omega) rfl rfl rfl rfl (by simp [allLt] <;> omega) (.put (.tup rfl fun i r r' h => by simp at h) .nil) ?_, ⟨b, hp, rfl, rfl⟩⟩
    exact .put (notF rfl) rfl (.eq rfl (by simp)) (.put (notF rfl) rfl (.eq rfl (by simp)) (.put (notF rfl) rfl (.rowDE rfl) (.put (notF rfl) rfl (.rowDE rfl) (.nil _))))

/-! marker.obj, marker.cap: over a kernel whose lists are rows -/
def M0R (l : List Obj) (ops : List Opn) (ps : List Prc) (a : Mk) : Mem :=
  [.var [.ptr 1 0, .row 2 1 0 none, .row 3 1 0 none], .var [.row 4 9 0 none, .row 5 2 0 none, .row 6 4 0 none], .row 1 (dRows (a.O.map bE)), .row 1 (dRows (a.P.map bE)), .row 9 (dRows (l.map Obj.enc)), .row 2 (dRows (ops.map Opn.enc)), .row 4 (dRows (ps.map Prc.enc))]
theorem borrowDR {l : List Obj} {ops : List Opn} {ps : List Prc} {a : Mk} {f : Nat} {args : List CV} {Q : Mk → Prop} (h : ACall Try.prog f args (M0R l ops ps a) (fun r m => ∃ b, Q b ∧ r = .tup [] ∧ m = M0R l ops ps b)) (x : Bk)
    (hargs : args = args.map (CV.ren (sg [0, 1, 2, 3, 4, 5, 6] 8))) {K : CV → Mem → Prop} (hK : ∀ b, Q b → K (.tup []) [.var [.ptr 1 0, .row 2 1 0 none, .row 3 1 0 none], .var [.row 4 9 0 none, .row 5 2 0 none, .row 6 4 0 none], .row 1 (dRows (b.O.map bE)), .row 1 (dRows (b.P.map bE)), .row 9 (dRows (l.map Obj.enc)), .row 2 (dRows (ops.map Opn.enc)), .row 4 (dRows (ps.map Prc.enc)), x]) :
    ACall Try.prog f args [.var [.ptr 1 0, .row 2 1 0 none, .row 3 1 0 none], .var [.row 4 9 0 none, .row 5 2 0 none, .row 6 4 0 none], .row 1 (dRows (a.O.map bE)), .row 1 (dRows (a.P.map bE)), .row 9 (dRows (l.map Obj.enc)), .row 2 (dRows (ops.map Opn.enc)), .row 4 (dRows (ps.map Prc.enc)), x] K := by
  refine acall_borrow [0, 1, 2, 3, 4, 5, 6] 8 rfl rfl rfl rfl (args0 := args) hargs (fun i b' hi => ?_) h (fun r m1 hr => ?_)
  · match i, hi with
    | 0, hi => cases hi; exact .inr ⟨fun h => h, _, rfl, .eq rfl (by simp)⟩
    | 1, hi => cases hi; exact .inr ⟨fun h => h, _, rfl, .eq rfl (by simp)⟩
    | 2, hi => cases hi; exact .inr ⟨fun h => h, _, rfl, .rowDE rfl⟩
    | 3, hi => cases hi; exact .inr ⟨fun h => h, _, rfl, .rowDE rfl⟩
    | 4, hi => cases hi; exact .inr ⟨fun h => h, _, rfl, .rowDE rfl⟩
    | 5, hi => cases hi; exact .inr ⟨fun h => h, _, rfl, .rowDE rfl⟩
    | 6, hi => cases hi; exact .inr ⟨fun h => h, _, rfl, .rowDE rfl⟩
    | n + 7, hi => simp [M0R] at hi
  · obtain ⟨b, hb, rfl, rfl⟩ := hr
    refine ⟨Nat.le_refl _, ?_⟩
    have e2 : (Bk.row 1 (dRows (b.O.map bE))).ren (sg [0, 1, 2, 3, 4, 5, 6] 8) = .row 1 (dRows (b.O.map bE)) := by simp only [Bk.ren, dRows_ren]
    have e3 : (Bk.row 1 (dRows (b.P.map bE))).ren (sg [0, 1, 2, 3, 4, 5, 6] 8) = .row 1 (dRows (b.P.map bE)) := by simp only [Bk.ren, dRows_ren]
    show K _ [.var [.ptr 1 0, .row 2 1 0 none, .row 3 1 0 none], .var [.row 4 9 0 none, .row 5 2 0 none, .row 6 4 0 none], (Bk.row 1 (dRows (b.O.map bE))).ren (sg [0, 1, 2, 3, 4, 5, 6] 8), (Bk.row 1 (dRows (b.P.map bE))).ren (sg [0, 1, 2, 3, 4, 5, 6] 8), (Bk.row 9 (dRows (l.map Obj.enc))).ren (sg [0, 1, 2, 3, 4, 5, 6] 8), (Bk.row 2 (dRows (ops.map Opn.enc))).ren (sg [0, 1, 2, 3, 4, 5, 6] 8), (Bk.row 4 (dRows (ps.map Prc.enc))).ren (sg [0, 1, 2, 3, 4, 5, 6] 8), x]
    have e4 : (Bk.row 9 (dRows (l.map Obj.enc))).ren (sg [0, 1, 2, 3, 4, 5, 6] 8) = .row 9 (dRows (l.map Obj.enc)) := by simp only [Bk.ren, dRows_ren]
    have e5 : (Bk.row 2 (dRows (ops.map Opn.enc))).ren (sg [0, 1, 2, 3, 4, 5, 6] 8) = .row 2 (dRows (ops.map Opn.enc)) := by simp only [Bk.ren, dRows_ren]
    have e6 : (Bk.row 4 (dRows (ps.map Prc.enc))).ren (sg [0, 1, 2, 3, 4, 5, 6] 8) = .row 4 (dRows (ps.map Prc.enc)) := by simp only [Bk.ren, dRows_ren]
    rw [e2, e3, e4, e5, e6]
    exact hK b hb
set_option maxRecDepth 100000 in
set_option maxHeartbeats 16000000 in
theorem obj_bodyDR (l : List Obj) (ops : List Opn) (ps : List Prc) (g : ∀ o, o ∈ l → o.sm) (N : Nat)
    (ihO : ∀ a z, bseO l ops a → a.mu < N → ACall Try.prog 58 [.rv (.one (.ptr 0 0)), vInt .i64 z] (M0R l ops ps a) (fun r m => ∃ b, PO l ops z a b ∧ r = .tup [] ∧ m = M0R l ops ps b))
    (ihP : ∀ a z w, bseO l ops a → a.mu < N → ACall Try.prog 59 [.rv (.one (.ptr 0 0)), .rv (.agg [.dat (.val (.int .i64 z)), .dat (.val (.int .i64 w))])] (M0R l ops ps a) (fun r m => ∃ b, PP l ops z a b ∧ r = .tup [] ∧ m = M0R l ops ps b))
    (a : Mk) (z : Int) (hbs : bseO l ops a) (hmu : a.mu ≤ N) : body Try.prog c58 [.rv (.one (.ptr 0 0)), vInt .i64 z] (M0R l ops ps a) (fun r m => ∃ b, PO l ops z a b ∧ r = .tup [] ∧ m = M0R l ops ps b) := by
  have hlen : ∀ L : List Bool, (dRows (L.map bE)).length = L.length := fun L => by rw [dRows_len, List.length_map]
  obtain ⟨hO, hP⟩ := hbs
  refine bB_dec (fun h => ?_) (fun h0 => ?_)
  · exact ⟨a, .none fun n hv => by have := hv.1; have h : z < 0 := h; omega, rfl, rfl⟩
  obtain ⟨n, rfl⟩ : ∃ n : Nat, z = n := ⟨z.toNat, by have h : ¬ z < 0 := h0; omega⟩
  refine bB_dec (fun h => ?_) (fun h1 => ?_)
  · refine ⟨a, .none fun m hv => ?_, rfl, rfl⟩
    obtain ⟨hz, o, ho, _⟩ := hv
    have h : (n : Int) ≥ ((dRows (a.O.map bE)).length : Int) := h
    rw [hlen] at h
    have := (List.getElem?_eq_some_iff.1 ho).1
    omega
  have hn : n < a.O.length := by
    have h : ¬ (n : Int) ≥ ((dRows (a.O.map bE)).length : Int) := h1
    rw [hlen] at h
    omega
  have hnl : n < l.length := by omega
  refine ok_some (b_idx hn) ?_
  refine ok_some (bO_get hn) ?_
  refine bB_split (fun h2 => ?_) (fun h2 => ?_)
  · refine ⟨a, .none fun m hv => ?_, rfl, rfl⟩
    have : m = n := by have := hv.1; omega
    subst this
    exact (List.getElem?_eq_getElem hn).trans (congrArg some h2)
  have hix : idxZ (n : Int) (lenOf (dRows (l.map Obj.enc)).length 0 none) = some n := idxZ_nat (by show n < (dRows (l.map Obj.enc)).length; rw [dRows_len, List.length_map]; exact hnl)
  have hog := dRows_nth' Obj.enc l hnl
  have hol := List.getElem?_eq_getElem hnl
  have hsm := g _ (List.getElem_mem hnl)
  generalize l[n] = o at hog hol hsm
  obtain ⟨kind, data, entries, target, peer, queue, proc, links, up⟩ := o
  obtain ⟨es, rfl⟩ : ∃ es : List (ByteArray × Int), entries = es.map entD := hsm.t.2.1
  refine ok_some hix ?_
  refine ok_some hog ?_
  refine bB_beq (fun h3 => ?_) (fun h3 => ?_)
  · refine ⟨a, .none fun m hv => ?_, rfl, rfl⟩
    obtain ⟨hz, o2, ho2, hk⟩ := hv
    have : m = n := by omega
    subst this
    rw [hol] at ho2
    cases ho2
    exact absurd h3 hk
  have h3 : kind ≠ 0 := h3
  have hel : es.length ≤ 8 := by have := hsm.e; simpa using this
  have hql : queue.length ≤ 8 := hsm.q
  have hmid := Mid.start (l := l) (ops := ops) hn es queue
  have hmu1 : (⟨a.O.set n true, a.P⟩ : Mk).mu < N := by
    have := falses_set a.O n ((List.getElem?_eq_getElem hn).trans (congrArg some h2))
    have hmu : falses a.O + falses a.P ≤ N := hmu
    show falses (a.O.set n true) + falses a.P < N
    omega
  refine ok_some (b_idx hn) ?_
  refine ok_some (bO_get hn) ?_
  refine ok_some hix ?_
  refine ok_some hog ?_
  refine loop_keep (fun (s : StM) => s.j ≤ es.length ∧ Mid l ops n a s.b s.j 0 es queue) [0, 4, 61, 62] (fun s => [(63, vInt .i64 (s.j : Nat))]) (fun s => [.var [.ptr 1 0, .row 2 1 0 none, .row 3 1 0 none], .var [.row 4 9 0 none, .row 5 2 0 none, .row 6 4 0 none], .row 1 (dRows (s.b.O.map bE)), .row 1 (dRows (s.b.P.map bE)), .row 9 (dRows (l.map Obj.enc)), .row 2 (dRows (ops.map Opn.enc)), .row 4 (dRows (ps.map Prc.enc))]) (fun s => es.length - s.j) ⟨0, _⟩ ⟨Nat.zero_le _, hmid⟩ ?_ (fun s hs => ?_)
  · refine View.of 7 [0, 1, 2, 3, 4, 5, 6] [] rfl rfl rfl rfl rfl rfl ?_ ?_
    · repeat (first | exact .nil | refine .junk ?_ | refine .eq rfl ?_)
    · exact .put (notF rfl) rfl (.eq rfl (by simp)) (.put (notF rfl) rfl (.eq rfl (by simp)) (.put (notF rfl) rfl (.rowDE bO_set) (.put (notF rfl) rfl (.rowDE rfl) (.put (notF rfl) rfl (.rowDE rfl) (.put (notF rfl) rfl (.rowDE rfl) (.put (notF rfl) rfl (.rowDE rfl) (.nil _)))))))
  obtain ⟨j, b⟩ := s
  obtain ⟨hj, hM⟩ := hs
  have hj : j ≤ es.length := hj
  have hM : Mid l ops n a b j 0 es queue := hM
  refine bB_dec (fun h => ?_) (fun h => ?_)
  · have hjlt : j < es.length := by
      have h : (j : Int) < ((es.map entD).length : Int) := h
      rw [List.length_map] at h
      omega
    refine ok_some (ent_get hjlt) ?_
    have hbm := hM.mu_le
    refine borrowDR (ihO b es[j].2 ⟨hM.st.lo.trans hO, hM.st.lp.trans hP⟩ (by omega)) _ rfl fun c hc => ?_
    refine ⟨⟨j + 1, c⟩, ⟨hjlt, hM.stepE (List.getElem?_eq_getElem hjlt) hc hol rfl⟩, (show es.length - (j + 1) < es.length - j by omega), View.of 8 [0, 1, 2, 3, 4, 5, 6] [] rfl rfl rfl rfl rfl rfl ?_ ?_⟩
    · repeat (first | exact .nil | refine .junk ?_ | refine .put (.ren (next_i64 (by omega)).symm) ?_ | refine .eq rfl ?_)
    · exact .put (notF rfl) rfl (.eq rfl (by simp)) (.put (notF rfl) rfl (.eq rfl (by simp)) (.put (notF rfl) rfl (.rowDE rfl) (.put (notF rfl) rfl (.rowDE rfl) (.put (notF rfl) rfl (.rowDE rfl) (.put (notF rfl) rfl (.rowDE rfl) (.put (notF rfl) rfl (.rowDE rfl) (.nil _)))))))
  · have hje : j = es.length := by
      have h : ¬ (j : Int) < ((es.map entD).length : Int) := h
      rw [List.length_map] at h
      omega
    subst hje
    refine ok_some hog ?_
    refine loop_keep (fun (s : StM) => s.j ≤ queue.length ∧ Mid l ops n a s.b es.length s.j es queue) [0, 75, 76] (fun s => [(77, vInt .i64 (s.j : Nat))]) (fun s => [.var [.ptr 1 0, .row 2 1 0 none, .row 3 1 0 none], .var [.row 4 9 0 none, .row 5 2 0 none, .row 6 4 0 none], .row 1 (dRows (s.b.O.map bE)), .row 1 (dRows (s.b.P.map bE)), .row 9 (dRows (l.map Obj.enc)), .row 2 (dRows (ops.map Opn.enc)), .row 4 (dRows (ps.map Prc.enc))]) (fun s => queue.length - s.j) ⟨0, b⟩ ⟨Nat.zero_le _, hM⟩ ?_ (fun s hs => ?_)
    · refine View.of 7 [0, 1, 2, 3, 4, 5, 6] [] rfl rfl rfl rfl rfl rfl ?_ ?_
      · repeat (first | exact .nil | refine .junk ?_ | refine .eq rfl ?_)
      · exact .put (notF rfl) rfl (.eq rfl (by simp)) (.put (notF rfl) rfl (.eq rfl (by simp)) (.put (notF rfl) rfl (.rowDE rfl) (.put (notF rfl) rfl (.rowDE rfl) (.put (notF rfl) rfl (.rowDE rfl) (.put (notF rfl) rfl (.rowDE rfl) (.put (notF rfl) rfl (.rowDE rfl) (.nil _)))))))
    clear hM hj h
    obtain ⟨j, b⟩ := s
    obtain ⟨hj, hM⟩ := hs
    have hj : j ≤ queue.length := hj
    have hM : Mid l ops n a b es.length j es queue := hM
    refine bB_dec (fun h => ?_) (fun h => ?_)
    · have hjlt : j < queue.length := by
        have h : (j : Int) < ((queue.map Msg.enc).length : Int) := h
        rw [List.length_map] at h
        omega
      have hqj := List.getElem?_eq_getElem hjlt
      refine ok_some (msg_get hjlt) ?_
      have hbm := hM.mu_le
      refine bB_split (fun hh => ?_) (fun hh => ?_)
      · refine borrowDR (ihP b queue[j].opn queue[j].rts ⟨hM.st.lo.trans hO, hM.st.lp.trans hP⟩ (by omega)) _ rfl fun c hc => ?_
        refine ⟨⟨j + 1, c⟩, ⟨hjlt, hM.stepQ hqj hh hc hol rfl⟩, (show queue.length - (j + 1) < queue.length - j by omega), View.of 8 [0, 1, 2, 3, 4, 5, 6] [] rfl rfl rfl rfl rfl rfl ?_ ?_⟩
        · repeat (first | exact .nil | refine .junk ?_ | refine .put (.ren (next_i64 (by omega)).symm) ?_ | refine .eq rfl ?_)
        · exact .put (notF rfl) rfl (.eq rfl (by simp)) (.put (notF rfl) rfl (.eq rfl (by simp)) (.put (notF rfl) rfl (.rowDE rfl) (.put (notF rfl) rfl (.rowDE rfl) (.put (notF rfl) rfl (.rowDE rfl) (.put (notF rfl) rfl (.rowDE rfl) (.put (notF rfl) rfl (.rowDE rfl) (.nil _)))))))
      · skip
        refine ⟨⟨j + 1, b⟩, ⟨hjlt, hM.skipQ hqj hh⟩, (show queue.length - (j + 1) < queue.length - j by omega), View.of 8 [0, 1, 2, 3, 4, 5, 6] [] rfl rfl rfl rfl rfl rfl ?_ ?_⟩
        · repeat (first | exact .nil | refine .junk ?_ | refine .put (.ren (next_i64 (by omega)).symm) ?_ | refine .eq rfl ?_)
        · exact .put (notF rfl) rfl (.eq rfl (by simp)) (.put (notF rfl) rfl (.eq rfl (by simp)) (.put (notF rfl) rfl (.rowDE rfl) (.put (notF rfl) rfl (.rowDE rfl) (.put (notF rfl) rfl (.rowDE rfl) (.put (notF rfl) rfl (.rowDE rfl) (.put (notF rfl) rfl (.rowDE rfl) (.nil _)))))))
    · have hje : j = queue.length := by
        have h : ¬ (j : Int) < ((queue.map Msg.enc).length : Int) := h
        rw [List.length_map] at h
        omega
      subst hje
      exact ⟨b, hM.fin hol h3 rfl rfl, rfl, rfl⟩
set_option maxRecDepth 100000 in
set_option maxHeartbeats 16000000 in
theorem cap_bodyDR (l : List Obj) (ops : List Opn) (ps : List Prc) (N : Nat)
    (ihO : ∀ a z, bseO l ops a → a.mu < N → ACall Try.prog 58 [.rv (.one (.ptr 0 0)), vInt .i64 z] (M0R l ops ps a) (fun r m => ∃ b, PO l ops z a b ∧ r = .tup [] ∧ m = M0R l ops ps b))
    (a : Mk) (z w : Int) (hbs : bseO l ops a) (hmu : a.mu ≤ N) : body Try.prog c59 [.rv (.one (.ptr 0 0)), .rv (.agg [.dat (.val (.int .i64 z)), .dat (.val (.int .i64 w))])] (M0R l ops ps a) (fun r m => ∃ b m', PP l ops z a b ∧ r = .tup [] ∧ m = M0R l ops ps b ++ m') := by
  have hlen : ∀ L : List Bool, (dRows (L.map bE)).length = L.length := fun L => by rw [dRows_len, List.length_map]
  obtain ⟨hO, hP⟩ := hbs
  refine bB_dec (fun h => ?_) (fun h0 => ?_)
  · exact ⟨a, [_], .none fun n hv => by have := hv.1; have h : z < 0 := h; omega, rfl, rfl⟩
  obtain ⟨n, rfl⟩ : ∃ n : Nat, z = n := ⟨z.toNat, by have h : ¬ z < 0 := h0; omega⟩
  refine bB_dec (fun h => ?_) (fun h1 => ?_)
  · refine ⟨a, [_], .none fun m hv => ?_, rfl, rfl⟩
    obtain ⟨hz, ho⟩ := hv
    have h : (n : Int) ≥ ((dRows (a.P.map bE)).length : Int) := h
    rw [hlen] at h
    omega
  have hn : n < a.P.length := by
    have h : ¬ (n : Int) ≥ ((dRows (a.P.map bE)).length : Int) := h1
    rw [hlen] at h
    omega
  have hnl : n < ops.length := by omega
  refine ok_some (b_idx hn) ?_
  refine ok_some (bO_get hn) ?_
  refine bB_split (fun h2 => ?_) (fun h2 => ?_)
  · refine ⟨a, [_], .none fun m hv => ?_, rfl, rfl⟩
    have : m = n := by have := hv.1; omega
    subst this
    exact (List.getElem?_eq_getElem hn).trans (congrArg some h2)
  have hmu1 : (⟨a.O, a.P.set n true⟩ : Mk).mu < N := by
    have := falses_set a.P n ((List.getElem?_eq_getElem hn).trans (congrArg some h2))
    have hmu : falses a.O + falses a.P ≤ N := hmu
    show falses a.O + falses (a.P.set n true) < N
    omega
  refine ok_some (b_idx hn) ?_
  refine ok_some (bO_get hn) ?_
  refine ⟨trivial, ?_⟩
  have hix : idxZ (n : Int) (lenOf (dRows (ops.map Opn.enc)).length 0 none) = some n := idxZ_nat (by show n < (dRows (ops.map Opn.enc)).length; rw [dRows_len, List.length_map]; exact hnl)
  refine ok_some hix ?_
  refine ok_some (dRows_nth' Opn.enc ops hnl) ?_
  refine acall_pre (args' := [.rv (.one (.ptr 0 0)), vInt .i64 ops[n].obj]) (m' := M0R l ops ps ⟨a.O, a.P.set n true⟩ ++ [.var [.dat (.val (.int .i64 (n : Nat))), .dat (.val (.int .i64 w))]]) (View.of 8 [0, 1, 2, 3, 4, 5, 6, 7] [] rfl rfl rfl rfl rfl rfl (.eq rfl (.eq rfl .nil))
    (.put (notF rfl) rfl (.eq rfl (by simp)) (.put (notF rfl) rfl (.eq rfl (by simp)) (.put (notF rfl) rfl (.rowDE rfl) (.put (notF rfl) rfl (.rowDE bO_set) (.put (notF rfl) rfl (.rowDE rfl) (.put (notF rfl) rfl (.rowDE rfl) (.put (notF rfl) rfl (.rowDE rfl) (.put (notF rfl) rfl (.eq rfl (by simp)) (.nil _)))))))))) ?_
  refine borrowDR (ihO ⟨a.O, a.P.set n true⟩ ops[n].obj ⟨hO, by simpa using hP⟩ hmu1) _ rfl fun c hc => ?_
  exact ⟨trivial, c, [_], PP.of hn (List.getElem?_eq_getElem hnl) hc, rfl, rfl⟩
theorem objcapDR (l : List Obj) (ops : List Opn) (ps : List Prc) (g : ∀ o, o ∈ l → o.sm) : ∀ N,
    (∀ a z, bseO l ops a → a.mu < N → ACall Try.prog 58 [.rv (.one (.ptr 0 0)), vInt .i64 z] (M0R l ops ps a) (fun r m => ∃ b, PO l ops z a b ∧ r = .tup [] ∧ m = M0R l ops ps b)) ∧
    (∀ a z w, bseO l ops a → a.mu < N → ACall Try.prog 59 [.rv (.one (.ptr 0 0)), .rv (.agg [.dat (.val (.int .i64 z)), .dat (.val (.int .i64 w))])] (M0R l ops ps a) (fun r m => ∃ b, PP l ops z a b ∧ r = .tup [] ∧ m = M0R l ops ps b))
  | 0 => ⟨fun _ _ _ h => absurd h (Nat.not_lt_zero _), fun _ _ _ _ h => absurd h (Nat.not_lt_zero _)⟩
  | N + 1 => by
    obtain ⟨ihO, ihP⟩ := objcapDR l ops ps g N
    refine ⟨fun a z hb hm => acall_body Try.func58 l58 rfl (Nat.le_of_ble_eq_true rfl) (obj_bodyDR l ops ps g N ihO ihP a z hb (by omega)), fun a z w hb hm => ?_⟩
    refine acall_view (acall_body Try.func59 l59 rfl (Nat.le_of_ble_eq_true rfl) (cap_bodyDR l ops ps N ihO a z w hb (by omega))) fun r m1 ⟨b, m', hp, hr, hm1⟩ => ?_
    subst hr hm1
    refine ⟨.tup [], M0R l ops ps b, View.of (7 + m'.length) [0, 1, 2, 3, 4, 5, 6] [] (by simp [M0R]; omega) rfl rfl rfl rfl (by simp [allLt] <;> omega) (.put (.tup rfl fun i r r' h => by simp at h) .nil) ?_, ⟨b, hp, rfl, rfl⟩⟩
    exact .put (notF rfl) rfl (.eq rfl (by simp)) (.put (notF rfl) rfl (.eq rfl (by simp)) (.put (notF rfl) rfl (.rowDE rfl) (.put (notF rfl) rfl (.rowDE rfl) (.put (notF rfl) rfl (.rowDE rfl) (.put (notF rfl) rfl (.rowDE rfl) (.put (notF rfl) rfl (.rowDE rfl) (.nil _)))))))

def c42 : LF := ⟨54, [.tmp 2], (.seq (.reg [
    ⟨(some 2), .mov (.c (.rv (.one (.dat (.val (.pointer none)))))), none⟩]) (.seq (.draw [
    ⟨(some 8), .mov (.t 0), none⟩,
    ⟨(some 9), .mov (.t 0), none⟩,
    ⟨(some 10), .nilc (.t 9), none⟩,
    ⟨(some 11), .fadr 0 (.t 10), none⟩,
    ⟨(some 12), .load false 1 (.t 11), none⟩,
    ⟨(some 13), .len 1 (.t 12), none⟩,
    ⟨(some 14), .mkslice 1 1 [(.dat (.val (.bool false)))] (.t 13) (.t 13), none⟩,
    ⟨(some 15), .mov (.t 0), none⟩,
    ⟨(some 16), .nilc (.t 15), none⟩,
    ⟨(some 17), .fadr 1 (.t 16), none⟩,
    ⟨(some 18), .load false 1 (.t 17), none⟩,
    ⟨(some 19), .len 1 (.t 18), none⟩,
    ⟨(some 20), .mkslice 1 1 [(.dat (.val (.bool false)))] (.t 19) (.t 19), none⟩,
    ⟨(some 21), .build [(.dat (.val (.pointer none))), .esl, .esl] [(0, 1, (.t 8)), (1, 1, (.t 14)), (2, 1, (.t 20))], none⟩,
    ⟨(some 22), .box (.t 21), none⟩,
    ⟨(some 3), .mov (.t 22), none⟩]
    [(.cons 0 none (.cons 1 none (.cons 2 none (.cons 3 none (.cons 4 none (.cons 5 none (.cons 7 none (.cons 8 none (.cons 9 none (.cons 10 none (.cons 11 none (.alt (.cons 6 (some [11, 10]) (.cons 12 (some [5, 4]) (.cons 13 none (.cons 14 (some []) (.cons 15 none .nil))))) (.cons 12 (some [5, 4]) (.cons 6 (some [11, 10]) (.cons 13 none (.cons 14 (some []) (.cons 15 none .nil)))))))))))))))))]) (.ghost (.seq (.reg [
    ⟨(some 23), .mov (.t 3), none⟩,
    ⟨(some 24), .call (.c (.rv (.one (.fn 58 [])))) [(.t 23), (.c (.rv (.one (.dat (.val (.int .i64 (0)))))))], none⟩]) (.seq (.seq (.reg [
    ⟨(some 25), .mov (.t 0), none⟩,
    ⟨(some 26), .nilc (.t 25), none⟩,
    ⟨(some 27), .fadr 2 (.t 26), none⟩,
    ⟨(some 28), .load false 1 (.t 27), none⟩,
    ⟨(some 29), .len 1 (.t 28), none⟩,
    ⟨(some 30), .mov (.c (.rv (.one (.dat (.val (.int .i64 (0))))))), none⟩]) (.block 0 (.loop (.seq (.reg [
    ⟨(some 31), .bin .lss (.t 30) (.t 29), none⟩]) (.seq (.cond (.t 31) .skip (.exit 0)) (.seq (.block 1 (.seq (.reg [
    ⟨(some 32), .idx 4 (.t 28) (.t 30), none⟩,
    ⟨(some 33), .load true 4 (.t 32), none⟩,
    ⟨(some 5), .alloc [(.dat (.val (.bool false))), (.dat (.val (.bool false))), (.dat (.val (.int .i64 (0)))), .esl], none⟩,
    ⟨none, .store 4 (.t 5) (.t 33), none⟩]) (.seq (.reg [
    ⟨(some 34), .fadr 3 (.t 5), none⟩,
    ⟨(some 35), .load false 1 (.t 34), none⟩,
    ⟨(some 36), .len 1 (.t 35), none⟩,
    ⟨(some 37), .mov (.c (.rv (.one (.dat (.val (.int .i64 (0))))))), none⟩]) (.block 2 (.loop (.seq (.reg [
    ⟨(some 38), .bin .lss (.t 37) (.t 36), none⟩]) (.seq (.cond (.t 38) .skip (.exit 2)) (.seq (.block 3 (.seq (.reg [
    ⟨(some 39), .idx 3 (.t 35) (.t 37), none⟩,
    ⟨(some 40), .load true 3 (.t 39), none⟩,
    ⟨(some 7), .alloc [(.dat (.val (.bool false))), (.dat (.val (.int .i64 (0)))), (.dat (.val (.int .i64 (0))))], none⟩,
    ⟨none, .store 3 (.t 7) (.t 40), none⟩]) (.seq (.reg [
    ⟨(some 41), .fadr 0 (.t 5), none⟩,
    ⟨(some 42), .load false 1 (.t 41), none⟩,
    ⟨(some 43), .mov (.t 42), none⟩,
    ⟨(some 44), .fadr 0 (.t 7), (some (43, true))⟩,
    ⟨(some 45), .load false 1 (.t 44), (some (43, true))⟩,
    ⟨(some 46), .pick (.t 43) (.t 45) (.c (.rv (.one (.dat (.val (.bool false)))))), none⟩]) (.cond (.t 46) (.reg [
    ⟨(some 47), .mov (.t 3), none⟩,
    ⟨(some 48), .fadr 1 (.t 7), none⟩,
    ⟨(some 49), .load true 2 (.t 48), none⟩,
    ⟨(some 50), .call (.c (.rv (.one (.fn 59 [])))) [(.t 47), (.t 49)], none⟩]) .skip)))) (.reg [
    ⟨(some 51), .bin .add (.t 37) (.c (.rv (.one (.dat (.val (.int .i64 (1))))))), none⟩,
    ⟨(some 37), .mov (.t 51), none⟩]))))))))) (.reg [
    ⟨(some 52), .bin .add (.t 30) (.c (.rv (.one (.dat (.val (.int .i64 (1))))))), none⟩,
    ⟨(some 30), .mov (.t 52), none⟩]))))))) (.seq (.reg [
    ⟨(some 53), .mov (.t 3), none⟩,
    ⟨(some 2), .mov (.t 53), none⟩]) .ret))))))⟩
/-! sweep.mark -/
def Roots (l : List Obj) (ops : List Opn) (ps : List Prc) (RO RP : Nat → Prop) : Prop :=
  (∀ n, vO l 0 n → RO n) ∧ ∀ (p : Nat) pr, ps[p]? = some pr → pr.live = true → ∀ s, s ∈ pr.slots → s.has = true → ∀ c, vP ops s.opn c → RP c
/-- what is marked: the least that has the roots, and all that they lead to -/
structure MarkOK (l : List Obj) (ops : List Opn) (ps : List Prc) (b : Mk) : Prop where
  len : bseO l ops b
  roots : Roots l ops ps (onB b.O) (onB b.P)
  cl : Cl l ops (onB b.O) (onB b.P)
  least : ∀ RO RP, Cl l ops RO RP → Roots l ops ps RO RP → InR RO RP b
def emp (l : List Obj) (ops : List Opn) : Mk := ⟨List.replicate l.length false, List.replicate ops.length false⟩
theorem emp_on {n i : Nat} : ¬ onB (List.replicate n false) i := by
  intro h
  unfold onB at h
  rw [List.getElem?_replicate] at h
  split at h <;> cases h
structure MarkMid (l : List Obj) (ops : List Opn) (ps : List Prc) (b : Mk) (p j : Nat) : Prop where
  st : Step l ops (fun _ => False) (emp l ops) b
  r0 : ∀ n, vO l 0 n → onB b.O n
  rp : ∀ (i : Nat) pr, i < p → ps[i]? = some pr → pr.live = true → ∀ s, s ∈ pr.slots → s.has = true → ∀ c, vP ops s.opn c → onB b.P c
  rj : ∀ pr, ps[p]? = some pr → pr.live = true → ∀ (t : Nat) s, t < j → pr.slots[t]? = some s → s.has = true → ∀ c, vP ops s.opn c → onB b.P c
  least : ∀ RO RP, Cl l ops RO RP → Roots l ops ps RO RP → InR RO RP b
theorem MarkMid.start {l : List Obj} {ops : List Opn} {ps : List Prc} {b : Mk} (h : PO l ops 0 (emp l ops) b) : MarkMid l ops ps b 0 0 :=
  ⟨h.st, h.on, fun i pr h => absurd h (Nat.not_lt_zero i), fun pr _ _ t s h => absurd h (Nat.not_lt_zero t), fun RO RP hcl hr => h.sd RO RP hcl ⟨fun i hi => absurd hi emp_on, fun i hi => absurd hi emp_on⟩ hr.1⟩
theorem MarkMid.stepC {l : List Obj} {ops : List Opn} {ps : List Prc} {b c : Mk} {p j : Nat} (h : MarkMid l ops ps b p j) {pr : Prc} (hpr : ps[p]? = some pr) (hlv : pr.live = true) {s : Sl3} (hs : pr.slots[j]? = some s) (hh : s.has = true) (hc : PP l ops s.opn b c) : MarkMid l ops ps c p (j + 1) := by
  refine ⟨h.st.trans hc.st, fun n hn => hc.st.mo n (h.r0 n hn), fun i x hi hx hl y hy hyh d hd => hc.st.mp d (h.rp i x hi hx hl y hy hyh d hd), fun x hx hl t y ht hy hyh d hd => ?_, fun RO RP hcl hr => hc.sd RO RP hcl (h.least RO RP hcl hr) fun d hd => hr.2 p pr hpr hlv s (List.mem_of_getElem? hs) hh d hd⟩
  rcases Nat.lt_or_ge t j with htj | htj
  · exact hc.st.mp d (h.rj x hx hl t y htj hy hyh d hd)
  · have : t = j := by omega
    subst this
    rw [hpr] at hx
    cases hx
    rw [hs] at hy
    cases hy
    exact hc.on d hd
theorem MarkMid.skip {l : List Obj} {ops : List Opn} {ps : List Prc} {b : Mk} {p j : Nat} (h : MarkMid l ops ps b p j) {pr : Prc} (hpr : ps[p]? = some pr) {s : Sl3} (hs : pr.slots[j]? = some s) (hh : pr.live = true → s.has = false) : MarkMid l ops ps b p (j + 1) := by
  refine ⟨h.st, h.r0, h.rp, fun x hx hl t y ht hy hyh d hd => ?_, h.least⟩
  rcases Nat.lt_or_ge t j with htj | htj
  · exact h.rj x hx hl t y htj hy hyh d hd
  · have : t = j := by omega
    subst this
    rw [hpr] at hx
    cases hx
    rw [hs] at hy
    cases hy
    rw [hh hl] at hyh
    cases hyh
theorem MarkMid.next {l : List Obj} {ops : List Opn} {ps : List Prc} {b : Mk} {p : Nat} {pr : Prc} (hpr : ps[p]? = some pr) (h : MarkMid l ops ps b p pr.slots.length) : MarkMid l ops ps b (p + 1) 0 := by
  refine ⟨h.st, h.r0, fun i x hi hx hl y hy hyh d hd => ?_, fun x _ _ t y ht => absurd ht (Nat.not_lt_zero t), h.least⟩
  rcases Nat.lt_or_ge i p with hip | hip
  · exact h.rp i x hip hx hl y hy hyh d hd
  · have : i = p := by omega
    subst this
    rw [hpr] at hx
    cases hx
    obtain ⟨t, ht⟩ := List.getElem?_of_mem hy
    exact h.rj pr hpr hl t y (List.getElem?_eq_some_iff.1 ht).1 ht hyh d hd
theorem MarkMid.fin {l : List Obj} {ops : List Opn} {ps : List Prc} {b : Mk} (h : MarkMid l ops ps b ps.length 0) : MarkOK l ops ps b := by
  refine ⟨⟨by have := h.st.lo; simpa [emp] using this, by have := h.st.lp; simpa [emp] using this⟩, ⟨h.r0, fun p pr hp hl s hs hh c hc => h.rp p pr (List.getElem?_eq_some_iff.1 hp).1 hp hl s hs hh c hc⟩, ⟨fun i o hi ho z n hz hv => ?_, fun i o hi ho z c hz hv => ?_, fun c o hc ho n hv => ?_⟩, h.least⟩
  · exact (h.st.co i o hi emp_on (fun h => h) ho).1 z n hz hv
  · exact (h.st.co i o hi emp_on (fun h => h) ho).2 z c hz hv
  · exact h.st.cp c o hc emp_on ho n hv
theorem rep_rows (n : Nat) : (repl n [CC.dat (.val (.bool false))]) = dRows ((List.replicate n false).map bE) := by
  induction n with
  | zero => rfl
  | succ n ih => simp only [repl, ih]; simp [dRows, bE, List.replicate_succ]
theorem l42 : lowF Try.prog Try.f42 = some c42.er := by kernel_rfl
theorem sl3_get {l : List Sl3} {k : Nat} (h : k < l.length) : getZ (l.map Sl3.enc) (k : Nat) = some [.val (.bool l[k].has), .val (.int .i64 l[k].opn), .val (.int .i64 l[k].rts)] := by
  rw [getZ_nat, List.getElem?_map, List.getElem?_eq_getElem h]; rfl
structure StK where
  p : Nat
  b : Mk
theorem prc_get {ps : List Prc} {k : Nat} (h : k < ps.length) : getZ (ps.map Prc.enc) (k : Nat) = some [.val (.bool ps[k].live), .val (.bool ps[k].fenced), .val (.int .i64 ps[k].code), sl3D ps[k].slots] := by
  rw [getZ_nat, List.getElem?_map, List.getElem?_eq_getElem h]; rfl

theorem borrowMD {l : List Obj} {ops : List Opn} {ps : List Prc} {a : Mk} {f : Nat} {args args0 : List CV} {Q : Mk → Prop} (h : ACall Try.prog f args0 (M0 l ops ps a) (fun r m => ∃ b, Q b ∧ r = .tup [] ∧ m = M0 l ops ps b)) (X : Mem)
    (hargs : args = args0.map (CV.ren (sg [1, 0, 2, 3] (4 + X.length)))) {K : CV → Mem → Prop} (hK : ∀ b, Q b → K (.tup []) ([.var [.dat (objsD l), .dat (opnD ops), .dat (prcD ps)], .var [.ptr 0 0, .row 2 1 0 none, .row 3 1 0 none], .row 1 (dRows (b.O.map bE)), .row 1 (dRows (b.P.map bE))] ++ X)) :
    ACall Try.prog f args ([.var [.dat (objsD l), .dat (opnD ops), .dat (prcD ps)], .var [.ptr 0 0, .row 2 1 0 none, .row 3 1 0 none], .row 1 (dRows (a.O.map bE)), .row 1 (dRows (a.P.map bE))] ++ X) K := by
  refine acall_borrow [1, 0, 2, 3] (4 + X.length) (by simp; omega) rfl rfl (by simp [allLt] <;> omega) (args0 := args0) hargs (fun i b' hi => ?_) h (fun r m1 hr => ?_)
  · match i, hi with
    | 0, hi => cases hi; exact .inr ⟨fun h => h, _, rfl, .eq rfl (by simp)⟩
    | 1, hi => cases hi; exact .inr ⟨fun h => h, _, rfl, .eq rfl (by simp)⟩
    | 2, hi => cases hi; exact .inr ⟨fun h => h, _, rfl, .rowDE rfl⟩
    | 3, hi => cases hi; exact .inr ⟨fun h => h, _, rfl, .rowDE rfl⟩
    | n + 4, hi => simp [M0] at hi
  · obtain ⟨b, hb, rfl, rfl⟩ := hr
    refine ⟨Nat.le_refl _, ?_⟩
    have e : ∀ (s : Nat) (ds : List (List Dt)), (Bk.row s (dRows ds)).ren (sg [1, 0, 2, 3] (4 + X.length)) = .row s (dRows ds) := fun s ds => by simp only [Bk.ren, dRows_ren]
    have hk := hK b hb
    have hw : weave ([.var [.dat (objsD l), .dat (opnD ops), .dat (prcD ps)], .var [.ptr 0 0, .row 2 1 0 none, .row 3 1 0 none], .row 1 (dRows (a.O.map bE)), .row 1 (dRows (a.P.map bE))] ++ X) [1, 0, 2, 3] (renM (sg [1, 0, 2, 3] (4 + X.length)) (M0 l ops ps b)) = [.var [.dat (objsD l), .dat (opnD ops), .dat (prcD ps)], .var [.ptr 0 0, .row 2 1 0 none, .row 3 1 0 none], .row 1 (dRows (b.O.map bE)), .row 1 (dRows (b.P.map bE))] ++ X := by
      simp only [M0, renM, e, weave, app2_eq, List.append_nil]
      rfl
    rw [hw]
    exact hk

set_option maxRecDepth 100000 in
set_option maxHeartbeats 32000000 in
theorem mark_bodyD (l : List Obj) (ops : List Opn) (ps : List Prc) (g : ∀ o, o ∈ l → o.sm) (hl : l.length ≤ 4194304) (ho : ops.length ≤ 4194304) (hpl : ps.length ≤ 4194304) (hps : ∀ p, p ∈ ps → p.slots.length ≤ 10) :
    body Try.prog c42 [.rv (.one (.ptr 0 0))] [.var [.dat (objsD l), .dat (opnD ops), .dat (prcD ps)]] (fun r m => ∃ b, MarkOK l ops ps b ∧ r = .rv (.one (.ptr 1 0)) ∧ m = [.var [.dat (objsD l), .dat (opnD ops), .dat (prcD ps)], .var [.ptr 0 0, .row 2 1 0 none, .row 3 1 0 none], .row 1 (dRows (b.O.map bE)), .row 1 (dRows (b.P.map bE))]) := by
  refine ⟨?_, ?_⟩
  · skip
    refine bB_yes (Nat.beq_refl _) ?_
    refine ⟨(by show (l.map Obj.enc).length * 1 ≤ _; rw [List.length_map]; omega), ⟨rfl, rfl, trivial⟩, ?_⟩
    refine bB_yes (Nat.beq_refl _) ?_
    refine ⟨(by show (ops.map Opn.enc).length * 1 ≤ _; rw [List.length_map]; omega), ⟨rfl, rfl, trivial⟩, ?_⟩
    refine ⟨trivial, ?_⟩
    refine ghost_keep [0] [(3, .rv (.one (.ptr 1 0)))] ([.var [.dat (objsD l), .dat (opnD ops), .dat (prcD ps)], .var [.ptr 0 0, .row 2 1 0 none, .row 3 1 0 none], .row 1 (dRows ((emp l ops).O.map bE)), .row 1 (dRows ((emp l ops).P.map bE))]) (View.of 4 [0, 3, 1, 2] [] rfl rfl rfl rfl rfl rfl ?_ ?_) ?_
    · repeat (first | exact .nil | refine .junk ?_ | refine .eq rfl ?_)
    · exact (.put (notF rfl) rfl (.eq rfl (by simp)) (.put (notF rfl) rfl (.eq rfl (by simp)) (.put (notF rfl) rfl (.rowDE (by show repl (l.map Obj.enc).length _ = _; rw [rep_rows, List.length_map]; rfl)) (.put (notF rfl) rfl (.rowDE (by show repl (ops.map Opn.enc).length _ = _; rw [rep_rows, List.length_map]; rfl)) (.nil _)))))
    refine borrowMD ((objcapD l ops ps g ((emp l ops).mu + 1)).1 (emp l ops) 0 ⟨by simp [emp], by simp [emp]⟩ (Nat.lt_succ_self _)) [] rfl fun b0 hb0 => ?_
    refine loop_keep (fun (s : StK) => s.p ≤ ps.length ∧ MarkMid l ops ps s.b s.p 0) [3, 28, 29] (fun s => [(30, vInt .i64 (s.p : Nat))]) (fun s => [.var [.dat (objsD l), .dat (opnD ops), .dat (prcD ps)], .var [.ptr 0 0, .row 2 1 0 none, .row 3 1 0 none], .row 1 (dRows (s.b.O.map bE)), .row 1 (dRows (s.b.P.map bE))]) (fun s => ps.length - s.p) ⟨0, b0⟩ ⟨Nat.zero_le _, .start hb0⟩ ?_ (fun s hs => ?_)
    · refine View.of 4 [0, 1, 2, 3] [] rfl rfl rfl rfl rfl rfl ?_ ?_
      · repeat (first | exact .nil | refine .junk ?_ | refine .eq rfl ?_)
      · exact (.put (notF rfl) rfl (.eq rfl (by simp)) (.put (notF rfl) rfl (.eq rfl (by simp)) (.put (notF rfl) rfl (.rowDE rfl) (.put (notF rfl) rfl (.rowDE rfl) (.nil _)))))
    obtain ⟨p, b⟩ := s
    obtain ⟨hp, hM⟩ := hs
    have hp : p ≤ ps.length := hp
    have hM : MarkMid l ops ps b p 0 := hM
    refine bB_dec (fun h => ?_) (fun h => ?_)
    · have hplt : p < ps.length := by
        have h : (p : Int) < ((ps.map Prc.enc).length : Int) := h
        rw [List.length_map] at h
        omega
      refine ok_some (prc_get hplt) ?_
      have hpr := List.getElem?_eq_getElem hplt
      have hsl := hps _ (List.getElem_mem hplt)
      generalize ps[p] = pr at hpr hsl
      refine loop_keep (fun (s : StK) => s.p ≤ pr.slots.length ∧ MarkMid l ops ps s.b p s.p) [3, 5, 28, 29, 30, 35, 36] (fun s => [(37, vInt .i64 (s.p : Nat))]) (fun s => [.var [.dat (objsD l), .dat (opnD ops), .dat (prcD ps)], .var [.ptr 0 0, .row 2 1 0 none, .row 3 1 0 none], .row 1 (dRows (s.b.O.map bE)), .row 1 (dRows (s.b.P.map bE)), .var (pr.enc.map .dat)]) (fun s => pr.slots.length - s.p) ⟨0, b⟩ ⟨Nat.zero_le _, hM⟩ ?_ (fun s hs => ?_)
      · refine View.of 5 [0, 1, 2, 3, 4] [] rfl rfl rfl rfl rfl rfl ?_ ?_
        · repeat (first | exact .nil | refine .junk ?_ | refine .eq rfl ?_)
        · exact (.put (notF rfl) rfl (.eq rfl (by simp)) (.put (notF rfl) rfl (.eq rfl (by simp)) (.put (notF rfl) rfl (.rowDE rfl) (.put (notF rfl) rfl (.rowDE rfl) (.put (notF rfl) rfl (.eq rfl (by simp)) (.nil _))))))
      clear hM
      obtain ⟨j, b⟩ := s
      obtain ⟨hj, hM⟩ := hs
      have hj : j ≤ pr.slots.length := hj
      have hM : MarkMid l ops ps b p j := hM
      refine bB_dec (fun hjl => ?_) (fun hjl => ?_)
      · have hjlt : j < pr.slots.length := by
          have h : (j : Int) < ((pr.slots.map Sl3.enc).length : Int) := hjl
          rw [List.length_map] at h
          omega
        have hsj := List.getElem?_eq_getElem hjlt
        refine ok_some (sl3_get hjlt) ?_
        generalize pr.slots[j] = s at hsj
        refine bB_split (fun hlv => ?_) (fun hlv => ?_)
        · refine bB_split (fun hh => ?_) (fun hh => ?_)
          · refine borrowMD ((objcapD l ops ps g (b.mu + 1)).2 b s.opn s.rts ⟨by have := hM.st.lo; simpa [emp] using this, by have := hM.st.lp; simpa [emp] using this⟩ (Nat.lt_succ_self _)) [_, _] rfl fun c hc => ?_
            refine ⟨⟨j + 1, c⟩, ⟨hjlt, hM.stepC hpr hlv hsj hh hc⟩, (show pr.slots.length - (j + 1) < pr.slots.length - j by omega), View.of 6 [0, 1, 2, 3, 4] [] rfl rfl rfl rfl rfl rfl ?_ ?_⟩
            · repeat (first | exact .nil | refine .junk ?_ | refine .put (.ren (next_i64 (by omega)).symm) ?_ | refine .eq rfl ?_)
            · exact (.put (notF rfl) rfl (.eq rfl (by simp)) (.put (notF rfl) rfl (.eq rfl (by simp)) (.put (notF rfl) rfl (.rowDE rfl) (.put (notF rfl) rfl (.rowDE rfl) (.put (notF rfl) rfl (.eq rfl (by simp)) (.nil _))))))
          · skip
            refine ⟨⟨j + 1, b⟩, ⟨hjlt, hM.skip hpr hsj (fun _ => hh)⟩, (show pr.slots.length - (j + 1) < pr.slots.length - j by omega), View.of 6 [0, 1, 2, 3, 4] [] rfl rfl rfl rfl rfl rfl ?_ ?_⟩
            · repeat (first | exact .nil | refine .junk ?_ | refine .put (.ren (next_i64 (by omega)).symm) ?_ | refine .eq rfl ?_)
            · exact (.put (notF rfl) rfl (.eq rfl (by simp)) (.put (notF rfl) rfl (.eq rfl (by simp)) (.put (notF rfl) rfl (.rowDE rfl) (.put (notF rfl) rfl (.rowDE rfl) (.put (notF rfl) rfl (.eq rfl (by simp)) (.nil _))))))
        · skip
          refine ⟨⟨j + 1, b⟩, ⟨hjlt, hM.skip hpr hsj (fun h => absurd (h.symm.trans hlv) (by simp))⟩, (show pr.slots.length - (j + 1) < pr.slots.length - j by omega), View.of 6 [0, 1, 2, 3, 4] [] rfl rfl rfl rfl rfl rfl ?_ ?_⟩
          · repeat (first | exact .nil | refine .junk ?_ | refine .put (.ren (next_i64 (by omega)).symm) ?_ | refine .eq rfl ?_)
          · exact (.put (notF rfl) rfl (.eq rfl (by simp)) (.put (notF rfl) rfl (.eq rfl (by simp)) (.put (notF rfl) rfl (.rowDE rfl) (.put (notF rfl) rfl (.rowDE rfl) (.put (notF rfl) rfl (.eq rfl (by simp)) (.nil _))))))
      · have hje : j = pr.slots.length := by
          have h : ¬ (j : Int) < ((pr.slots.map Sl3.enc).length : Int) := hjl
          rw [List.length_map] at h
          omega
        subst hje
        refine ⟨⟨p + 1, b⟩, ⟨hplt, hM.next hpr⟩, (show ps.length - (p + 1) < ps.length - p by omega), View.of 5 [0, 1, 2, 3] [] rfl rfl rfl rfl rfl rfl ?_ ?_⟩
        · repeat (first | exact .nil | refine .junk ?_ | refine .put (.ren (next_i64 (by omega)).symm) ?_ | refine .eq rfl ?_)
        · exact (.put (notF rfl) rfl (.eq rfl (by simp)) (.put (notF rfl) rfl (.eq rfl (by simp)) (.put (notF rfl) rfl (.rowDE rfl) (.put (notF rfl) rfl (.rowDE rfl) (.nil _)))))
    · have hpe : p = ps.length := by
        have h : ¬ (p : Int) < ((ps.map Prc.enc).length : Int) := h
        rw [List.length_map] at h
        omega
      subst hpe
      exact ⟨b, hM.fin, rfl, rfl⟩
  · skip
    refine bB_yes (Nat.beq_refl _) ?_
    refine ⟨(by show (ops.map Opn.enc).length * 1 ≤ _; rw [List.length_map]; omega), ⟨rfl, rfl, trivial⟩, ?_⟩
    refine bB_yes (Nat.beq_refl _) ?_
    refine ⟨(by show (l.map Obj.enc).length * 1 ≤ _; rw [List.length_map]; omega), ⟨rfl, rfl, trivial⟩, ?_⟩
    refine ⟨trivial, ?_⟩
    refine ghost_keep [0] [(3, .rv (.one (.ptr 1 0)))] ([.var [.dat (objsD l), .dat (opnD ops), .dat (prcD ps)], .var [.ptr 0 0, .row 2 1 0 none, .row 3 1 0 none], .row 1 (dRows ((emp l ops).O.map bE)), .row 1 (dRows ((emp l ops).P.map bE))]) (View.of 4 [0, 3, 2, 1] [] rfl rfl rfl rfl rfl rfl ?_ ?_) ?_
    · repeat (first | exact .nil | refine .junk ?_ | refine .eq rfl ?_)
    · exact (.put (notF rfl) rfl (.eq rfl (by simp)) (.put (notF rfl) rfl (.eq rfl (by simp)) (.put (notF rfl) rfl (.rowDE (by show repl (l.map Obj.enc).length _ = _; rw [rep_rows, List.length_map]; rfl)) (.put (notF rfl) rfl (.rowDE (by show repl (ops.map Opn.enc).length _ = _; rw [rep_rows, List.length_map]; rfl)) (.nil _)))))
    refine borrowMD ((objcapD l ops ps g ((emp l ops).mu + 1)).1 (emp l ops) 0 ⟨by simp [emp], by simp [emp]⟩ (Nat.lt_succ_self _)) [] rfl fun b0 hb0 => ?_
    refine loop_keep (fun (s : StK) => s.p ≤ ps.length ∧ MarkMid l ops ps s.b s.p 0) [3, 28, 29] (fun s => [(30, vInt .i64 (s.p : Nat))]) (fun s => [.var [.dat (objsD l), .dat (opnD ops), .dat (prcD ps)], .var [.ptr 0 0, .row 2 1 0 none, .row 3 1 0 none], .row 1 (dRows (s.b.O.map bE)), .row 1 (dRows (s.b.P.map bE))]) (fun s => ps.length - s.p) ⟨0, b0⟩ ⟨Nat.zero_le _, .start hb0⟩ ?_ (fun s hs => ?_)
    · refine View.of 4 [0, 1, 2, 3] [] rfl rfl rfl rfl rfl rfl ?_ ?_
      · repeat (first | exact .nil | refine .junk ?_ | refine .eq rfl ?_)
      · exact (.put (notF rfl) rfl (.eq rfl (by simp)) (.put (notF rfl) rfl (.eq rfl (by simp)) (.put (notF rfl) rfl (.rowDE rfl) (.put (notF rfl) rfl (.rowDE rfl) (.nil _)))))
    obtain ⟨p, b⟩ := s
    obtain ⟨hp, hM⟩ := hs
    have hp : p ≤ ps.length := hp
    have hM : MarkMid l ops ps b p 0 := hM
    refine bB_dec (fun h => ?_) (fun h => ?_)
    · have hplt : p < ps.length := by
        have h : (p : Int) < ((ps.map Prc.enc).length : Int) := h
        rw [List.length_map] at h
        omega
      refine ok_some (prc_get hplt) ?_
      have hpr := List.getElem?_eq_getElem hplt
      have hsl := hps _ (List.getElem_mem hplt)
      generalize ps[p] = pr at hpr hsl
      refine loop_keep (fun (s : StK) => s.p ≤ pr.slots.length ∧ MarkMid l ops ps s.b p s.p) [3, 5, 28, 29, 30, 35, 36] (fun s => [(37, vInt .i64 (s.p : Nat))]) (fun s => [.var [.dat (objsD l), .dat (opnD ops), .dat (prcD ps)], .var [.ptr 0 0, .row 2 1 0 none, .row 3 1 0 none], .row 1 (dRows (s.b.O.map bE)), .row 1 (dRows (s.b.P.map bE)), .var (pr.enc.map .dat)]) (fun s => pr.slots.length - s.p) ⟨0, b⟩ ⟨Nat.zero_le _, hM⟩ ?_ (fun s hs => ?_)
      · refine View.of 5 [0, 1, 2, 3, 4] [] rfl rfl rfl rfl rfl rfl ?_ ?_
        · repeat (first | exact .nil | refine .junk ?_ | refine .eq rfl ?_)
        · exact (.put (notF rfl) rfl (.eq rfl (by simp)) (.put (notF rfl) rfl (.eq rfl (by simp)) (.put (notF rfl) rfl (.rowDE rfl) (.put (notF rfl) rfl (.rowDE rfl) (.put (notF rfl) rfl (.eq rfl (by simp)) (.nil _))))))
      clear hM
      obtain ⟨j, b⟩ := s
      obtain ⟨hj, hM⟩ := hs
      have hj : j ≤ pr.slots.length := hj
      have hM : MarkMid l ops ps b p j := hM
      refine bB_dec (fun hjl => ?_) (fun hjl => ?_)
      · have hjlt : j < pr.slots.length := by
          have h : (j : Int) < ((pr.slots.map Sl3.enc).length : Int) := hjl
          rw [List.length_map] at h
          omega
        have hsj := List.getElem?_eq_getElem hjlt
        refine ok_some (sl3_get hjlt) ?_
        generalize pr.slots[j] = s at hsj
        refine bB_split (fun hlv => ?_) (fun hlv => ?_)
        · refine bB_split (fun hh => ?_) (fun hh => ?_)
          · refine borrowMD ((objcapD l ops ps g (b.mu + 1)).2 b s.opn s.rts ⟨by have := hM.st.lo; simpa [emp] using this, by have := hM.st.lp; simpa [emp] using this⟩ (Nat.lt_succ_self _)) [_, _] rfl fun c hc => ?_
            refine ⟨⟨j + 1, c⟩, ⟨hjlt, hM.stepC hpr hlv hsj hh hc⟩, (show pr.slots.length - (j + 1) < pr.slots.length - j by omega), View.of 6 [0, 1, 2, 3, 4] [] rfl rfl rfl rfl rfl rfl ?_ ?_⟩
            · repeat (first | exact .nil | refine .junk ?_ | refine .put (.ren (next_i64 (by omega)).symm) ?_ | refine .eq rfl ?_)
            · exact (.put (notF rfl) rfl (.eq rfl (by simp)) (.put (notF rfl) rfl (.eq rfl (by simp)) (.put (notF rfl) rfl (.rowDE rfl) (.put (notF rfl) rfl (.rowDE rfl) (.put (notF rfl) rfl (.eq rfl (by simp)) (.nil _))))))
          · skip
            refine ⟨⟨j + 1, b⟩, ⟨hjlt, hM.skip hpr hsj (fun _ => hh)⟩, (show pr.slots.length - (j + 1) < pr.slots.length - j by omega), View.of 6 [0, 1, 2, 3, 4] [] rfl rfl rfl rfl rfl rfl ?_ ?_⟩
            · repeat (first | exact .nil | refine .junk ?_ | refine .put (.ren (next_i64 (by omega)).symm) ?_ | refine .eq rfl ?_)
            · exact (.put (notF rfl) rfl (.eq rfl (by simp)) (.put (notF rfl) rfl (.eq rfl (by simp)) (.put (notF rfl) rfl (.rowDE rfl) (.put (notF rfl) rfl (.rowDE rfl) (.put (notF rfl) rfl (.eq rfl (by simp)) (.nil _))))))
        · skip
          refine ⟨⟨j + 1, b⟩, ⟨hjlt, hM.skip hpr hsj (fun h => absurd (h.symm.trans hlv) (by simp))⟩, (show pr.slots.length - (j + 1) < pr.slots.length - j by omega), View.of 6 [0, 1, 2, 3, 4] [] rfl rfl rfl rfl rfl rfl ?_ ?_⟩
          · repeat (first | exact .nil | refine .junk ?_ | refine .put (.ren (next_i64 (by omega)).symm) ?_ | refine .eq rfl ?_)
          · exact (.put (notF rfl) rfl (.eq rfl (by simp)) (.put (notF rfl) rfl (.eq rfl (by simp)) (.put (notF rfl) rfl (.rowDE rfl) (.put (notF rfl) rfl (.rowDE rfl) (.put (notF rfl) rfl (.eq rfl (by simp)) (.nil _))))))
      · have hje : j = pr.slots.length := by
          have h : ¬ (j : Int) < ((pr.slots.map Sl3.enc).length : Int) := hjl
          rw [List.length_map] at h
          omega
        subst hje
        refine ⟨⟨p + 1, b⟩, ⟨hplt, hM.next hpr⟩, (show ps.length - (p + 1) < ps.length - p by omega), View.of 5 [0, 1, 2, 3] [] rfl rfl rfl rfl rfl rfl ?_ ?_⟩
        · repeat (first | exact .nil | refine .junk ?_ | refine .put (.ren (next_i64 (by omega)).symm) ?_ | refine .eq rfl ?_)
        · exact (.put (notF rfl) rfl (.eq rfl (by simp)) (.put (notF rfl) rfl (.eq rfl (by simp)) (.put (notF rfl) rfl (.rowDE rfl) (.put (notF rfl) rfl (.rowDE rfl) (.nil _)))))
    · have hpe : p = ps.length := by
        have h : ¬ (p : Int) < ((ps.map Prc.enc).length : Int) := h
        rw [List.length_map] at h
        omega
      subst hpe
      exact ⟨b, hM.fin, rfl, rfl⟩
set_option maxRecDepth 100000 in
theorem mark_okD (l : List Obj) (ops : List Opn) (ps : List Prc) (g : ∀ o, o ∈ l → o.sm) (hl : l.length ≤ 4194304) (ho : ops.length ≤ 4194304) (hpl : ps.length ≤ 4194304) (hps : ∀ p, p ∈ ps → p.slots.length ≤ 10) :
    ACall Try.prog 42 [.rv (.one (.ptr 0 0))] [.var [.dat (objsD l), .dat (opnD ops), .dat (prcD ps)]] (fun r m => ∃ b, MarkOK l ops ps b ∧ r = .rv (.one (.ptr 1 0)) ∧ m = [.var [.dat (objsD l), .dat (opnD ops), .dat (prcD ps)], .var [.ptr 0 0, .row 2 1 0 none, .row 3 1 0 none], .row 1 (dRows (b.O.map bE)), .row 1 (dRows (b.P.map bE))]) :=
  acall_body_g Try.func42 l42 rfl (Nat.le_of_ble_eq_true rfl) (mark_bodyD l ops ps g hl ho hpl hps)

theorem borrowMR {l : List Obj} {ops : List Opn} {ps : List Prc} {a : Mk} {f : Nat} {args args0 : List CV} {Q : Mk → Prop} (h : ACall Try.prog f args0 (M0R l ops ps a) (fun r m => ∃ b, Q b ∧ r = .tup [] ∧ m = M0R l ops ps b)) (X : Mem)
    (hargs : args = args0.map (CV.ren (sg [4, 0, 5, 6, 1, 2, 3] (7 + X.length)))) {K : CV → Mem → Prop} (hK : ∀ b, Q b → K (.tup []) ([.var [.row 1 9 0 none, .row 2 2 0 none, .row 3 4 0 none], .row 9 (dRows (l.map Obj.enc)), .row 2 (dRows (ops.map Opn.enc)), .row 4 (dRows (ps.map Prc.enc)), .var [.ptr 0 0, .row 5 1 0 none, .row 6 1 0 none], .row 1 (dRows (b.O.map bE)), .row 1 (dRows (b.P.map bE))] ++ X)) :
    ACall Try.prog f args ([.var [.row 1 9 0 none, .row 2 2 0 none, .row 3 4 0 none], .row 9 (dRows (l.map Obj.enc)), .row 2 (dRows (ops.map Opn.enc)), .row 4 (dRows (ps.map Prc.enc)), .var [.ptr 0 0, .row 5 1 0 none, .row 6 1 0 none], .row 1 (dRows (a.O.map bE)), .row 1 (dRows (a.P.map bE))] ++ X) K := by
  refine acall_borrow [4, 0, 5, 6, 1, 2, 3] (7 + X.length) (by simp; omega) rfl rfl (by simp [allLt] <;> omega) (args0 := args0) hargs (fun i b' hi => ?_) h (fun r m1 hr => ?_)
  · match i, hi with
    | 0, hi => cases hi; exact .inr ⟨fun h => h, _, rfl, .eq rfl (by simp)⟩
    | 1, hi => cases hi; exact .inr ⟨fun h => h, _, rfl, .eq rfl (by simp)⟩
    | 2, hi => cases hi; exact .inr ⟨fun h => h, _, rfl, .rowDE rfl⟩
    | 3, hi => cases hi; exact .inr ⟨fun h => h, _, rfl, .rowDE rfl⟩
    | 4, hi => cases hi; exact .inr ⟨fun h => h, _, rfl, .rowDE rfl⟩
    | 5, hi => cases hi; exact .inr ⟨fun h => h, _, rfl, .rowDE rfl⟩
    | 6, hi => cases hi; exact .inr ⟨fun h => h, _, rfl, .rowDE rfl⟩
    | n + 7, hi => simp [M0R] at hi
  · obtain ⟨b, hb, rfl, rfl⟩ := hr
    refine ⟨Nat.le_refl _, ?_⟩
    have e : ∀ (s : Nat) (ds : List (List Dt)), (Bk.row s (dRows ds)).ren (sg [4, 0, 5, 6, 1, 2, 3] (7 + X.length)) = .row s (dRows ds) := fun s ds => by simp only [Bk.ren, dRows_ren]
    have hk := hK b hb
    have hw : weave ([.var [.row 1 9 0 none, .row 2 2 0 none, .row 3 4 0 none], .row 9 (dRows (l.map Obj.enc)), .row 2 (dRows (ops.map Opn.enc)), .row 4 (dRows (ps.map Prc.enc)), .var [.ptr 0 0, .row 5 1 0 none, .row 6 1 0 none], .row 1 (dRows (a.O.map bE)), .row 1 (dRows (a.P.map bE))] ++ X) [4, 0, 5, 6, 1, 2, 3] (renM (sg [4, 0, 5, 6, 1, 2, 3] (7 + X.length)) (M0R l ops ps b)) = [.var [.row 1 9 0 none, .row 2 2 0 none, .row 3 4 0 none], .row 9 (dRows (l.map Obj.enc)), .row 2 (dRows (ops.map Opn.enc)), .row 4 (dRows (ps.map Prc.enc)), .var [.ptr 0 0, .row 5 1 0 none, .row 6 1 0 none], .row 1 (dRows (b.O.map bE)), .row 1 (dRows (b.P.map bE))] ++ X := by
      simp only [M0R, renM, e, weave, app2_eq, List.append_nil]
      rfl
    rw [hw]
    exact hk

set_option maxRecDepth 100000 in
set_option maxHeartbeats 32000000 in
theorem mark_bodyR (l : List Obj) (ops : List Opn) (ps : List Prc) (g : ∀ o, o ∈ l → o.sm) (hl : l.length ≤ 4194304) (ho : ops.length ≤ 4194304) (hpl : ps.length ≤ 4194304) (hps : ∀ p, p ∈ ps → p.slots.length ≤ 10) :
    body Try.prog c42 [.rv (.one (.ptr 0 0))] [.var [.row 1 9 0 none, .row 2 2 0 none, .row 3 4 0 none], .row 9 (dRows (l.map Obj.enc)), .row 2 (dRows (ops.map Opn.enc)), .row 4 (dRows (ps.map Prc.enc))] (fun r m => ∃ b, MarkOK l ops ps b ∧ r = .rv (.one (.ptr 4 0)) ∧ m = [.var [.row 1 9 0 none, .row 2 2 0 none, .row 3 4 0 none], .row 9 (dRows (l.map Obj.enc)), .row 2 (dRows (ops.map Opn.enc)), .row 4 (dRows (ps.map Prc.enc)), .var [.ptr 0 0, .row 5 1 0 none, .row 6 1 0 none], .row 1 (dRows (b.O.map bE)), .row 1 (dRows (b.P.map bE))]) := by
  refine ⟨?_, ?_⟩
  · skip
    refine bB_yes (Nat.beq_refl _) ?_
    refine ⟨(by show (dRows (l.map Obj.enc)).length * 1 ≤ _; rw [dRows_len, List.length_map]; omega), ⟨rfl, rfl, trivial⟩, ?_⟩
    refine bB_yes (Nat.beq_refl _) ?_
    refine ⟨(by show (dRows (ops.map Opn.enc)).length * 1 ≤ _; rw [dRows_len, List.length_map]; omega), ⟨rfl, rfl, trivial⟩, ?_⟩
    refine ⟨trivial, ?_⟩
    refine ghost_keep [0] [(3, .rv (.one (.ptr 4 0)))] ([.var [.row 1 9 0 none, .row 2 2 0 none, .row 3 4 0 none], .row 9 (dRows (l.map Obj.enc)), .row 2 (dRows (ops.map Opn.enc)), .row 4 (dRows (ps.map Prc.enc)), .var [.ptr 0 0, .row 5 1 0 none, .row 6 1 0 none], .row 1 (dRows ((emp l ops).O.map bE)), .row 1 (dRows ((emp l ops).P.map bE))]) (View.of 7 [0, 1, 2, 3, 6, 4, 5] [] rfl rfl rfl rfl rfl rfl ?_ ?_) ?_
    · repeat (first | exact .nil | refine .junk ?_ | refine .eq rfl ?_)
    · exact (.put (notF rfl) rfl (.eq rfl (by simp)) (.put (notF rfl) rfl (.rowDE rfl) (.put (notF rfl) rfl (.rowDE rfl) (.put (notF rfl) rfl (.rowDE rfl) (.put (notF rfl) rfl (.eq rfl (by simp)) (.put (notF rfl) rfl (.rowDE (by show repl (dRows (l.map Obj.enc)).length _ = _; rw [rep_rows, dRows_len, List.length_map]; rfl)) (.put (notF rfl) rfl (.rowDE (by show repl (dRows (ops.map Opn.enc)).length _ = _; rw [rep_rows, dRows_len, List.length_map]; rfl)) (.nil _))))))))
    refine borrowMR ((objcapDR l ops ps g ((emp l ops).mu + 1)).1 (emp l ops) 0 ⟨by simp [emp], by simp [emp]⟩ (Nat.lt_succ_self _)) [] rfl fun b0 hb0 => ?_
    refine loop_keep (fun (s : StK) => s.p ≤ ps.length ∧ MarkMid l ops ps s.b s.p 0) [3, 28, 29] (fun s => [(30, vInt .i64 (s.p : Nat))]) (fun s => [.var [.row 1 9 0 none, .row 2 2 0 none, .row 3 4 0 none], .row 9 (dRows (l.map Obj.enc)), .row 2 (dRows (ops.map Opn.enc)), .row 4 (dRows (ps.map Prc.enc)), .var [.ptr 0 0, .row 5 1 0 none, .row 6 1 0 none], .row 1 (dRows (s.b.O.map bE)), .row 1 (dRows (s.b.P.map bE))]) (fun s => ps.length - s.p) ⟨0, b0⟩ ⟨Nat.zero_le _, .start hb0⟩ ?_ (fun s hs => ?_)
    · refine View.of 7 [0, 1, 2, 3, 4, 5, 6] [] rfl rfl rfl rfl rfl rfl ?_ ?_
      · repeat (first | exact .nil | refine .junk ?_ | refine .eq rfl ?_)
      · exact (.put (notF rfl) rfl (.eq rfl (by simp)) (.put (notF rfl) rfl (.rowDE rfl) (.put (notF rfl) rfl (.rowDE rfl) (.put (notF rfl) rfl (.rowDE rfl) (.put (notF rfl) rfl (.eq rfl (by simp)) (.put (notF rfl) rfl (.rowDE rfl) (.put (notF rfl) rfl (.rowDE rfl) (.nil _))))))))
    obtain ⟨p, b⟩ := s
    obtain ⟨hp, hM⟩ := hs
    have hp : p ≤ ps.length := hp
    have hM : MarkMid l ops ps b p 0 := hM
    refine bB_dec (fun h => ?_) (fun h => ?_)
    · have hplt : p < ps.length := by
        have h : (p : Int) < ((dRows (ps.map Prc.enc)).length : Int) := h
        rw [dRows_len, List.length_map] at h
        omega
      refine ok_some (idxZ_nat (k := p) (by show p < (dRows (ps.map Prc.enc)).length; rw [dRows_len, List.length_map]; exact hplt)) ?_
      refine ok_some (dRows_nth' Prc.enc ps hplt) ?_
      have hpr := List.getElem?_eq_getElem hplt
      have hsl := hps _ (List.getElem_mem hplt)
      generalize ps[p] = pr at hpr hsl
      refine loop_keep (fun (s : StK) => s.p ≤ pr.slots.length ∧ MarkMid l ops ps s.b p s.p) [3, 5, 28, 29, 30, 35, 36] (fun s => [(37, vInt .i64 (s.p : Nat))]) (fun s => [.var [.row 1 9 0 none, .row 2 2 0 none, .row 3 4 0 none], .row 9 (dRows (l.map Obj.enc)), .row 2 (dRows (ops.map Opn.enc)), .row 4 (dRows (ps.map Prc.enc)), .var [.ptr 0 0, .row 5 1 0 none, .row 6 1 0 none], .row 1 (dRows (s.b.O.map bE)), .row 1 (dRows (s.b.P.map bE)), .var (pr.enc.map .dat)]) (fun s => pr.slots.length - s.p) ⟨0, b⟩ ⟨Nat.zero_le _, hM⟩ ?_ (fun s hs => ?_)
      · refine View.of 8 [0, 1, 2, 3, 4, 5, 6, 7] [] rfl rfl rfl rfl rfl rfl ?_ ?_
        · repeat (first | exact .nil | refine .junk ?_ | refine .eq rfl ?_)
        · exact (.put (notF rfl) rfl (.eq rfl (by simp)) (.put (notF rfl) rfl (.rowDE rfl) (.put (notF rfl) rfl (.rowDE rfl) (.put (notF rfl) rfl (.rowDE rfl) (.put (notF rfl) rfl (.eq rfl (by simp)) (.put (notF rfl) rfl (.rowDE rfl) (.put (notF rfl) rfl (.rowDE rfl) (.put (notF rfl) rfl (.eq rfl (by simp)) (.nil _)))))))))
      clear hM
      obtain ⟨j, b⟩ := s
      obtain ⟨hj, hM⟩ := hs
      have hj : j ≤ pr.slots.length := hj
      have hM : MarkMid l ops ps b p j := hM
      refine bB_dec (fun hjl => ?_) (fun hjl => ?_)
      · have hjlt : j < pr.slots.length := by
          have h : (j : Int) < ((pr.slots.map Sl3.enc).length : Int) := hjl
          rw [List.length_map] at h
          omega
        have hsj := List.getElem?_eq_getElem hjlt
        refine ok_some (sl3_get hjlt) ?_
        generalize pr.slots[j] = s at hsj
        refine bB_split (fun hlv => ?_) (fun hlv => ?_)
        · refine bB_split (fun hh => ?_) (fun hh => ?_)
          · refine borrowMR ((objcapDR l ops ps g (b.mu + 1)).2 b s.opn s.rts ⟨by have := hM.st.lo; simpa [emp] using this, by have := hM.st.lp; simpa [emp] using this⟩ (Nat.lt_succ_self _)) [_, _] rfl fun c hc => ?_
            refine ⟨⟨j + 1, c⟩, ⟨hjlt, hM.stepC hpr hlv hsj hh hc⟩, (show pr.slots.length - (j + 1) < pr.slots.length - j by omega), View.of 9 [0, 1, 2, 3, 4, 5, 6, 7] [] rfl rfl rfl rfl rfl rfl ?_ ?_⟩
            · repeat (first | exact .nil | refine .junk ?_ | refine .put (.ren (next_i64 (by omega)).symm) ?_ | refine .eq rfl ?_)
            · exact (.put (notF rfl) rfl (.eq rfl (by simp)) (.put (notF rfl) rfl (.rowDE rfl) (.put (notF rfl) rfl (.rowDE rfl) (.put (notF rfl) rfl (.rowDE rfl) (.put (notF rfl) rfl (.eq rfl (by simp)) (.put (notF rfl) rfl (.rowDE rfl) (.put (notF rfl) rfl (.rowDE rfl) (.put (notF rfl) rfl (.eq rfl (by simp)) (.nil _)))))))))
          · skip
            refine ⟨⟨j + 1, b⟩, ⟨hjlt, hM.skip hpr hsj (fun _ => hh)⟩, (show pr.slots.length - (j + 1) < pr.slots.length - j by omega), View.of 9 [0, 1, 2, 3, 4, 5, 6, 7] [] rfl rfl rfl rfl rfl rfl ?_ ?_⟩
            · repeat (first | exact .nil | refine .junk ?_ | refine .put (.ren (next_i64 (by omega)).symm) ?_ | refine .eq rfl ?_)
            · exact (.put (notF rfl) rfl (.eq rfl (by simp)) (.put (notF rfl) rfl (.rowDE rfl) (.put (notF rfl) rfl (.rowDE rfl) (.put (notF rfl) rfl (.rowDE rfl) (.put (notF rfl) rfl (.eq rfl (by simp)) (.put (notF rfl) rfl (.rowDE rfl) (.put (notF rfl) rfl (.rowDE rfl) (.put (notF rfl) rfl (.eq rfl (by simp)) (.nil _)))))))))
        · skip
          refine ⟨⟨j + 1, b⟩, ⟨hjlt, hM.skip hpr hsj (fun h => absurd (h.symm.trans hlv) (by simp))⟩, (show pr.slots.length - (j + 1) < pr.slots.length - j by omega), View.of 9 [0, 1, 2, 3, 4, 5, 6, 7] [] rfl rfl rfl rfl rfl rfl ?_ ?_⟩
          · repeat (first | exact .nil | refine .junk ?_ | refine .put (.ren (next_i64 (by omega)).symm) ?_ | refine .eq rfl ?_)
          · exact (.put (notF rfl) rfl (.eq rfl (by simp)) (.put (notF rfl) rfl (.rowDE rfl) (.put (notF rfl) rfl (.rowDE rfl) (.put (notF rfl) rfl (.rowDE rfl) (.put (notF rfl) rfl (.eq rfl (by simp)) (.put (notF rfl) rfl (.rowDE rfl) (.put (notF rfl) rfl (.rowDE rfl) (.put (notF rfl) rfl (.eq rfl (by simp)) (.nil _)))))))))
      · have hje : j = pr.slots.length := by
          have h : ¬ (j : Int) < ((pr.slots.map Sl3.enc).length : Int) := hjl
          rw [List.length_map] at h
          omega
        subst hje
        refine ⟨⟨p + 1, b⟩, ⟨hplt, hM.next hpr⟩, (show ps.length - (p + 1) < ps.length - p by omega), View.of 8 [0, 1, 2, 3, 4, 5, 6] [] rfl rfl rfl rfl rfl rfl ?_ ?_⟩
        · repeat (first | exact .nil | refine .junk ?_ | refine .put (.ren (next_i64 (by omega)).symm) ?_ | refine .eq rfl ?_)
        · exact (.put (notF rfl) rfl (.eq rfl (by simp)) (.put (notF rfl) rfl (.rowDE rfl) (.put (notF rfl) rfl (.rowDE rfl) (.put (notF rfl) rfl (.rowDE rfl) (.put (notF rfl) rfl (.eq rfl (by simp)) (.put (notF rfl) rfl (.rowDE rfl) (.put (notF rfl) rfl (.rowDE rfl) (.nil _))))))))
    · have hpe : p = ps.length := by
        have h : ¬ (p : Int) < ((dRows (ps.map Prc.enc)).length : Int) := h
        rw [dRows_len, List.length_map] at h
        omega
      subst hpe
      exact ⟨b, hM.fin, rfl, rfl⟩
  · skip
    refine bB_yes (Nat.beq_refl _) ?_
    refine ⟨(by show (dRows (ops.map Opn.enc)).length * 1 ≤ _; rw [dRows_len, List.length_map]; omega), ⟨rfl, rfl, trivial⟩, ?_⟩
    refine bB_yes (Nat.beq_refl _) ?_
    refine ⟨(by show (dRows (l.map Obj.enc)).length * 1 ≤ _; rw [dRows_len, List.length_map]; omega), ⟨rfl, rfl, trivial⟩, ?_⟩
    refine ⟨trivial, ?_⟩
    refine ghost_keep [0] [(3, .rv (.one (.ptr 4 0)))] ([.var [.row 1 9 0 none, .row 2 2 0 none, .row 3 4 0 none], .row 9 (dRows (l.map Obj.enc)), .row 2 (dRows (ops.map Opn.enc)), .row 4 (dRows (ps.map Prc.enc)), .var [.ptr 0 0, .row 5 1 0 none, .row 6 1 0 none], .row 1 (dRows ((emp l ops).O.map bE)), .row 1 (dRows ((emp l ops).P.map bE))]) (View.of 7 [0, 1, 2, 3, 6, 5, 4] [] rfl rfl rfl rfl rfl rfl ?_ ?_) ?_
    · repeat (first | exact .nil | refine .junk ?_ | refine .eq rfl ?_)
    · exact (.put (notF rfl) rfl (.eq rfl (by simp)) (.put (notF rfl) rfl (.rowDE rfl) (.put (notF rfl) rfl (.rowDE rfl) (.put (notF rfl) rfl (.rowDE rfl) (.put (notF rfl) rfl (.eq rfl (by simp)) (.put (notF rfl) rfl (.rowDE (by show repl (dRows (l.map Obj.enc)).length _ = _; rw [rep_rows, dRows_len, List.length_map]; rfl)) (.put (notF rfl) rfl (.rowDE (by show repl (dRows (ops.map Opn.enc)).length _ = _; rw [rep_rows, dRows_len, List.length_map]; rfl)) (.nil _))))))))
    refine borrowMR ((objcapDR l ops ps g ((emp l ops).mu + 1)).1 (emp l ops) 0 ⟨by simp [emp], by simp [emp]⟩ (Nat.lt_succ_self _)) [] rfl fun b0 hb0 => ?_
    refine loop_keep (fun (s : StK) => s.p ≤ ps.length ∧ MarkMid l ops ps s.b s.p 0) [3, 28, 29] (fun s => [(30, vInt .i64 (s.p : Nat))]) (fun s => [.var [.row 1 9 0 none, .row 2 2 0 none, .row 3 4 0 none], .row 9 (dRows (l.map Obj.enc)), .row 2 (dRows (ops.map Opn.enc)), .row 4 (dRows (ps.map Prc.enc)), .var [.ptr 0 0, .row 5 1 0 none, .row 6 1 0 none], .row 1 (dRows (s.b.O.map bE)), .row 1 (dRows (s.b.P.map bE))]) (fun s => ps.length - s.p) ⟨0, b0⟩ ⟨Nat.zero_le _, .start hb0⟩ ?_ (fun s hs => ?_)
    · refine View.of 7 [0, 1, 2, 3, 4, 5, 6] [] rfl rfl rfl rfl rfl rfl ?_ ?_
      · repeat (first | exact .nil | refine .junk ?_ | refine .eq rfl ?_)
      · exact (.put (notF rfl) rfl (.eq rfl (by simp)) (.put (notF rfl) rfl (.rowDE rfl) (.put (notF rfl) rfl (.rowDE rfl) (.put (notF rfl) rfl (.rowDE rfl) (.put (notF rfl) rfl (.eq rfl (by simp)) (.put (notF rfl) rfl (.rowDE rfl) (.put (notF rfl) rfl (.rowDE rfl) (.nil _))))))))
    obtain ⟨p, b⟩ := s
    obtain ⟨hp, hM⟩ := hs
    have hp : p ≤ ps.length := hp
    have hM : MarkMid l ops ps b p 0 := hM
    refine bB_dec (fun h => ?_) (fun h => ?_)
    · have hplt : p < ps.length := by
        have h : (p : Int) < ((dRows (ps.map Prc.enc)).length : Int) := h
        rw [dRows_len, List.length_map] at h
        omega
      refine ok_some (idxZ_nat (k := p) (by show p < (dRows (ps.map Prc.enc)).length; rw [dRows_len, List.length_map]; exact hplt)) ?_
      refine ok_some (dRows_nth' Prc.enc ps hplt) ?_
      have hpr := List.getElem?_eq_getElem hplt
      have hsl := hps _ (List.getElem_mem hplt)
      generalize ps[p] = pr at hpr hsl
      refine loop_keep (fun (s : StK) => s.p ≤ pr.slots.length ∧ MarkMid l ops ps s.b p s.p) [3, 5, 28, 29, 30, 35, 36] (fun s => [(37, vInt .i64 (s.p : Nat))]) (fun s => [.var [.row 1 9 0 none, .row 2 2 0 none, .row 3 4 0 none], .row 9 (dRows (l.map Obj.enc)), .row 2 (dRows (ops.map Opn.enc)), .row 4 (dRows (ps.map Prc.enc)), .var [.ptr 0 0, .row 5 1 0 none, .row 6 1 0 none], .row 1 (dRows (s.b.O.map bE)), .row 1 (dRows (s.b.P.map bE)), .var (pr.enc.map .dat)]) (fun s => pr.slots.length - s.p) ⟨0, b⟩ ⟨Nat.zero_le _, hM⟩ ?_ (fun s hs => ?_)
      · refine View.of 8 [0, 1, 2, 3, 4, 5, 6, 7] [] rfl rfl rfl rfl rfl rfl ?_ ?_
        · repeat (first | exact .nil | refine .junk ?_ | refine .eq rfl ?_)
        · exact (.put (notF rfl) rfl (.eq rfl (by simp)) (.put (notF rfl) rfl (.rowDE rfl) (.put (notF rfl) rfl (.rowDE rfl) (.put (notF rfl) rfl (.rowDE rfl) (.put (notF rfl) rfl (.eq rfl (by simp)) (.put (notF rfl) rfl (.rowDE rfl) (.put (notF rfl) rfl (.rowDE rfl) (.put (notF rfl) rfl (.eq rfl (by simp)) (.nil _)))))))))
      clear hM
      obtain ⟨j, b⟩ := s
      obtain ⟨hj, hM⟩ := hs
      have hj : j ≤ pr.slots.length := hj
      have hM : MarkMid l ops ps b p j := hM
      refine bB_dec (fun hjl => ?_) (fun hjl => ?_)
      · have hjlt : j < pr.slots.length := by
          have h : (j : Int) < ((pr.slots.map Sl3.enc).length : Int) := hjl
          rw [List.length_map] at h
          omega
        have hsj := List.getElem?_eq_getElem hjlt
        refine ok_some (sl3_get hjlt) ?_
        generalize pr.slots[j] = s at hsj
        refine bB_split (fun hlv => ?_) (fun hlv => ?_)
        · refine bB_split (fun hh => ?_) (fun hh => ?_)
          · refine borrowMR ((objcapDR l ops ps g (b.mu + 1)).2 b s.opn s.rts ⟨by have := hM.st.lo; simpa [emp] using this, by have := hM.st.lp; simpa [emp] using this⟩ (Nat.lt_succ_self _)) [_, _] rfl fun c hc => ?_
            refine ⟨⟨j + 1, c⟩, ⟨hjlt, hM.stepC hpr hlv hsj hh hc⟩, (show pr.slots.length - (j + 1) < pr.slots.length - j by omega), View.of 9 [0, 1, 2, 3, 4, 5, 6, 7] [] rfl rfl rfl rfl rfl rfl ?_ ?_⟩
            · repeat (first | exact .nil | refine .junk ?_ | refine .put (.ren (next_i64 (by omega)).symm) ?_ | refine .eq rfl ?_)
            · exact (.put (notF rfl) rfl (.eq rfl (by simp)) (.put (notF rfl) rfl (.rowDE rfl) (.put (notF rfl) rfl (.rowDE rfl) (.put (notF rfl) rfl (.rowDE rfl) (.put (notF rfl) rfl (.eq rfl (by simp)) (.put (notF rfl) rfl (.rowDE rfl) (.put (notF rfl) rfl (.rowDE rfl) (.put (notF rfl) rfl (.eq rfl (by simp)) (.nil _)))))))))
          · skip
            refine ⟨⟨j + 1, b⟩, ⟨hjlt, hM.skip hpr hsj (fun _ => hh)⟩, (show pr.slots.length - (j + 1) < pr.slots.length - j by omega), View.of 9 [0, 1, 2, 3, 4, 5, 6, 7] [] rfl rfl rfl rfl rfl rfl ?_ ?_⟩
            · repeat (first | exact .nil | refine .junk ?_ | refine .put (.ren (next_i64 (by omega)).symm) ?_ | refine .eq rfl ?_)
            · exact (.put (notF rfl) rfl (.eq rfl (by simp)) (.put (notF rfl) rfl (.rowDE rfl) (.put (notF rfl) rfl (.rowDE rfl) (.put (notF rfl) rfl (.rowDE rfl) (.put (notF rfl) rfl (.eq rfl (by simp)) (.put (notF rfl) rfl (.rowDE rfl) (.put (notF rfl) rfl (.rowDE rfl) (.put (notF rfl) rfl (.eq rfl (by simp)) (.nil _)))))))))
        · skip
          refine ⟨⟨j + 1, b⟩, ⟨hjlt, hM.skip hpr hsj (fun h => absurd (h.symm.trans hlv) (by simp))⟩, (show pr.slots.length - (j + 1) < pr.slots.length - j by omega), View.of 9 [0, 1, 2, 3, 4, 5, 6, 7] [] rfl rfl rfl rfl rfl rfl ?_ ?_⟩
          · repeat (first | exact .nil | refine .junk ?_ | refine .put (.ren (next_i64 (by omega)).symm) ?_ | refine .eq rfl ?_)
          · exact (.put (notF rfl) rfl (.eq rfl (by simp)) (.put (notF rfl) rfl (.rowDE rfl) (.put (notF rfl) rfl (.rowDE rfl) (.put (notF rfl) rfl (.rowDE rfl) (.put (notF rfl) rfl (.eq rfl (by simp)) (.put (notF rfl) rfl (.rowDE rfl) (.put (notF rfl) rfl (.rowDE rfl) (.put (notF rfl) rfl (.eq rfl (by simp)) (.nil _)))))))))
      · have hje : j = pr.slots.length := by
          have h : ¬ (j : Int) < ((pr.slots.map Sl3.enc).length : Int) := hjl
          rw [List.length_map] at h
          omega
        subst hje
        refine ⟨⟨p + 1, b⟩, ⟨hplt, hM.next hpr⟩, (show ps.length - (p + 1) < ps.length - p by omega), View.of 8 [0, 1, 2, 3, 4, 5, 6] [] rfl rfl rfl rfl rfl rfl ?_ ?_⟩
        · repeat (first | exact .nil | refine .junk ?_ | refine .put (.ren (next_i64 (by omega)).symm) ?_ | refine .eq rfl ?_)
        · exact (.put (notF rfl) rfl (.eq rfl (by simp)) (.put (notF rfl) rfl (.rowDE rfl) (.put (notF rfl) rfl (.rowDE rfl) (.put (notF rfl) rfl (.rowDE rfl) (.put (notF rfl) rfl (.eq rfl (by simp)) (.put (notF rfl) rfl (.rowDE rfl) (.put (notF rfl) rfl (.rowDE rfl) (.nil _))))))))
    · have hpe : p = ps.length := by
        have h : ¬ (p : Int) < ((dRows (ps.map Prc.enc)).length : Int) := h
        rw [dRows_len, List.length_map] at h
        omega
      subst hpe
      exact ⟨b, hM.fin, rfl, rfl⟩
set_option maxRecDepth 100000 in
theorem mark_okR (l : List Obj) (ops : List Opn) (ps : List Prc) (g : ∀ o, o ∈ l → o.sm) (hl : l.length ≤ 4194304) (ho : ops.length ≤ 4194304) (hpl : ps.length ≤ 4194304) (hps : ∀ p, p ∈ ps → p.slots.length ≤ 10) :
    ACall Try.prog 42 [.rv (.one (.ptr 0 0))] [.var [.row 1 9 0 none, .row 2 2 0 none, .row 3 4 0 none], .row 9 (dRows (l.map Obj.enc)), .row 2 (dRows (ops.map Opn.enc)), .row 4 (dRows (ps.map Prc.enc))] (fun r m => ∃ b, MarkOK l ops ps b ∧ r = .rv (.one (.ptr 4 0)) ∧ m = [.var [.row 1 9 0 none, .row 2 2 0 none, .row 3 4 0 none], .row 9 (dRows (l.map Obj.enc)), .row 2 (dRows (ops.map Opn.enc)), .row 4 (dRows (ps.map Prc.enc)), .var [.ptr 0 0, .row 5 1 0 none, .row 6 1 0 none], .row 1 (dRows (b.O.map bE)), .row 1 (dRows (b.P.map bE))]) :=
  acall_body_g Try.func42 l42 rfl (Nat.le_of_ble_eq_true rfl) (mark_bodyR l ops ps g hl ho hpl hps)


def c20 : LF := ⟨25, [.tmp 2], (.seq (.reg [
    ⟨(some 1), .box (.t 0), none⟩,
    ⟨(some 2), .mov (.c (.rv (.one .esl))), none⟩]) (.seq (.reg [
    ⟨(some 7), .call (.c (.rv (.one (.fn 42 [])))) [(.t 1)], none⟩,
    ⟨(some 3), .mov (.t 7), none⟩]) (.seq (.reg [
    ⟨(some 4), .mov (.c (.rv (.one .esl))), none⟩]) (.seq (.seq (.reg [
    ⟨(some 8), .mov (.t 3), none⟩,
    ⟨(some 9), .nilc (.t 8), none⟩,
    ⟨(some 10), .fadr 1 (.t 9), none⟩,
    ⟨(some 11), .load false 1 (.t 10), none⟩,
    ⟨(some 12), .len 1 (.t 11), none⟩,
    ⟨(some 13), .mov (.c (.rv (.one (.dat (.val (.int .i64 (0))))))), none⟩]) (.block 0 (.loop (.seq (.reg [
    ⟨(some 14), .bin .lss (.t 13) (.t 12), none⟩]) (.seq (.cond (.t 14) .skip (.exit 0)) (.seq (.block 1 (.seq (.reg [
    ⟨(some 15), .mov (.t 13), none⟩,
    ⟨(some 16), .idx 1 (.t 11) (.t 13), none⟩,
    ⟨(some 17), .load false 1 (.t 16), none⟩,
    ⟨(some 5), .mov (.t 15), none⟩,
    ⟨(some 6), .mov (.t 17), none⟩]) (.seq (.reg [
    ⟨(some 18), .mov (.t 6), none⟩]) (.cond (.t 18) (.reg [
    ⟨(some 19), .mov (.t 4), none⟩,
    ⟨(some 20), .mov (.t 5), none⟩,
    ⟨(some 21), .bsl 1 [(.dat (.val (.int .i64 (0))))] 1 [(0, (.t 20))], none⟩,
    ⟨(some 22), .app 1 8 (.t 19) (.t 21), none⟩,
    ⟨(some 4), .mov (.t 22), none⟩]) .skip)))) (.reg [
    ⟨(some 23), .bin .add (.t 13) (.c (.rv (.one (.dat (.val (.int .i64 (1))))))), none⟩,
    ⟨(some 13), .mov (.t 23), none⟩]))))))) (.seq (.reg [
    ⟨(some 24), .mov (.t 4), none⟩,
    ⟨(some 2), .mov (.t 24), none⟩]) .ret)))))⟩
/-! sweep.Reach -/
def idxsB (L : List Bool) (i : Nat) : List Nat := (List.range i).filter fun k => L[k]? == some true
theorem idxsB_succ (L : List Bool) (i : Nat) : idxsB L (i + 1) = idxsB L i ++ (if L[i]? = some true then [i] else []) := by
  unfold idxsB
  rw [List.range_succ, List.filter_append]
  by_cases h : L[i]? = some true
  · simp [h]
  · simp [h]
theorem idxsB_len (L : List Bool) (i : Nat) : (idxsB L i).length ≤ i := by
  unfold idxsB
  exact Nat.le_trans (List.length_filter_le _ _) (by simp)
def nE (k : Nat) : List Dt := [.val (.int .i64 (k : Nat))]
def natsR (l : List Nat) : RV := .one (.dat (.sl 1 (l.map nE)))
def natsV (l : List Nat) : CV := .rv (natsR l)
theorem l20 : lowF Try.prog Try.f20 = some c20 := by kernel_rfl
set_option maxRecDepth 100000 in
set_option maxHeartbeats 16000000 in
theorem sreach_body (l : List Obj) (ops : List Opn) (ps : List Prc) (g : ∀ o, o ∈ l → o.sm) (hl : l.length ≤ 4194304) (ho : ops.length ≤ 4194304) (hpl : ps.length ≤ 4194304) (hps : ∀ p, p ∈ ps → p.slots.length ≤ 10) :
    body Try.prog c20 [kernV l ops ps] [] (fun r m => ∃ b, MarkOK l ops ps b ∧ FrzV m r (natsV (idxsB b.O l.length))) := by
  refine acall_view (mark_okD l ops ps g hl ho hpl hps) fun r m1 ⟨b, hb, hr, hm⟩ => ?_
  subst hr hm
  refine ⟨_, _, View.refl (by simp), ?_⟩
  have hbO := hb.len.1
  refine loop_keep (fun i => i ≤ l.length) [3, 11, 12] (fun i => [(13, vInt .i64 (i : Nat)), (4, .rv (.one (.row 4 1 0 none)))]) (fun i => [.dead, .dead, .row 1 (dRows (b.O.map bE)), .dead, .row 1 (dRows ((idxsB b.O i).map nE))]) (fun i => l.length - i) 0 (Nat.zero_le _) ?_ (fun i hi => ?_)
  · refine View.trans (View.esl 4 1 4 rfl rfl rfl) (View.of 5 [0, 1, 2, 3, 4] [] rfl rfl rfl rfl rfl rfl ?_ ?_)
    · repeat (first | exact .nil | refine .junk ?_ | refine .eq rfl ?_)
    · exact .dead (.dead (.put (notF rfl) rfl (.rowDE rfl) (.dead (.put (notF rfl) rfl (.rowDE rfl) (.nil _)))))
  have hi : i ≤ l.length := hi
  refine bB_dec (fun h => ?_) (fun h => ?_)
  · have hlt : i < b.O.length := by
      have h : (i : Int) < ((dRows (b.O.map bE)).length : Int) := h
      rw [dRows_len, List.length_map] at h
      omega
    have hil := idxsB_len b.O i
    refine ok_some (b_idx hlt) ?_
    refine ok_some (bO_get hlt) ?_
    have hs := idxsB_succ b.O i
    rw [List.getElem?_eq_getElem hlt] at hs
    refine bB_split (fun h2 => ?_) (fun h2 => ?_)
    · rw [h2, if_pos rfl] at hs
      refine ⟨by have e := dRows_len ((idxsB b.O i).map nE); rw [List.length_map] at e; simp only [subL, List.length_cons, List.length_nil]; omega, ?_⟩
      refine ⟨i + 1, (show i + 1 ≤ l.length by omega), (show l.length - (i + 1) < l.length - i by omega), View.of 7 [0, 1, 2, 3, 6] [] rfl rfl rfl rfl rfl rfl ?_ ?_⟩
      · repeat (first | exact .nil | refine .junk ?_ | refine .put (.ren (next_i64 (by omega)).symm) ?_ | refine .eq rfl ?_)
      · exact .dead (.dead (.put (notF rfl) rfl (.rowDE rfl) (.dead (.put (notF rfl) rfl (.rowDE (by rw [hs]; simp [subL, dRows, nE])) (.nil _)))))
    · rw [h2, if_neg (by simp), List.append_nil] at hs
      refine ⟨i + 1, (show i + 1 ≤ l.length by omega), (show l.length - (i + 1) < l.length - i by omega), View.of 5 [0, 1, 2, 3, 4] [] rfl rfl rfl rfl rfl rfl ?_ ?_⟩
      · repeat (first | exact .nil | refine .junk ?_ | refine .put (.ren (next_i64 (by omega)).symm) ?_ | refine .eq rfl ?_)
      · exact .dead (.dead (.put (notF rfl) rfl (.rowDE rfl) (.dead (.put (notF rfl) rfl (.rowDE (by rw [hs])) (.nil _)))))
  · have hie : i = l.length := by
      have h : ¬ (i : Int) < ((dRows (b.O.map bE)).length : Int) := h
      rw [dRows_len, List.length_map] at h
      omega
    subst hie
    exact ⟨b, hb, .rv (.one (FrzC.rowD rfl 0 none))⟩
set_option maxRecDepth 100000 in
theorem sreach_ok (l : List Obj) (ops : List Opn) (ps : List Prc) (g : ∀ o, o ∈ l → o.sm) (hl : l.length ≤ 4194304) (ho : ops.length ≤ 4194304) (hpl : ps.length ≤ 4194304) (hps : ∀ p, p ∈ ps → p.slots.length ≤ 10) {m : Mem} {K : CV → Mem → Prop}
    (h : ∀ b, MarkOK l ops ps b → K (natsV (idxsB b.O l.length)) m) : ACall Try.prog 20 [kernV l ops ps] m K := by
  refine acall_frame (K0 := fun r m => ∃ b, MarkOK l ops ps b ∧ FrzV m r (natsV (idxsB b.O l.length))) (acall_body Try.func20 l20 rfl (Nat.le_of_ble_eq_true rfl) (sreach_body l ops ps g hl ho hpl hps)) (by simp [kernV, objsD, opnD, prcD, CV.isD, CC.isD, RV.isD]) fun r m1 hr => ?_
  obtain ⟨b, hb, hf⟩ := hr
  exact ⟨_, hf, h b hb⟩

def c22 : LF := ⟨32, [.cell true 3 2], (.seq (.reg [
    ⟨(some 1), .box (.t 0), none⟩,
    ⟨(some 2), .alloc [.esl, .esl, .esl], none⟩]) (.seq (.draw [
    ⟨(some 6), .fadr 0 (.t 1), none⟩,
    ⟨(some 7), .load false 1 (.t 6), none⟩,
    ⟨(some 8), .call (.c (.rv (.one (.fn 43 [])))) [(.t 7)], none⟩,
    ⟨(some 9), .fadr 1 (.t 1), none⟩,
    ⟨(some 10), .load false 1 (.t 9), none⟩,
    ⟨(some 11), .call (.c (.rv (.one (.fn 44 [])))) [(.t 10)], none⟩,
    ⟨(some 12), .build [.esl, .esl, .esl] [(0, 1, (.t 8)), (1, 1, (.t 11))], none⟩,
    ⟨(some 3), .alloc [.esl, .esl, .esl], none⟩,
    ⟨none, .store 3 (.t 3) (.t 12), none⟩]
    [(.cons 0 none (.cons 1 none (.cons 3 none (.cons 4 none (.alt (.cons 2 (some [4]) (.alt (.cons 5 (some []) (.cons 6 none (.cons 7 (some [4, 1]) (.cons 8 (some []) .nil)))) (.cons 7 (some [4, 1]) (.cons 5 (some []) (.cons 6 none (.cons 8 (some []) .nil)))))) (.cons 7 (some [4, 1]) (.cons 2 (some [4]) (.cons 5 (some []) (.cons 6 none (.cons 8 (some []) .nil))))))))))]) (.seq (.seq (.reg [
    ⟨(some 13), .fadr 2 (.t 1), none⟩,
    ⟨(some 14), .load false 1 (.t 13), none⟩,
    ⟨(some 15), .len 1 (.t 14), none⟩,
    ⟨(some 16), .mov (.c (.rv (.one (.dat (.val (.int .i64 (0))))))), none⟩]) (.block 0 (.loop (.seq (.reg [
    ⟨(some 17), .bin .lss (.t 16) (.t 15), none⟩]) (.seq (.cond (.t 17) .skip (.exit 0)) (.seq (.block 1 (.seq (.reg [
    ⟨(some 18), .idx 4 (.t 14) (.t 16), none⟩,
    ⟨(some 19), .load true 4 (.t 18), none⟩,
    ⟨(some 5), .alloc [(.dat (.val (.bool false))), (.dat (.val (.bool false))), (.dat (.val (.int .i64 (0)))), .esl], none⟩,
    ⟨none, .store 4 (.t 5) (.t 19), none⟩]) (.seq (.reg [
    ⟨(some 20), .fadr 3 (.t 5), none⟩,
    ⟨(some 21), .load false 1 (.t 20), none⟩,
    ⟨(some 22), .call (.c (.rv (.one (.fn 34 [])))) [(.t 21)], none⟩,
    ⟨(some 23), .fadr 3 (.t 5), none⟩,
    ⟨none, .store 1 (.t 23) (.t 22), none⟩]) (.reg [
    ⟨(some 24), .fadr 2 (.t 3), none⟩,
    ⟨(some 25), .load false 1 (.t 24), none⟩,
    ⟨(some 26), .load true 4 (.t 5), none⟩,
    ⟨(some 27), .bsl 4 [(.dat (.val (.bool false))), (.dat (.val (.bool false))), (.dat (.val (.int .i64 (0)))), .esl] 1 [(0, (.t 26))], none⟩,
    ⟨(some 28), .app 4 40 (.t 25) (.t 27), none⟩,
    ⟨(some 29), .fadr 2 (.t 3), none⟩,
    ⟨none, .store 1 (.t 29) (.t 28), none⟩])))) (.reg [
    ⟨(some 30), .bin .add (.t 16) (.c (.rv (.one (.dat (.val (.int .i64 (1))))))), none⟩,
    ⟨(some 16), .mov (.t 30), none⟩]))))))) (.seq (.reg [
    ⟨(some 31), .load true 3 (.t 3), none⟩,
    ⟨none, .store 3 (.t 2) (.t 31), none⟩]) .ret))))⟩
def c34 : LF := ⟨8, [.tmp 2], (.seq (.reg [
    ⟨(some 2), .mov (.c (.rv (.one .esl))), none⟩]) (.seq (.seq (.reg [
    ⟨(some 3), .mov (.t 0), none⟩,
    ⟨(some 4), .snil false (.t 3), none⟩]) (.cond (.t 4) (.seq (.reg [
    ⟨(some 2), .mov (.c (.rv (.one .esl))), none⟩]) .ret) .skip)) (.seq (.reg [
    ⟨(some 5), .bsl 3 [(.dat (.val (.bool false))), (.dat (.val (.int .i64 (0)))), (.dat (.val (.int .i64 (0))))] 0 [], none⟩,
    ⟨(some 6), .mov (.t 0), none⟩,
    ⟨(some 7), .app 3 24 (.t 5) (.t 6), none⟩,
    ⟨(some 2), .mov (.t 7), none⟩]) .ret)))⟩
def c44 : LF := ⟨8, [.tmp 2], (.seq (.reg [
    ⟨(some 2), .mov (.c (.rv (.one .esl))), none⟩]) (.seq (.seq (.reg [
    ⟨(some 3), .mov (.t 0), none⟩,
    ⟨(some 4), .snil false (.t 3), none⟩]) (.cond (.t 4) (.seq (.reg [
    ⟨(some 2), .mov (.c (.rv (.one .esl))), none⟩]) .ret) .skip)) (.seq (.reg [
    ⟨(some 5), .bsl 2 [(.dat (.val (.int .i64 (0)))), (.dat (.val (.int .i64 (0))))] 0 [], none⟩,
    ⟨(some 6), .mov (.t 0), none⟩,
    ⟨(some 7), .app 2 16 (.t 5) (.t 6), none⟩,
    ⟨(some 2), .mov (.t 7), none⟩]) .ret)))⟩
/-! sweep.Own -/
theorem rowsO_all : ∀ (l : List Obj) (p Q k : Nat), k + l.length ≤ p → rowsO p Q k l = dRows (l.map Obj.enc)
  | [], _, _, _, _ => rfl
  | o :: r, p, Q, k, h => by
    have ih := rowsO_all r p Q (k + 1) (by simp at h; omega)
    have hk : ¬ k = p := by simp at h; omega
    simp only [rowsO, ih, rowO, if_neg hk]
    rfl
theorem qbO_none (l : List Obj) : qbO l l.length l.length = .dead := by
  have : Nat.blt l.length l.length = false := by
    cases h : Nat.blt l.length l.length
    · rfl
    · rw [Nat.blt_eq] at h; omega
  unfold qbO
  rw [this]
theorem l44 : lowF Try.prog Try.f44 = some c44 := by kernel_rfl
theorem l34 : lowF Try.prog Try.f34 = some c34 := by kernel_rfl
theorem l22 : lowF Try.prog Try.f22 = some c22 := by kernel_rfl
set_option maxRecDepth 100000 in
theorem oclone_body (ops : List Opn) (ho : ops.length ≤ 4194304) : body Try.prog c44 [.rv (.one (.dat (opnD ops)))] [] (fun r m => ∃ r' m', View 0 ⟨[r], m⟩ ⟨[r'], m'⟩ ∧ r' = .rv (.one (.row 0 2 0 none)) ∧ m' = [.row 2 (dRows (ops.map Opn.enc))]) := by
  have big : ((([] : List (List CC)).length + ((ops.map Opn.enc).map fun ds => ds.map CC.dat).length) * 16) ≤ 140737488355328 := by simp; omega
  have fin : ∃ r' m', View 0 ⟨[CV.rv (.one (.row 1 2 0 none))], [.dead, .row 2 (subL ([] : List (List CC)) 0 none ++ (ops.map Opn.enc).map fun ds => ds.map CC.dat)]⟩ ⟨[r'], m'⟩ ∧ r' = CV.rv (.one (.row 0 2 0 none)) ∧ m' = [Bk.row 2 (dRows (ops.map Opn.enc))] :=
    ⟨_, _, View.of 2 [1] [] rfl rfl rfl rfl rfl rfl (.eq rfl .nil) (.put (notF rfl) rfl (.rowDE rfl) (.nil _)), rfl, rfl⟩
  refine bB_split (fun h => ?_) (fun h => ?_)
  · have hd : ops = [] := List.eq_nil_of_length_eq_zero (by simpa using Nat.eq_of_beq_eq_true h)
    refine ⟨?_, big, fin⟩
    subst hd
    exact ⟨_, _, View.esl 0 2 0 rfl rfl rfl, rfl, rfl⟩
  · exact ⟨big, fin⟩
set_option maxRecDepth 100000 in
theorem oclone_ok (ops : List Opn) (ho : ops.length ≤ 4194304) {m : Mem} {K : CV → Mem → Prop} (h : K (.rv (.one (.row m.length 2 0 none))) (m ++ [.row 2 (dRows (ops.map Opn.enc))])) : ACall Try.prog 44 [.rv (.one (.dat (opnD ops)))] m K := by
  refine acall_borrow [] m.length rfl rfl rfl rfl (args0 := [.rv (.one (.dat (opnD ops)))]) rfl (fun i b' hi => by simp at hi) (K0 := fun r m => r = .rv (.one (.row 0 2 0 none)) ∧ m = [.row 2 (dRows (ops.map Opn.enc))]) (acall_view (acall_body Try.func44 l44 rfl (Nat.le_of_ble_eq_true rfl) (oclone_body ops ho)) fun r m1 h => h) (fun r m1 hr => ?_)
  obtain ⟨rfl, rfl⟩ := hr
  refine ⟨Nat.zero_le _, ?_⟩
  show K (.rv (.one (.row (m.length + (0 - 0)) 2 0 none))) (app2 m [.row 2 ((dRows (ops.map Opn.enc)).map (fun cs => cs.map (CC.ren (sg [] m.length))))])
  rw [dRows_ren, app2_eq]
  exact h
set_option maxRecDepth 100000 in
theorem sclone_body (d : List Sl3) (hb : d.length ≤ 4194304) : body Try.prog c34 [sl3V d] [] (fun r m => FrzV m r (sl3V d)) := by
  have big : ((([] : List (List CC)).length + ((d.map Sl3.enc).map fun ds => ds.map CC.dat).length) * 24) ≤ 140737488355328 := by simp; omega
  refine bB_split (fun h => ?_) (fun h => ?_)
  · have hd : d = [] := List.eq_nil_of_length_eq_zero (by simpa using Nat.eq_of_beq_eq_true h)
    subst hd
    exact ⟨.rv (.one (.esl 3)), big, .rv (.one (FrzC.rowD rfl 0 none))⟩
  · exact ⟨big, .rv (.one (FrzC.rowD rfl 0 none))⟩
set_option maxRecDepth 100000 in
theorem sclone_ok (d : List Sl3) (hb : d.length ≤ 4194304) {m : Mem} {K : CV → Mem → Prop} (h : K (sl3V d) m) : ACall Try.prog 34 [sl3V d] m K :=
  acall_frame (acall_body Try.func34 l34 rfl (Nat.le_of_ble_eq_true rfl) (sclone_body d hb)) (by simp [sl3V, sl3D, CV.isD, CC.isD]) fun r m1 hf => ⟨_, hf, h⟩
structure StOw where
  k : Nat
  qs : List Prc
set_option maxRecDepth 100000 in
set_option maxHeartbeats 32000000 in
theorem sown_body (l : List Obj) (ops : List Opn) (ps : List Prc) (hf : fitL l) (ho : ops.length ≤ 4194304) (hpl : ps.length ≤ 4194304) (hps : ∀ p, p ∈ ps → p.slots.length ≤ 10) (hne : ps ≠ []) :
    body Try.prog c22 [kernV l ops ps] [] (fun r m => ∃ r' m', View 0 ⟨[r], m⟩ ⟨[r'], m'⟩ ∧ r' = .rv (.agg [.row 0 9 0 none, .row 1 2 0 none, .row 2 4 0 none]) ∧ m' = [.row 9 (dRows (l.map Obj.enc)), .row 2 (dRows (ops.map Opn.enc)), .row 4 (dRows (ps.map Prc.enc))]) := by
  refine ⟨?_, ?_⟩
  · skip
    refine own_ok l hf l.length ?_
    rw [qbO_none]
    refine ⟨⟨rfl, trivial⟩, ?_⟩
    refine ⟨?_, ?_⟩
    · refine oclone_ok ops ho ?_
      refine ⟨trivial, ⟨rfl, rfl, trivial⟩, trivial, ?_⟩
      refine loop_keep (fun (a : StOw) => a.k ≤ ps.length ∧ a.qs = ps.take a.k) [1, 2, 14, 15] (fun a => [(16, vInt .i64 (a.k : Nat)), (3, .rv (.one (.ptr 2 0)))]) (fun a => match a.qs with
          | [] => [.var [.dat (objsD l), .dat (opnD ops), .dat (prcD ps)], .var z3, .var [.row 3 9 0 none, .row 4 2 0 none, .esl], .row 9 (dRows (l.map Obj.enc)), .row 2 (dRows (ops.map Opn.enc))]
          | x :: r => [.var [.dat (objsD l), .dat (opnD ops), .dat (prcD ps)], .var z3, .var [.row 3 9 0 none, .row 4 2 0 none, .row 5 4 0 none], .row 9 (dRows (l.map Obj.enc)), .row 2 (dRows (ops.map Opn.enc)), .row 4 (dRows ((x :: r).map Prc.enc))]) (fun a => ps.length - a.k) ⟨0, []⟩ ⟨Nat.zero_le _, rfl⟩ ?_ (fun a ha => ?_)
      · refine View.of 6 [0, 1, 5, 2, 4] [] rfl rfl rfl rfl rfl rfl ?_ ?_
        · repeat (first | exact .nil | refine .junk ?_ | refine .eq rfl ?_)
        · exact (.put (notF rfl) rfl (.eq rfl (by simp)) (.put (notF rfl) rfl (.eq rfl (by simp)) (.put (notF rfl) rfl (.eq rfl (by simp)) (.put (notF rfl) rfl (.rowDE (rowsO_all l _ _ _ (by omega))) (.put (notF rfl) rfl (.rowDE rfl) (.nil _))))))
      obtain ⟨k, qs⟩ := a
      obtain ⟨hk, hq⟩ := ha
      have hk : k ≤ ps.length := hk
      have hq : qs = ps.take k := hq
      cases qs with
      | nil =>
        refine bB_dec (fun h => ?_) (fun h => ?_)
        · have hlt : k < ps.length := by
            have h : (k : Int) < ((ps.map Prc.enc).length : Int) := h
            rw [List.length_map] at h
            omega
          refine ok_some (prc_get hlt) ?_
          refine sclone_ok ps[k].slots (by have := hps _ (List.getElem_mem hlt); omega) ?_
          refine ⟨by simp [subL], ?_⟩
          refine ⟨⟨k + 1, [ps[k]]⟩, ⟨hlt, (show [ps[k]] = ps.take (k + 1) by rw [List.take_add_one, List.getElem?_eq_getElem hlt, ← hq]; rfl)⟩, (show ps.length - (k + 1) < ps.length - k by omega), View.of 8 [0, 1, 2, 3, 4, 7] [] rfl rfl rfl rfl rfl rfl ?_ ?_⟩
          · repeat (first | exact .nil | refine .junk ?_ | refine .put (.ren (next_i64 (by omega)).symm) ?_ | refine .eq rfl ?_)
          · exact (.put (notF rfl) rfl (.eq rfl (by simp)) (.put (notF rfl) rfl (.eq rfl (by simp)) (.put (notF rfl) rfl (.eq rfl (by simp)) (.put (notF rfl) rfl (.rowDE rfl) (.put (notF rfl) rfl (.rowDE rfl) (.put (notF rfl) rfl (.rowDE (by simp [subL, dRows, Prc.enc])) (.nil _)))))))
        · have hke : k = ps.length := by
            have h : ¬ (k : Int) < ((ps.map Prc.enc).length : Int) := h
            rw [List.length_map] at h
            omega
          subst hke
          rw [List.take_length] at hq
          exact absurd hq.symm hne
      | cons x r =>
        refine bB_dec (fun h => ?_) (fun h => ?_)
        · have hlt : k < ps.length := by
            have h : (k : Int) < ((ps.map Prc.enc).length : Int) := h
            rw [List.length_map] at h
            omega
          refine ok_some (prc_get hlt) ?_
          refine sclone_ok ps[k].slots (by have := hps _ (List.getElem_mem hlt); omega) ?_
          refine ⟨by have e := dRows_len ((x :: r).map Prc.enc); have e2 := congrArg List.length hq; simp only [List.length_map, List.length_cons, List.length_take] at e e2; simp only [subL, List.length_cons, List.length_nil]; omega, ?_⟩
          refine ⟨⟨k + 1, ((x :: r) ++ [ps[k]])⟩, ⟨hlt, (show ((x :: r) ++ [ps[k]]) = ps.take (k + 1) by rw [List.take_add_one, List.getElem?_eq_getElem hlt, ← hq]; rfl)⟩, (show ps.length - (k + 1) < ps.length - k by omega), View.of 9 [0, 1, 2, 3, 4, 8] [] rfl rfl rfl rfl rfl rfl ?_ ?_⟩
          · repeat (first | exact .nil | refine .junk ?_ | refine .put (.ren (next_i64 (by omega)).symm) ?_ | refine .eq rfl ?_)
          · exact (.put (notF rfl) rfl (.eq rfl (by simp)) (.put (notF rfl) rfl (.eq rfl (by simp)) (.put (notF rfl) rfl (.eq rfl (by simp)) (.put (notF rfl) rfl (.rowDE rfl) (.put (notF rfl) rfl (.rowDE rfl) (.put (notF rfl) rfl (.rowDE (by simp [subL, dRows, Prc.enc])) (.nil _)))))))
        · have hke : k = ps.length := by
            have h : ¬ (k : Int) < ((ps.map Prc.enc).length : Int) := h
            rw [List.length_map] at h
            omega
          subst hke
          rw [List.take_length] at hq
          refine ⟨.rv (.agg [.row 0 9 0 none, .row 1 2 0 none, .row 2 4 0 none]), _, View.of 6 [3, 4, 5] [] rfl rfl rfl rfl rfl rfl (.eq rfl .nil) (.put (notF rfl) rfl (.rowDE rfl) (.put (notF rfl) rfl (.rowDE rfl) (.put (notF rfl) rfl (.rowDE rfl) (.nil _)))), rfl, ?_⟩
          rw [hq]
    · refine ⟨⟨rfl, rfl, trivial⟩, ?_⟩
      refine oclone_ok ops ho ?_
      refine ⟨trivial, trivial, ?_⟩
      refine loop_keep (fun (a : StOw) => a.k ≤ ps.length ∧ a.qs = ps.take a.k) [1, 2, 14, 15] (fun a => [(16, vInt .i64 (a.k : Nat)), (3, .rv (.one (.ptr 2 0)))]) (fun a => match a.qs with
          | [] => [.var [.dat (objsD l), .dat (opnD ops), .dat (prcD ps)], .var z3, .var [.row 3 9 0 none, .row 4 2 0 none, .esl], .row 9 (dRows (l.map Obj.enc)), .row 2 (dRows (ops.map Opn.enc))]
          | x :: r => [.var [.dat (objsD l), .dat (opnD ops), .dat (prcD ps)], .var z3, .var [.row 3 9 0 none, .row 4 2 0 none, .row 5 4 0 none], .row 9 (dRows (l.map Obj.enc)), .row 2 (dRows (ops.map Opn.enc)), .row 4 (dRows ((x :: r).map Prc.enc))]) (fun a => ps.length - a.k) ⟨0, []⟩ ⟨Nat.zero_le _, rfl⟩ ?_ (fun a ha => ?_)
      · refine View.of 6 [0, 1, 4, 2, 5] [] rfl rfl rfl rfl rfl rfl ?_ ?_
        · repeat (first | exact .nil | refine .junk ?_ | refine .eq rfl ?_)
        · exact (.put (notF rfl) rfl (.eq rfl (by simp)) (.put (notF rfl) rfl (.eq rfl (by simp)) (.put (notF rfl) rfl (.eq rfl (by simp)) (.put (notF rfl) rfl (.rowDE (rowsO_all l _ _ _ (by omega))) (.put (notF rfl) rfl (.rowDE rfl) (.nil _))))))
      obtain ⟨k, qs⟩ := a
      obtain ⟨hk, hq⟩ := ha
      have hk : k ≤ ps.length := hk
      have hq : qs = ps.take k := hq
      cases qs with
      | nil =>
        refine bB_dec (fun h => ?_) (fun h => ?_)
        · have hlt : k < ps.length := by
            have h : (k : Int) < ((ps.map Prc.enc).length : Int) := h
            rw [List.length_map] at h
            omega
          refine ok_some (prc_get hlt) ?_
          refine sclone_ok ps[k].slots (by have := hps _ (List.getElem_mem hlt); omega) ?_
          refine ⟨by simp [subL], ?_⟩
          refine ⟨⟨k + 1, [ps[k]]⟩, ⟨hlt, (show [ps[k]] = ps.take (k + 1) by rw [List.take_add_one, List.getElem?_eq_getElem hlt, ← hq]; rfl)⟩, (show ps.length - (k + 1) < ps.length - k by omega), View.of 8 [0, 1, 2, 3, 4, 7] [] rfl rfl rfl rfl rfl rfl ?_ ?_⟩
          · repeat (first | exact .nil | refine .junk ?_ | refine .put (.ren (next_i64 (by omega)).symm) ?_ | refine .eq rfl ?_)
          · exact (.put (notF rfl) rfl (.eq rfl (by simp)) (.put (notF rfl) rfl (.eq rfl (by simp)) (.put (notF rfl) rfl (.eq rfl (by simp)) (.put (notF rfl) rfl (.rowDE rfl) (.put (notF rfl) rfl (.rowDE rfl) (.put (notF rfl) rfl (.rowDE (by simp [subL, dRows, Prc.enc])) (.nil _)))))))
        · have hke : k = ps.length := by
            have h : ¬ (k : Int) < ((ps.map Prc.enc).length : Int) := h
            rw [List.length_map] at h
            omega
          subst hke
          rw [List.take_length] at hq
          exact absurd hq.symm hne
      | cons x r =>
        refine bB_dec (fun h => ?_) (fun h => ?_)
        · have hlt : k < ps.length := by
            have h : (k : Int) < ((ps.map Prc.enc).length : Int) := h
            rw [List.length_map] at h
            omega
          refine ok_some (prc_get hlt) ?_
          refine sclone_ok ps[k].slots (by have := hps _ (List.getElem_mem hlt); omega) ?_
          refine ⟨by have e := dRows_len ((x :: r).map Prc.enc); have e2 := congrArg List.length hq; simp only [List.length_map, List.length_cons, List.length_take] at e e2; simp only [subL, List.length_cons, List.length_nil]; omega, ?_⟩
          refine ⟨⟨k + 1, ((x :: r) ++ [ps[k]])⟩, ⟨hlt, (show ((x :: r) ++ [ps[k]]) = ps.take (k + 1) by rw [List.take_add_one, List.getElem?_eq_getElem hlt, ← hq]; rfl)⟩, (show ps.length - (k + 1) < ps.length - k by omega), View.of 9 [0, 1, 2, 3, 4, 8] [] rfl rfl rfl rfl rfl rfl ?_ ?_⟩
          · repeat (first | exact .nil | refine .junk ?_ | refine .put (.ren (next_i64 (by omega)).symm) ?_ | refine .eq rfl ?_)
          · exact (.put (notF rfl) rfl (.eq rfl (by simp)) (.put (notF rfl) rfl (.eq rfl (by simp)) (.put (notF rfl) rfl (.eq rfl (by simp)) (.put (notF rfl) rfl (.rowDE rfl) (.put (notF rfl) rfl (.rowDE rfl) (.put (notF rfl) rfl (.rowDE (by simp [subL, dRows, Prc.enc])) (.nil _)))))))
        · have hke : k = ps.length := by
            have h : ¬ (k : Int) < ((ps.map Prc.enc).length : Int) := h
            rw [List.length_map] at h
            omega
          subst hke
          rw [List.take_length] at hq
          refine ⟨.rv (.agg [.row 0 9 0 none, .row 1 2 0 none, .row 2 4 0 none]), _, View.of 6 [3, 4, 5] [] rfl rfl rfl rfl rfl rfl (.eq rfl .nil) (.put (notF rfl) rfl (.rowDE rfl) (.put (notF rfl) rfl (.rowDE rfl) (.put (notF rfl) rfl (.rowDE rfl) (.nil _)))), rfl, ?_⟩
          rw [hq]
  · refine ⟨⟨rfl, rfl, trivial⟩, ?_⟩
    refine own_ok l hf l.length ?_
    rw [qbO_none]
    refine ⟨⟨rfl, trivial⟩, ?_⟩
    refine oclone_ok ops ho ?_
    refine ⟨trivial, trivial, ?_⟩
    refine loop_keep (fun (a : StOw) => a.k ≤ ps.length ∧ a.qs = ps.take a.k) [1, 2, 14, 15] (fun a => [(16, vInt .i64 (a.k : Nat)), (3, .rv (.one (.ptr 2 0)))]) (fun a => match a.qs with
        | [] => [.var [.dat (objsD l), .dat (opnD ops), .dat (prcD ps)], .var z3, .var [.row 3 9 0 none, .row 4 2 0 none, .esl], .row 9 (dRows (l.map Obj.enc)), .row 2 (dRows (ops.map Opn.enc))]
        | x :: r => [.var [.dat (objsD l), .dat (opnD ops), .dat (prcD ps)], .var z3, .var [.row 3 9 0 none, .row 4 2 0 none, .row 5 4 0 none], .row 9 (dRows (l.map Obj.enc)), .row 2 (dRows (ops.map Opn.enc)), .row 4 (dRows ((x :: r).map Prc.enc))]) (fun a => ps.length - a.k) ⟨0, []⟩ ⟨Nat.zero_le _, rfl⟩ ?_ (fun a ha => ?_)
    · refine View.of 6 [0, 1, 2, 3, 5] [] rfl rfl rfl rfl rfl rfl ?_ ?_
      · repeat (first | exact .nil | refine .junk ?_ | refine .eq rfl ?_)
      · exact (.put (notF rfl) rfl (.eq rfl (by simp)) (.put (notF rfl) rfl (.eq rfl (by simp)) (.put (notF rfl) rfl (.eq rfl (by simp)) (.put (notF rfl) rfl (.rowDE (rowsO_all l _ _ _ (by omega))) (.put (notF rfl) rfl (.rowDE rfl) (.nil _))))))
    obtain ⟨k, qs⟩ := a
    obtain ⟨hk, hq⟩ := ha
    have hk : k ≤ ps.length := hk
    have hq : qs = ps.take k := hq
    cases qs with
    | nil =>
      refine bB_dec (fun h => ?_) (fun h => ?_)
      · have hlt : k < ps.length := by
          have h : (k : Int) < ((ps.map Prc.enc).length : Int) := h
          rw [List.length_map] at h
          omega
        refine ok_some (prc_get hlt) ?_
        refine sclone_ok ps[k].slots (by have := hps _ (List.getElem_mem hlt); omega) ?_
        refine ⟨by simp [subL], ?_⟩
        refine ⟨⟨k + 1, [ps[k]]⟩, ⟨hlt, (show [ps[k]] = ps.take (k + 1) by rw [List.take_add_one, List.getElem?_eq_getElem hlt, ← hq]; rfl)⟩, (show ps.length - (k + 1) < ps.length - k by omega), View.of 8 [0, 1, 2, 3, 4, 7] [] rfl rfl rfl rfl rfl rfl ?_ ?_⟩
        · repeat (first | exact .nil | refine .junk ?_ | refine .put (.ren (next_i64 (by omega)).symm) ?_ | refine .eq rfl ?_)
        · exact (.put (notF rfl) rfl (.eq rfl (by simp)) (.put (notF rfl) rfl (.eq rfl (by simp)) (.put (notF rfl) rfl (.eq rfl (by simp)) (.put (notF rfl) rfl (.rowDE rfl) (.put (notF rfl) rfl (.rowDE rfl) (.put (notF rfl) rfl (.rowDE (by simp [subL, dRows, Prc.enc])) (.nil _)))))))
      · have hke : k = ps.length := by
          have h : ¬ (k : Int) < ((ps.map Prc.enc).length : Int) := h
          rw [List.length_map] at h
          omega
        subst hke
        rw [List.take_length] at hq
        exact absurd hq.symm hne
    | cons x r =>
      refine bB_dec (fun h => ?_) (fun h => ?_)
      · have hlt : k < ps.length := by
          have h : (k : Int) < ((ps.map Prc.enc).length : Int) := h
          rw [List.length_map] at h
          omega
        refine ok_some (prc_get hlt) ?_
        refine sclone_ok ps[k].slots (by have := hps _ (List.getElem_mem hlt); omega) ?_
        refine ⟨by have e := dRows_len ((x :: r).map Prc.enc); have e2 := congrArg List.length hq; simp only [List.length_map, List.length_cons, List.length_take] at e e2; simp only [subL, List.length_cons, List.length_nil]; omega, ?_⟩
        refine ⟨⟨k + 1, ((x :: r) ++ [ps[k]])⟩, ⟨hlt, (show ((x :: r) ++ [ps[k]]) = ps.take (k + 1) by rw [List.take_add_one, List.getElem?_eq_getElem hlt, ← hq]; rfl)⟩, (show ps.length - (k + 1) < ps.length - k by omega), View.of 9 [0, 1, 2, 3, 4, 8] [] rfl rfl rfl rfl rfl rfl ?_ ?_⟩
        · repeat (first | exact .nil | refine .junk ?_ | refine .put (.ren (next_i64 (by omega)).symm) ?_ | refine .eq rfl ?_)
        · exact (.put (notF rfl) rfl (.eq rfl (by simp)) (.put (notF rfl) rfl (.eq rfl (by simp)) (.put (notF rfl) rfl (.eq rfl (by simp)) (.put (notF rfl) rfl (.rowDE rfl) (.put (notF rfl) rfl (.rowDE rfl) (.put (notF rfl) rfl (.rowDE (by simp [subL, dRows, Prc.enc])) (.nil _)))))))
      · have hke : k = ps.length := by
          have h : ¬ (k : Int) < ((ps.map Prc.enc).length : Int) := h
          rw [List.length_map] at h
          omega
        subst hke
        rw [List.take_length] at hq
        refine ⟨.rv (.agg [.row 0 9 0 none, .row 1 2 0 none, .row 2 4 0 none]), _, View.of 6 [3, 4, 5] [] rfl rfl rfl rfl rfl rfl (.eq rfl .nil) (.put (notF rfl) rfl (.rowDE rfl) (.put (notF rfl) rfl (.rowDE rfl) (.put (notF rfl) rfl (.rowDE rfl) (.nil _)))), rfl, ?_⟩
        rw [hq]
set_option maxRecDepth 100000 in
theorem sown_ok (l : List Obj) (ops : List Opn) (ps : List Prc) (hf : fitL l) (ho : ops.length ≤ 4194304) (hpl : ps.length ≤ 4194304) (hps : ∀ p, p ∈ ps → p.slots.length ≤ 10) (hne : ps ≠ []) {m : Mem} {K : CV → Mem → Prop}
    (h : K (.rv (.agg [.row m.length 9 0 none, .row (m.length + 1) 2 0 none, .row (m.length + 2) 4 0 none])) (m ++ [.row 9 (dRows (l.map Obj.enc)), .row 2 (dRows (ops.map Opn.enc)), .row 4 (dRows (ps.map Prc.enc))])) : ACall Try.prog 22 [kernV l ops ps] m K := by
  refine acall_borrow [] m.length rfl rfl rfl rfl (args0 := [kernV l ops ps]) rfl (fun i b' hi => by simp at hi) (K0 := fun r m => r = .rv (.agg [.row 0 9 0 none, .row 1 2 0 none, .row 2 4 0 none]) ∧ m = [.row 9 (dRows (l.map Obj.enc)), .row 2 (dRows (ops.map Opn.enc)), .row 4 (dRows (ps.map Prc.enc))])
    (acall_view (acall_body Try.func22 l22 rfl (Nat.le_of_ble_eq_true rfl) (sown_body l ops ps hf ho hpl hps hne)) fun r m1 h => h) (fun r m1 hr => ?_)
  obtain ⟨rfl, rfl⟩ := hr
  refine ⟨Nat.zero_le _, ?_⟩
  show K (.rv (.agg [.row (m.length + (0 - 0)) 9 0 none, .row (m.length + (1 - 0)) 2 0 none, .row (m.length + (2 - 0)) 4 0 none])) (app2 m [.row 9 ((dRows (l.map Obj.enc)).map (fun cs => cs.map (CC.ren (sg [] m.length)))), .row 2 ((dRows (ops.map Opn.enc)).map (fun cs => cs.map (CC.ren (sg [] m.length)))), .row 4 ((dRows (ps.map Prc.enc)).map (fun cs => cs.map (CC.ren (sg [] m.length))))])
  rw [dRows_ren, dRows_ren, dRows_ren, app2_eq]
  exact h

def c46 : LF := ⟨9, [.tmp 4], (.seq (.reg [
    ⟨(some 4), .mov (.c (.rv (.one (.dat (.val (.bool false)))))), none⟩]) (.seq (.reg [
    ⟨(some 5), .mov (.t 0), none⟩,
    ⟨(some 6), .mov (.t 1), none⟩,
    ⟨(some 7), .call (.c (.rv (.one (.fn 53 [])))) [(.t 5), (.t 6)], none⟩,
    ⟨(some 8), .bin .geq (.t 7) (.c (.rv (.one (.dat (.val (.int .i64 (0))))))), none⟩,
    ⟨(some 4), .mov (.t 8), none⟩]) .ret))⟩
def c47 : LF := ⟨13, [.tmp 3], (.seq (.reg [
    ⟨(some 2), .box (.t 0), none⟩,
    ⟨(some 3), .mov (.c (.rv (.one (.dat (.val (.bool false)))))), none⟩]) (.seq (.reg [
    ⟨(some 4), .fadr 0 (.t 2), none⟩,
    ⟨(some 5), .load false 1 (.t 4), none⟩,
    ⟨(some 6), .bin .eql (.t 5) (.c (.rv (.one (.dat (.val (.int .i64 (5))))))), none⟩,
    ⟨(some 7), .mov (.t 6), none⟩,
    ⟨(some 8), .fadr 6 (.t 2), (some (7, true))⟩,
    ⟨(some 9), .load false 1 (.t 8), (some (7, true))⟩,
    ⟨(some 10), .load false 1 (.t 1), (some (7, true))⟩,
    ⟨(some 11), .bin .eql (.t 9) (.t 10), (some (7, true))⟩,
    ⟨(some 12), .pick (.t 7) (.t 11) (.c (.rv (.one (.dat (.val (.bool false)))))), none⟩,
    ⟨(some 3), .mov (.t 12), none⟩]) .ret))⟩
def c62 : LF := ⟨13, [.tmp 3], (.seq (.reg [
    ⟨(some 2), .box (.t 0), none⟩,
    ⟨(some 3), .mov (.c (.rv (.one (.dat (.val (.bool false)))))), none⟩]) (.seq (.reg [
    ⟨(some 4), .fadr 0 (.t 2), none⟩,
    ⟨(some 5), .load false 1 (.t 4), none⟩,
    ⟨(some 6), .bin .eql (.t 5) (.c (.rv (.one (.dat (.val (.int .i64 (5))))))), none⟩,
    ⟨(some 7), .mov (.t 6), none⟩,
    ⟨(some 8), .fadr 6 (.t 2), (some (7, true))⟩,
    ⟨(some 9), .load false 1 (.t 8), (some (7, true))⟩,
    ⟨(some 10), .load false 1 (.t 1), (some (7, true))⟩,
    ⟨(some 11), .bin .eql (.t 9) (.t 10), (some (7, true))⟩,
    ⟨(some 12), .pick (.t 7) (.t 11) (.c (.rv (.one (.dat (.val (.bool false)))))), none⟩,
    ⟨(some 3), .mov (.t 12), none⟩]) .ret))⟩
/-! has a process a descriptor of it: the closure, and the search, over a row -/
def heldB (p : Int) (o : Obj) : Bool := o.kind == 5 && o.proc == p
theorem l62 : lowF Try.prog Try.f62 = some c62 := by kernel_rfl
theorem l47 : lowF Try.prog Try.f47 = some c47 := by kernel_rfl
theorem l46 : lowF Try.prog Try.f46 = some c46 := by kernel_rfl
set_option maxRecDepth 100000 in
theorem clo116_body (o : Obj) (p : Int) : body Try.prog c62 [o.cv, .rv (.one (.ptr 0 0))] [.var ([Dt.val (.int .i64 p)].map .dat)] (fun r m => r = vBool (heldB p o) ∧ ∃ ex, m = .var ([Dt.val (.int .i64 p)].map .dat) :: ex) := by
  refine bB_split (fun h => ?_) (fun h => ?_)
  · refine ⟨?_, _, rfl⟩
    show vBool _ = vBool _
    rw [heldB, h]; rfl
  · refine ⟨?_, _, rfl⟩
    show vBool _ = vBool _
    rw [heldB, h]; rfl
set_option maxRecDepth 100000 in
theorem clo116 (o : Obj) (p : Int) (K : CV → Mem → Prop) (h : K (vBool (heldB p o)) [.var ([Dt.val (.int .i64 p)].map .dat)]) : ACall Try.prog 62 [o.cv, .rv (.one (.ptr 0 0))] [.var ([Dt.val (.int .i64 p)].map .dat)] K :=
  acall_trim rfl (acall_body Try.func62 l62 rfl (Nat.le_of_ble_eq_true rfl) (clo116_body o p)) h
set_option maxRecDepth 100000 in
theorem clo102_body (o : Obj) (p : Int) : body Try.prog c47 [o.cv, .rv (.one (.ptr 0 0))] [.var ([Dt.val (.int .i64 p)].map .dat)] (fun r m => r = vBool (heldB p o) ∧ ∃ ex, m = .var ([Dt.val (.int .i64 p)].map .dat) :: ex) := by
  refine bB_split (fun h => ?_) (fun h => ?_)
  · refine ⟨?_, _, rfl⟩
    show vBool _ = vBool _
    rw [heldB, h]; rfl
  · refine ⟨?_, _, rfl⟩
    show vBool _ = vBool _
    rw [heldB, h]; rfl
set_option maxRecDepth 100000 in
theorem clo102 (o : Obj) (p : Int) (K : CV → Mem → Prop) (h : K (vBool (heldB p o)) [.var ([Dt.val (.int .i64 p)].map .dat)]) : ACall Try.prog 47 [o.cv, .rv (.one (.ptr 0 0))] [.var ([Dt.val (.int .i64 p)].map .dat)] K :=
  acall_trim rfl (acall_body Try.func47 l47 rfl (Nat.le_of_ble_eq_true rfl) (clo102_body o p)) h
theorem o_idx {l : List Obj} {n : Nat} (h : n < l.length) : idxZ (n : Int) (lenOf (dRows (l.map Obj.enc)).length 0 none) = some n := idxZ_nat (by show n < (dRows (l.map Obj.enc)).length; rw [dRows_len, List.length_map]; exact h)
set_option maxRecDepth 100000 in
set_option maxHeartbeats 8000000 in
theorem idxR_body (l : List Obj) (hb : l.length ≤ 4194304) (F : Nat) (cs : List Dt) (q : Obj → Bool) (hF : ∀ s, ∀ K : CV → Mem → Prop, K (vBool (q s)) [.var (cs.map .dat)] → ACall Try.prog F [s.cv, .rv (.one (.ptr 0 0))] [.var (cs.map .dat)] K) :
    body Try.prog c53 [.rv (.one (.row 0 9 0 none)), .rv (.one (.fn F [1]))] [.row 9 (dRows (l.map Obj.enc)), .var (cs.map .dat)] (fun r m => r = vInt .i64 (idxG q l) ∧ m = [.row 9 (dRows (l.map Obj.enc)), .var (cs.map .dat)]) := by
  refine loop_keep (fun k => k ≤ l.length ∧ ∀ (j : Nat) s, j < k → l[j]? = some s → q s = false) [0, 1, 7] (fun k => [(8, vInt .i64 (k : Nat))]) (fun _ => [.row 9 (dRows (l.map Obj.enc)), .var (cs.map .dat)]) (fun k => l.length - k) 0 ⟨Nat.zero_le _, fun j s h => absurd h (Nat.not_lt_zero j)⟩ ?_ (fun k hk => ?_)
  · refine View.of 2 [0, 1] [] rfl rfl rfl rfl rfl rfl ?_ ?_
    · repeat (first | exact .nil | refine .junk ?_ | refine .eq rfl ?_)
    · exact .put (notF rfl) rfl (.rowDE rfl) (.put (notF rfl) rfl (.varDE rfl) (.nil _))
  · refine bB_dec (fun h => ?_) (fun h => ?_)
    · have hlt : k < l.length := by
        have h : (k : Int) < ((dRows (l.map Obj.enc)).length : Int) := h
        rw [dRows_len, List.length_map] at h
        omega
      refine ok_some (o_idx hlt) ?_
      refine ok_some (dRows_nth' Obj.enc l hlt) ?_
      have hi := List.getElem?_eq_getElem hlt
      have hfd := idxG_found (q := q) hlt
      generalize l[k] = o at hi hfd
      refine acall_look (args0 := [o.cv, .rv (.one (.ptr 0 0))]) (cs := cs) 1 rfl rfl (r0 := vBool (q o)) rfl (fun K hK => hF o K hK) ?_
      refine bB_split (fun hq1 => ?_) (fun hq1 => ?_)
      · rw [hfd hq1 hk.2]
        exact ⟨rfl, rfl⟩
      · refine ⟨k + 1, ⟨hlt, fun j s hj hs => ?_⟩, (show l.length - (k + 1) < l.length - k by omega), View.of 2 [0, 1] [] rfl rfl rfl rfl rfl rfl ?_ ?_⟩
        · rcases Nat.lt_or_ge j k with h5 | h5
          · exact hk.2 j s h5 hs
          · have : j = k := by omega
            subst this
            rw [hi] at hs
            cases hs
            exact hq1
        · repeat (first | exact .nil | refine .junk ?_ | refine .put (.ren (next_i64 (by omega)).symm) ?_ | refine .eq rfl ?_)
        · exact .put (notF rfl) rfl (.rowDE rfl) (.put (notF rfl) rfl (.varDE rfl) (.nil _))
    · have hge : ¬ (k : Int) < ((dRows (l.map Obj.enc)).length : Int) := h
      rw [dRows_len, List.length_map] at hge
      rw [idxG_none fun j s hs => hk.2 j s (by have := (List.getElem?_eq_some_iff.1 hs).1; omega) hs]
      exact ⟨rfl, rfl⟩
set_option maxRecDepth 100000 in
theorem contR_body (l : List Obj) (hb : l.length ≤ 4194304) (F : Nat) (cs : List Dt) (q : Obj → Bool) (hF : ∀ s, ∀ K : CV → Mem → Prop, K (vBool (q s)) [.var (cs.map .dat)] → ACall Try.prog F [s.cv, .rv (.one (.ptr 0 0))] [.var (cs.map .dat)] K) :
    body Try.prog c46 [.rv (.one (.row 0 9 0 none)), .rv (.one (.fn F [1]))] [.row 9 (dRows (l.map Obj.enc)), .var (cs.map .dat)] (fun r m => r = vBool (l.any q) ∧ m = [.row 9 (dRows (l.map Obj.enc)), .var (cs.map .dat)]) := by
  refine (acall_body Try.func53 l53 rfl (Nat.le_of_ble_eq_true rfl) (idxR_body l hb F cs q hF)).mono fun r m ⟨hr, hm⟩ => ?_
  subst hr hm
  refine ⟨?_, rfl⟩
  show vBool _ = vBool _
  rw [← idxG_any]
/-- the search over a row, with a cell that the closure looks at -/
theorem contR_ok (l : List Obj) (hb : l.length ≤ 4194304) (F : Nat) (cs : List Dt) (q : Obj → Bool) (hF : ∀ s, ∀ K : CV → Mem → Prop, K (vBool (q s)) [.var (cs.map .dat)] → ACall Try.prog F [s.cv, .rv (.one (.ptr 0 0))] [.var (cs.map .dat)] K) :
    ACall Try.prog 46 [.rv (.one (.row 0 9 0 none)), .rv (.one (.fn F [1]))] [.row 9 (dRows (l.map Obj.enc)), .var (cs.map .dat)] (fun r m => r = vBool (l.any q) ∧ m = [.row 9 (dRows (l.map Obj.enc)), .var (cs.map .dat)]) :=
  acall_body Try.func46 l46 rfl (Nat.le_of_ble_eq_true rfl) (contR_body l hb F cs q hF)

def c45 : LF := ⟨146, [.tmp 2], (.seq (.reg [
    ⟨(some 2), .mov (.c (.rv (.one (.dat (.val (.bool false)))))), none⟩]) (.seq (.reg [
    ⟨(some 10), .mov (.t 0), none⟩,
    ⟨(some 11), .call (.c (.rv (.one (.fn 42 [])))) [(.t 10)], none⟩,
    ⟨(some 3), .mov (.t 11), none⟩]) (.seq (.seq (.reg [
    ⟨(some 12), .mov (.t 0), none⟩,
    ⟨(some 13), .nilc (.t 12), none⟩,
    ⟨(some 14), .fadr 0 (.t 13), none⟩,
    ⟨(some 15), .load false 1 (.t 14), none⟩,
    ⟨(some 16), .len 1 (.t 15), none⟩,
    ⟨(some 17), .mov (.c (.rv (.one (.dat (.val (.int .i64 (0))))))), none⟩]) (.block 0 (.loop (.seq (.reg [
    ⟨(some 18), .bin .lss (.t 17) (.t 16), none⟩]) (.seq (.cond (.t 18) .skip (.exit 0)) (.seq (.block 1 (.seq (.reg [
    ⟨(some 19), .mov (.t 17), none⟩,
    ⟨(some 4), .mov (.t 19), none⟩]) (.seq (.seq (.reg [
    ⟨(some 20), .mov (.t 3), none⟩,
    ⟨(some 21), .nilc (.t 20), none⟩,
    ⟨(some 22), .fadr 1 (.t 21), none⟩,
    ⟨(some 23), .load false 1 (.t 22), none⟩,
    ⟨(some 24), .mov (.t 4), none⟩,
    ⟨(some 25), .idx 1 (.t 23) (.t 24), none⟩,
    ⟨(some 26), .load false 1 (.t 25), none⟩,
    ⟨(some 27), .mov (.t 26), none⟩,
    ⟨(some 28), .mov (.t 0), (some (27, false))⟩,
    ⟨(some 29), .nilc (.t 28), (some (27, false))⟩,
    ⟨(some 30), .fadr 0 (.t 29), (some (27, false))⟩,
    ⟨(some 31), .load false 1 (.t 30), (some (27, false))⟩,
    ⟨(some 32), .mov (.t 4), (some (27, false))⟩,
    ⟨(some 33), .idx 9 (.t 31) (.t 32), (some (27, false))⟩,
    ⟨(some 34), .fadr 0 (.t 33), (some (27, false))⟩,
    ⟨(some 35), .load false 1 (.t 34), (some (27, false))⟩,
    ⟨(some 36), .bin .eql (.t 35) (.c (.rv (.one (.dat (.val (.int .i64 (0))))))), (some (27, false))⟩,
    ⟨(some 37), .pick (.t 27) (.c (.rv (.one (.dat (.val (.bool true)))))) (.t 36), none⟩]) (.cond (.t 37) (.exit 1) .skip)) (.seq (.seq (.reg [
    ⟨(some 38), .mov (.t 0), none⟩,
    ⟨(some 39), .nilc (.t 38), none⟩,
    ⟨(some 40), .fadr 0 (.t 39), none⟩,
    ⟨(some 41), .load false 1 (.t 40), none⟩,
    ⟨(some 42), .len 1 (.t 41), none⟩,
    ⟨(some 43), .mov (.c (.rv (.one (.dat (.val (.int .i64 (0))))))), none⟩]) (.block 2 (.loop (.seq (.reg [
    ⟨(some 44), .bin .lss (.t 43) (.t 42), none⟩]) (.seq (.cond (.t 44) .skip (.exit 2)) (.seq (.block 3 (.seq (.reg [
    ⟨(some 45), .mov (.t 43), none⟩,
    ⟨(some 5), .mov (.t 45), none⟩]) (.seq (.reg [
    ⟨(some 46), .mov (.t 0), none⟩,
    ⟨(some 47), .nilc (.t 46), none⟩,
    ⟨(some 48), .fadr 0 (.t 47), none⟩,
    ⟨(some 49), .load false 1 (.t 48), none⟩,
    ⟨(some 50), .mov (.t 5), none⟩,
    ⟨(some 51), .idx 9 (.t 49) (.t 50), none⟩,
    ⟨(some 52), .fadr 0 (.t 51), none⟩,
    ⟨(some 53), .load false 1 (.t 52), none⟩,
    ⟨(some 54), .bin .eql (.t 53) (.c (.rv (.one (.dat (.val (.int .i64 (4))))))), none⟩,
    ⟨(some 55), .mov (.t 54), none⟩,
    ⟨(some 56), .mov (.t 0), (some (55, true))⟩,
    ⟨(some 57), .nilc (.t 56), (some (55, true))⟩,
    ⟨(some 58), .fadr 0 (.t 57), (some (55, true))⟩,
    ⟨(some 59), .load false 1 (.t 58), (some (55, true))⟩,
    ⟨(some 60), .mov (.t 5), (some (55, true))⟩,
    ⟨(some 61), .idx 9 (.t 59) (.t 60), (some (55, true))⟩,
    ⟨(some 62), .fadr 4 (.t 61), (some (55, true))⟩,
    ⟨(some 63), .load false 1 (.t 62), (some (55, true))⟩,
    ⟨(some 64), .mov (.t 4), (some (55, true))⟩,
    ⟨(some 65), .bin .eql (.t 63) (.t 64), (some (55, true))⟩,
    ⟨(some 66), .pick (.t 55) (.t 65) (.c (.rv (.one (.dat (.val (.bool false)))))), none⟩]) (.cond (.t 66) (.reg [
    ⟨(some 67), .mov (.t 0), none⟩,
    ⟨(some 68), .nilc (.t 67), none⟩,
    ⟨(some 69), .fadr 0 (.t 68), none⟩,
    ⟨(some 70), .load false 1 (.t 69), none⟩,
    ⟨(some 71), .mov (.t 5), none⟩,
    ⟨(some 72), .idx 9 (.t 70) (.t 71), none⟩,
    ⟨(some 73), .fadr 4 (.t 72), none⟩,
    ⟨none, .store 1 (.t 73) (.c (.rv (.one (.dat (.val (.int .i64 (-1))))))), none⟩]) .skip)))) (.reg [
    ⟨(some 74), .bin .add (.t 43) (.c (.rv (.one (.dat (.val (.int .i64 (1))))))), none⟩,
    ⟨(some 43), .mov (.t 74), none⟩]))))))) (.reg [
    ⟨(some 75), .mov (.t 0), none⟩,
    ⟨(some 76), .nilc (.t 75), none⟩,
    ⟨(some 77), .fadr 0 (.t 76), none⟩,
    ⟨(some 78), .load false 1 (.t 77), none⟩,
    ⟨(some 79), .mov (.t 4), none⟩,
    ⟨(some 80), .build [(.dat (.val (.int .i64 (0)))), .esl, .esl, (.dat (.val (.string ⟨#[]⟩))), (.dat (.val (.int .i64 (0)))), .esl, (.dat (.val (.int .i64 (0)))), (.dat (.val (.int .i64 (0)))), (.dat (.val (.int .i64 (0))))] [], none⟩,
    ⟨(some 81), .idx 9 (.t 78) (.t 79), none⟩,
    ⟨none, .store 9 (.t 81) (.t 80), none⟩]))))) (.reg [
    ⟨(some 82), .bin .add (.t 17) (.c (.rv (.one (.dat (.val (.int .i64 (1))))))), none⟩,
    ⟨(some 17), .mov (.t 82), none⟩]))))))) (.seq (.seq (.reg [
    ⟨(some 83), .mov (.t 0), none⟩,
    ⟨(some 84), .nilc (.t 83), none⟩,
    ⟨(some 85), .fadr 1 (.t 84), none⟩,
    ⟨(some 86), .load false 1 (.t 85), none⟩,
    ⟨(some 87), .len 1 (.t 86), none⟩,
    ⟨(some 88), .mov (.c (.rv (.one (.dat (.val (.int .i64 (0))))))), none⟩]) (.block 4 (.loop (.seq (.reg [
    ⟨(some 89), .bin .lss (.t 88) (.t 87), none⟩]) (.seq (.cond (.t 89) .skip (.exit 4)) (.seq (.block 5 (.seq (.reg [
    ⟨(some 90), .mov (.t 88), none⟩,
    ⟨(some 6), .mov (.t 90), none⟩]) (.seq (.reg [
    ⟨(some 91), .mov (.t 3), none⟩,
    ⟨(some 92), .nilc (.t 91), none⟩,
    ⟨(some 93), .fadr 2 (.t 92), none⟩,
    ⟨(some 94), .load false 1 (.t 93), none⟩,
    ⟨(some 95), .mov (.t 6), none⟩,
    ⟨(some 96), .idx 1 (.t 94) (.t 95), none⟩,
    ⟨(some 97), .load false 1 (.t 96), none⟩,
    ⟨(some 98), .un .not (.t 97), none⟩]) (.cond (.t 98) (.reg [
    ⟨(some 99), .mov (.t 0), none⟩,
    ⟨(some 100), .nilc (.t 99), none⟩,
    ⟨(some 101), .fadr 1 (.t 100), none⟩,
    ⟨(some 102), .load false 1 (.t 101), none⟩,
    ⟨(some 103), .mov (.t 6), none⟩,
    ⟨(some 104), .build [(.dat (.val (.int .i64 (0)))), (.dat (.val (.int .i64 (0))))] [(0, 1, (.c (.rv (.one (.dat (.val (.int .i64 (-1))))))))], none⟩,
    ⟨(some 105), .idx 2 (.t 102) (.t 103), none⟩,
    ⟨none, .store 2 (.t 105) (.t 104), none⟩]) .skip)))) (.reg [
    ⟨(some 106), .bin .add (.t 88) (.c (.rv (.one (.dat (.val (.int .i64 (1))))))), none⟩,
    ⟨(some 88), .mov (.t 106), none⟩]))))))) (.seq (.reg [
    ⟨(some 7), .mov (.c (.rv (.one (.dat (.val (.bool false)))))), none⟩]) (.seq (.seq (.reg [
    ⟨(some 107), .mov (.t 0), none⟩,
    ⟨(some 108), .nilc (.t 107), none⟩,
    ⟨(some 109), .fadr 2 (.t 108), none⟩,
    ⟨(some 110), .load false 1 (.t 109), none⟩,
    ⟨(some 111), .len 1 (.t 110), none⟩,
    ⟨(some 112), .mov (.c (.rv (.one (.dat (.val (.int .i64 (0))))))), none⟩]) (.block 6 (.loop (.seq (.reg [
    ⟨(some 113), .bin .lss (.t 112) (.t 111), none⟩]) (.seq (.cond (.t 113) .skip (.exit 6)) (.seq (.block 7 (.seq (.reg [
    ⟨(some 114), .mov (.t 112), none⟩,
    ⟨(some 8), .alloc [(.dat (.val (.int .i64 (0))))], none⟩,
    ⟨none, .store 1 (.t 8) (.t 114), none⟩]) (.seq (.reg [
    ⟨(some 115), .mov (.t 0), none⟩,
    ⟨(some 116), .nilc (.t 115), none⟩,
    ⟨(some 117), .fadr 0 (.t 116), none⟩,
    ⟨(some 118), .load false 1 (.t 117), none⟩,
    ⟨(some 119), .fn 62 [(.t 8)], none⟩,
    ⟨(some 120), .call (.c (.rv (.one (.fn 46 [])))) [(.t 118), (.t 119)], none⟩,
    ⟨(some 9), .mov (.t 120), none⟩]) (.seq (.draw [
    ⟨(some 121), .load false 1 (.t 8), none⟩,
    ⟨(some 122), .bin .gtr (.t 121) (.c (.rv (.one (.dat (.val (.int .i64 (0))))))), none⟩,
    ⟨(some 123), .mov (.t 122), none⟩,
    ⟨(some 124), .mov (.t 0), (some (123, true))⟩,
    ⟨(some 125), .nilc (.t 124), (some (123, true))⟩,
    ⟨(some 126), .fadr 2 (.t 125), (some (123, true))⟩,
    ⟨(some 127), .load false 1 (.t 126), (some (123, true))⟩,
    ⟨(some 128), .load false 1 (.t 8), (some (123, true))⟩,
    ⟨(some 129), .idx 4 (.t 127) (.t 128), (some (123, true))⟩,
    ⟨(some 130), .fadr 0 (.t 129), (some (123, true))⟩,
    ⟨(some 131), .load false 1 (.t 130), (some (123, true))⟩,
    ⟨(some 132), .pick (.t 123) (.t 131) (.c (.rv (.one (.dat (.val (.bool false)))))), none⟩,
    ⟨(some 133), .mov (.t 132), none⟩,
    ⟨(some 134), .mov (.t 9), (some (133, true))⟩,
    ⟨(some 135), .un .not (.t 134), (some (133, true))⟩,
    ⟨(some 136), .pick (.t 133) (.t 135) (.c (.rv (.one (.dat (.val (.bool false)))))), none⟩]
    [(.cons 0 none (.cons 1 none (.cons 2 none (.cons 3 none (.cons 4 none (.cons 5 none (.cons 6 none (.cons 7 none (.cons 8 none (.cons 9 none (.cons 10 none (.cons 11 none (.cons 12 none (.cons 13 none (.cons 14 none (.cons 15 none .nil))))))))))))))))]) (.cond (.t 136) (.seq (.draw [
    ⟨(some 137), .mov (.t 0), none⟩,
    ⟨(some 138), .nilc (.t 137), none⟩,
    ⟨(some 139), .fadr 2 (.t 138), none⟩,
    ⟨(some 140), .load false 1 (.t 139), none⟩,
    ⟨(some 141), .load false 1 (.t 8), none⟩,
    ⟨(some 142), .build [(.dat (.val (.bool false))), (.dat (.val (.bool false))), (.dat (.val (.int .i64 (0)))), .esl] [], none⟩,
    ⟨(some 143), .idx 4 (.t 140) (.t 141), none⟩,
    ⟨none, .store 4 (.t 143) (.t 142), none⟩]
    [(.cons 0 none (.cons 1 none (.cons 2 none (.cons 3 none (.cons 4 none (.cons 5 none (.cons 6 none (.cons 7 (some []) .nil))))))))]) (.reg [
    ⟨(some 7), .mov (.c (.rv (.one (.dat (.val (.bool true)))))), none⟩])) .skip))))) (.reg [
    ⟨(some 144), .bin .add (.t 112) (.c (.rv (.one (.dat (.val (.int .i64 (1))))))), none⟩,
    ⟨(some 112), .mov (.t 144), none⟩]))))))) (.seq (.reg [
    ⟨(some 145), .mov (.t 7), none⟩,
    ⟨(some 2), .mov (.t 145), none⟩]) .ret)))))))⟩
/-! sweep.once -/
def Pt {α : Type} (l L : List α) (f : Nat → α → α) : Prop := L.length = l.length ∧ ∀ (t : Nat) o, l[t]? = some o → L[t]? = some (f t o)
theorem Pt.refl {α : Type} (l : List α) : Pt l l fun _ o => o := ⟨rfl, fun _ _ h => h⟩
theorem Pt.congr {α : Type} {l L : List α} {f g : Nat → α → α} (h : Pt l L f) (hfg : ∀ (t : Nat) o, l[t]? = some o → f t o = g t o) : Pt l L g :=
  ⟨h.1, fun t o ho => by rw [← hfg t o ho]; exact h.2 t o ho⟩
theorem Pt.set {α : Type} {l L : List α} {f g : Nat → α → α} (h : Pt l L f) {j : Nat} {x : α} (hx : ∀ o, l[j]? = some o → g j o = x) (ho : ∀ (t : Nat) o, t ≠ j → l[t]? = some o → g t o = f t o) : Pt l (L.set j x) g := by
  refine ⟨by simpa using h.1, fun t o hto => ?_⟩
  have hlt : t < L.length := by rw [h.1]; exact (List.getElem?_eq_some_iff.1 hto).1
  by_cases htj : t = j
  · subst htj
    rw [hx o hto]
    simp [hlt]
  · rw [List.getElem?_set_ne (fun e => htj e.symm), ho t o htj hto]
    exact h.2 t o hto
theorem Pt.at {α : Type} {l L : List α} {f : Nat → α → α} (h : Pt l L f) {j : Nat} (hj : j < l.length) : ∃ hL : j < L.length, L[j] = f j l[j] := by
  have hL : j < L.length := by rw [h.1]; exact hj
  have := h.2 j l[j] (List.getElem?_eq_getElem hj)
  rw [List.getElem?_eq_getElem hL] at this
  exact ⟨hL, by simpa using this⟩
theorem VwB.rowSet {σ : Nat → Nat} {m : Mem} {Z : Nat → Prop} {id s : Nat} (ds : List (List Dt)) (i : Nat) {cs : List CC} {d : List Dt} (hl : cs.length = d.length)
    (h : ∀ (j : Nat) c c', cs[j]? = some c → (d.map CC.dat)[j]? = some c' → VwC σ m Z (some id) c c') : VwB σ m Z id (.row s (setN (dRows ds) i cs)) (.row s (dRows (ds.set i d))) := by
  rw [setN_eq]
  have e : dRows (ds.set i d) = (dRows ds).set i (d.map .dat) := by simp [dRows, List.map_set]
  rw [e]
  refine .row s (by simp) (fun t xs ys h1 h2 => ?_) (fun t xs ys j c c' h1 h2 h3 h4 => ?_)
  · rw [List.getElem?_set] at h1 h2
    split at h1
    · rename_i hti
      rw [if_pos hti] at h2
      split at h1
      · rename_i hlt
        rw [if_pos hlt] at h2
        cases h1
        cases h2
        simpa using hl
      · cases h1
    · rename_i hti
      rw [if_neg hti] at h2
      rw [h1] at h2
      cases h2
      rfl
  · rw [List.getElem?_set] at h1 h2
    split at h1
    · rename_i hti
      rw [if_pos hti] at h2
      split at h1
      · rename_i hlt
        rw [if_pos hlt] at h2
        cases h1
        cases h2
        exact h j c c' h3 h4
      · cases h1
    · rename_i hti
      rw [if_neg hti] at h2
      rw [h1] at h2
      cases h2
      rw [h3] at h4
      cases h4
      have hd : ∃ d, c = .dat d := by
        rw [dRows, List.getElem?_map] at h1
        obtain ⟨es, _, rfl⟩ := Option.map_eq_some_iff.1 h1
        rw [List.getElem?_map] at h3
        obtain ⟨d, _, rfl⟩ := Option.map_eq_some_iff.1 h3
        exact ⟨d, rfl⟩
      obtain ⟨d, rfl⟩ := hd
      exact .ren (.dat d)
def zeroO : Obj := ⟨0, [], [], ⟨#[]⟩, 0, [], 0, 0, 0⟩
def zeroC : List CC := [.dat (.val (.int .i64 0)), .esl, .esl, .dat (.val (.string ⟨#[]⟩)), .dat (.val (.int .i64 0)), .esl, .dat (.val (.int .i64 0)), .dat (.val (.int .i64 0)), .dat (.val (.int .i64 0))]
theorem rowZ {σ : Nat → Nat} {m : Mem} {Z : Nat → Prop} {id : Nat} (L : List Obj) (i : Nat) : VwB σ m Z id (.row 9 (setN (dRows (L.map Obj.enc)) i zeroC)) (.row 9 (dRows ((L.set i zeroO).map Obj.enc))) := by
  rw [List.map_set]
  refine VwB.rowSet (L.map Obj.enc) i rfl fun j c c' h1 h2 => ?_
  match j, h1, h2 with
  | 0, h1, h2 => cases h1; cases h2; exact .ren (.dat _)
  | 1, h1, h2 => cases h1; cases h2; exact .frz (.esl 1)
  | 2, h1, h2 => cases h1; cases h2; exact .frz (.esl 2)
  | 3, h1, h2 => cases h1; cases h2; exact .ren (.dat _)
  | 4, h1, h2 => cases h1; cases h2; exact .ren (.dat _)
  | 5, h1, h2 => cases h1; cases h2; exact .frz (.esl 4)
  | 6, h1, h2 => cases h1; cases h2; exact .ren (.dat _)
  | 7, h1, h2 => cases h1; cases h2; exact .ren (.dat _)
  | 8, h1, h2 => cases h1; cases h2; exact .ren (.dat _)
  | n + 9, h1, h2 => simp [zeroC] at h1
def zeroP : Prc := ⟨false, false, 0, []⟩
theorem rowZP {σ : Nat → Nat} {m : Mem} {Z : Nat → Prop} {id : Nat} (L : List Prc) (i : Nat) : VwB σ m Z id (.row 4 (setN (dRows (L.map Prc.enc)) i [.dat (.val (.bool false)), .dat (.val (.bool false)), .dat (.val (.int .i64 0)), .esl])) (.row 4 (dRows ((L.set i zeroP).map Prc.enc))) := by
  rw [List.map_set]
  refine VwB.rowSet (L.map Prc.enc) i rfl fun j c c' h1 h2 => ?_
  match j, h1, h2 with
  | 0, h1, h2 => cases h1; cases h2; exact .ren (.dat _)
  | 1, h1, h2 => cases h1; cases h2; exact .ren (.dat _)
  | 2, h1, h2 => cases h1; cases h2; exact .ren (.dat _)
  | 3, h1, h2 => cases h1; cases h2; exact .frz (.esl 3)
  | n + 4, h1, h2 => simp at h1
def deadB (b : Mk) (l : List Obj) (i : Nat) : Bool := match l[i]? with
  | some o => !(b.O[i]? == some true) && o.kind != 0
  | none => false
def deadZ (b : Mk) (l : List Obj) (k : Nat) (z : Int) : Bool := decide (0 ≤ z ∧ z.toNat < k) && deadB b l z.toNat
def onceAt (b : Mk) (l : List Obj) (k : Nat) (j : Nat) (o : Obj) : Obj := if (deadB b l j && decide (j < k)) = true then zeroO else if (o.kind == 4 && deadZ b l k o.peer) = true then { o with peer := -1 } else o
def onceIn (i : Nat) (o : Obj) : Obj := if (o.kind == 4 && o.peer == (i : Int)) = true then { o with peer := -1 } else o
theorem deadZ_succ (b : Mk) (l : List Obj) (i : Nat) (z : Int) : deadZ b l (i + 1) z = (deadZ b l i z || (z == (i : Int) && deadB b l i)) := by
  unfold deadZ
  by_cases h : z = (i : Int)
  · subst h
    simp
  · have h1 : (z == (i : Int)) = false := by simpa using h
    rw [h1]
    have : decide (0 ≤ z ∧ z.toNat < i + 1) = decide (0 ≤ z ∧ z.toNat < i) := by
      apply decide_eq_decide.2
      constructor <;> intro ⟨h2, h3⟩ <;> exact ⟨h2, by omega⟩
    rw [this]; simp
theorem onceAt_no {b : Mk} {l : List Obj} {i : Nat} (h : deadB b l i = false) (j : Nat) (o : Obj) : onceAt b l i j o = onceAt b l (i + 1) j o := by
  have h1 : (deadB b l j && decide (j < i + 1)) = (deadB b l j && decide (j < i)) := by
    by_cases hj : j = i
    · subst hj; rw [h]; simp
    · have : decide (j < i + 1) = decide (j < i) := decide_eq_decide.2 (by omega)
      rw [this]
  unfold onceAt
  rw [h1, deadZ_succ, h]
  simp
theorem onceAt_yes {b : Mk} {l : List Obj} {i : Nat} (h : deadB b l i = true) {j : Nat} (hj : j ≠ i) (o : Obj) : onceIn i (onceAt b l i j o) = onceAt b l (i + 1) j o := by
  have h1 : (deadB b l j && decide (j < i + 1)) = (deadB b l j && decide (j < i)) := by
    have : decide (j < i + 1) = decide (j < i) := decide_eq_decide.2 (by omega)
    rw [this]
  unfold onceAt
  rw [h1, deadZ_succ, h]
  by_cases hd : (deadB b l j && decide (j < i)) = true
  · rw [if_pos hd, if_pos hd]; rfl
  · rw [if_neg hd, if_neg hd]
    by_cases hk : (o.kind == 4) = true
    · by_cases hz : deadZ b l i o.peer = true
      · rw [hk, hz]
        simp [onceIn]
      · rw [Bool.not_eq_true] at hz
        rw [hk, hz]
        by_cases hp : (o.peer == (i : Int)) = true
        · simp [onceIn, hk, hp]
        · rw [Bool.not_eq_true] at hp
          simp [onceIn, hp]
    · rw [Bool.not_eq_true] at hk
      rw [hk]
      simp [onceIn, hk]
theorem onceAt_self {b : Mk} {l : List Obj} {i : Nat} (h : deadB b l i = true) (o : Obj) : onceAt b l (i + 1) i o = zeroO := by
  unfold onceAt
  rw [h]
  simp
theorem onceAt_zero (b : Mk) (l : List Obj) (j : Nat) (o : Obj) : onceAt b l 0 j o = o := by
  unfold onceAt
  have : deadZ b l 0 o.peer = false := by simp [deadZ]
  rw [this]
  simp
theorem onceAt_kind {b : Mk} {l : List Obj} {i : Nat} (o : Obj) : (onceAt b l i i o).kind = o.kind := by
  unfold onceAt
  simp
  split <;> rfl



end Go.Proofs.Ytjofmgkcllffnaa
