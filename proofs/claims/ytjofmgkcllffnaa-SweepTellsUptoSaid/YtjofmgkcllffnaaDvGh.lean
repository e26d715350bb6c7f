import Derived.Test.YtjofmgkcllffnaaAmZ2
import Derived.Test.YtjofmgkcllffnaaDvGf
import Derived.Test.YtjofmgkcllffnaaAmY
import Derived.Test.YtjofmgkcllffnaaDvGd
import Derived.Test.YtjofmgkcllffnaaDvGg
import Derived.Test.YtjofmgkcllffnaaDvGb
set_option linter.unusedVariables false
set_option linter.unusedSimpArgs false
namespace Go.Proofs.Ytjofmgkcllffnaa
open Go.AM Go.ChangeShapes Go.WideShapes Go.ChangeAt Go.RowKit
/-! what the code marks is what the document reaches -/
theorem mark_sub {l : List Obj} {ops : List Opn} {ps : List Prc} {b : Mk} {L : List Nat} (hm : MarkOK l ops ps b) (hr : ReachOK l ops ps L) {n : Nat} (h : n ∈ L) : onB b.O n :=
  hr.inv.least _ _ hm.cl hm.roots n h
theorem capZ_at {ops : List Opn} {c : Nat} {o : Opn} (h : ops[c]? = some o) : capZ ops (c : Nat) = o.obj := by
  rw [capZ, if_pos (by omega), show ((c : Nat) : Int).toNat = c from by omega, h]
theorem mark_in {l : List Obj} {ops : List Opn} {ps : List Prc} {b : Mk} {L : List Nat} (hm : MarkOK l ops ps b) (hr : ReachOK l ops ps L) : InR (fun n => n ∈ L) (fun c => T2 l ps L l.length 0 (c : Nat)) b := by
  refine hm.least _ _ ⟨fun i o hi ho z n hz hn => hr.ce i o hi ho z hz n hn, fun i o hi ho z c hz hc => ?_, fun c o hc ho n hn => ?_⟩ ⟨hr.inv.root, fun p pr hp hl s hs hh c hc => ?_⟩
  · obtain ⟨q, hq, hh, rfl⟩ := hz
    obtain ⟨k, hk⟩ := List.mem_iff_getElem?.1 hq
    have hi2 := (List.getElem?_eq_some_iff.1 ho).1
    exact .inr ⟨i, o, k, q, hi, ho, hk, hh, .inl hi2, hc.1.symm⟩
  · rcases hc with ⟨i, pr, k, s, h1, h2, h3, h4, _, h6⟩ | ⟨i, o2, k, q, h1, h2, h3, h4, _, h6⟩
    · exact hr.cp i pr h1 h2 s (List.mem_of_getElem? h3) h4 n (by rw [← h6, capZ_at ho]; exact hn)
    · exact hr.cq i o2 h1 h2 q (List.mem_of_getElem? h3) h4 n (by rw [← h6, capZ_at ho]; exact hn)
  · obtain ⟨k, hk⟩ := List.mem_iff_getElem?.1 hs
    have hp2 := (List.getElem?_eq_some_iff.1 hp).1
    exact .inl ⟨p, pr, k, s, hp, hl, hk, hh, .inl hp2, hc.1.symm⟩
theorem mark_obj {l : List Obj} {ops : List Opn} {ps : List Prc} {b : Mk} {L : List Nat} (hm : MarkOK l ops ps b) (hr : ReachOK l ops ps L) (n : Nat) : n ∈ L ↔ onB b.O n :=
  ⟨mark_sub hm hr, (mark_in hm hr).1 n⟩
theorem mark_opn {l : List Obj} {ops : List Opn} {ps : List Prc} {b : Mk} {L : List Nat} {Q : List Int} (hm : MarkOK l ops ps b) (hr : ReachOK l ops ps L) (hQ : OpenSet l ps L Q) {c : Nat} (hc : c < ops.length) : inZ Q (c : Nat) = true ↔ onB b.P c := by
  rw [hQ (c : Nat)]
  constructor
  · rintro (⟨i, pr, k, s, h1, h2, h3, h4, _, h6⟩ | ⟨i, o2, k, q, h1, h2, h3, h4, _, h6⟩)
    · exact hm.roots.2 i pr h1 h2 s (List.mem_of_getElem? h3) h4 c ⟨h6.symm, hc⟩
    · exact hm.cl.q i o2 (mark_sub hm hr h1) h2 q.opn c ⟨q, List.mem_of_getElem? h3, h4, rfl⟩ ⟨h6.symm, hc⟩
  · exact (mark_in hm hr).2 c

/-! a round of the document is what the code's once leaves -/
/-- ends whose other end is there; what is of no kind is the zero object -/
structure KPe (l : List Obj) : Prop where
  z : ∀ o, o ∈ l → o.kind = 0 → o = zeroO
  p : ∀ o, o ∈ l → o.kind = 4 → o.peer = -1 ∨ ∃ (i : Nat) (x : Obj), o.peer = (i : Int) ∧ l[i]? = some x ∧ x.kind ≠ 0
theorem beq_some_true {L : List Bool} {i : Nat} : (L[i]? == some true) = true ↔ onB L i := by
  unfold onB
  cases L[i]? with
  | none => simp
  | some x => cases x <;> simp
theorem not_onB {L : List Bool} {i : Nat} (h : ¬ onB L i) : (!(L[i]? == some true)) = true := by
  cases hb : (L[i]? == some true) with
  | false => rfl
  | true => exact absurd (beq_some_true.1 hb) h
theorem round_obj {l : List Obj} {ops : List Opn} {ps : List Prc} {b : Mk} {L : List Nat} (hm : MarkOK l ops ps b) (hr : ReachOK l ops ps L) (hk : KPe l) {i : Nat} {o : Obj} (ho : l[i]? = some o) : onceAt b l l.length i o = roF L i o := by
  have hi := (List.getElem?_eq_some_iff.1 ho).1
  have hmo := mark_obj hm hr
  by_cases hL : i ∈ L
  · have hin : inN L (i : Nat) = true := inN_iff.2 hL
    have hb : (b.O[i]? == some true) = true := beq_some_true.2 ((hmo i).1 hL)
    have hd : deadB b l i = false := by rw [deadB, ho]; simp [hb]
    rw [roF, hin, onceAt, hd]
    simp only [Bool.false_and, Bool.false_eq_true, if_false]
    by_cases h4 : o.kind = 4
    · rcases hk.p o (List.mem_of_getElem? ho) h4 with hp | ⟨j, x, hp, hx, hxk⟩
      · have e : ({ o with peer := -1 } : Obj) = o := by rw [← hp]
        rw [e]
        simp
      · have hj := (List.getElem?_eq_some_iff.1 hx).1
        have hz : deadZ b l l.length o.peer = !(inN L o.peer) := by
          rw [hp, deadZ]
          have e1 : decide (0 ≤ (j : Int) ∧ (j : Int).toNat < l.length) = true := decide_eq_true ⟨by omega, by omega⟩
          rw [e1, show (j : Int).toNat = j from by omega, deadB, hx, Bool.true_and]
          have e2 : (x.kind != 0) = true := by simpa using hxk
          show (!(b.O[j]? == some true) && x.kind != 0) = _
          rw [e2, Bool.and_true]
          cases hjL : inN L (j : Nat) with
          | true => rw [beq_some_true.2 ((hmo j).1 (inN_iff.1 hjL))]
          | false =>
            rw [not_onB fun h => by rw [inN_iff.2 ((hmo j).2 h)] at hjL; cases hjL]
            rfl
        rw [hz]
        cases hq : inN L o.peer <;> simp [h4]
    · simp [h4]
  · have hin : inN L (i : Nat) = false := by
      cases h : inN L (i : Nat) with
      | false => rfl
      | true => exact absurd (inN_iff.1 h) hL
    have hb : (!(b.O[i]? == some true)) = true := not_onB fun h => hL ((hmo i).2 h)
    rw [roF, hin, if_pos rfl, onceAt]
    by_cases h0 : o.kind = 0
    · have hz := hk.z o (List.mem_of_getElem? ho) h0
      have hd : deadB b l i = false := by rw [deadB, ho]; simp [h0]
      rw [hd, hz]
      simp [zeroO]
    · have hd : deadB b l i = true := by
        rw [deadB, ho]
        show (!(b.O[i]? == some true) && o.kind != 0) = true
        rw [hb]
        simpa using h0
      rw [hd, decide_eq_true hi]
      rfl
theorem KPe.round {l : List Obj} {ops : List Opn} {ps : List Prc} {L : List Nat} (hk : KPe l) (hr : ReachOK l ops ps L) : KPe (rlS L l) := by
  refine ⟨fun o ho h0 => ?_, fun o ho h4 => ?_⟩
  · obtain ⟨i, x, hx, rfl⟩ := mem_mapIdx ho
    unfold roF at h0 ⊢
    split at h0
    · rw [if_pos (by assumption)]
    · rename_i hin
      have hin : i ∈ L := inN_iff.1 (by simpa using hin)
      obtain ⟨_, o2, h2, h3⟩ := hr.inv.val i hin
      rw [hx] at h2
      cases h2
      split at h0 <;> exact absurd h0 h3
  · obtain ⟨i, x, hx, rfl⟩ := mem_mapIdx ho
    unfold roF at h4 ⊢
    split at h4
    · cases h4
    · rename_i hin
      rw [if_neg hin]
      split at h4
      · rename_i hc
        rw [if_pos hc]
        exact .inl rfl
      · rename_i hc
        rw [if_neg hc]
        rcases hk.p x (List.mem_of_getElem? hx) h4 with hp | ⟨j, y, hp, hy, hyk⟩
        · exact .inl hp
        · have hj : inN L (j : Nat) = true := by
            cases h : inN L (j : Nat) with
            | true => rfl
            | false => exact absurd ⟨h4, by rw [hp]; exact h⟩ hc
          refine .inr ⟨j, roF L j y, hp, by rw [rlS, List.getElem?_mapIdx, hy]; rfl, ?_⟩
          unfold roF
          rw [hj, if_neg (by simp)]
          split <;> exact hyk

/-! a round of the document is one once of the code -/
theorem endsS_rpM (l' : List Obj) (ps : List Prc) : ∀ k, endsS l' ps k = rpM l' ps k
  | 0 => rfl
  | k + 1 => by
    have ih := endsS_rpM l' ps k
    rw [rpM, ← ih]
    unfold endsS
    rw [List.range_succ, List.any_append, List.any_cons, List.any_nil, Bool.or_false, Bool.or_comm]
    rfl
theorem pt_idx {α : Type} {l L : List α} {f : Nat → α → α} (h : Pt l L f) : L = l.mapIdx f := by
  refine List.ext_getElem? fun i => ?_
  rw [List.getElem?_mapIdx]
  cases hx : l[i]? with
  | none => exact List.getElem?_eq_none_iff.2 (by rw [h.1]; exact List.getElem?_eq_none_iff.1 hx)
  | some x => rw [h.2 i x hx]; rfl
theorem mapIdx_eq {α β : Type} {f g : Nat → α → β} {l : List α} (h : ∀ (i : Nat) x, l[i]? = some x → f i x = g i x) : l.mapIdx f = l.mapIdx g := by
  refine List.ext_getElem? fun i => ?_
  rw [List.getElem?_mapIdx, List.getElem?_mapIdx]
  cases hx : l[i]? with
  | none => rfl
  | some x => rw [Option.map_some, Option.map_some, h i x hx]
/-- **the code's once is the document's round** -/
theorem once_round {l : List Obj} {ops : List Opn} {ps : List Prc} {O : List Obj} {O2 : List Opn} {O3 : List Prc} {en : Bool} (h : OnceOK l ops ps O O2 O3 en) (hk : KPe l) {b : Kx} {more : Bool} (s : RStep ⟨l, ops, ps⟩ b more) :
    O = b.l ∧ O2 = b.ops ∧ O3 = b.ps ∧ en = more ∧ KPe b.l := by
  obtain ⟨⟨mk, hm, hO, hO2⟩, hO3, hen⟩ := h
  obtain ⟨⟨L, Q, hr, hQ, e1, e2⟩, e3, e4⟩ := s
  have hr : ReachOK l ops ps L := hr
  have hQ : OpenSet l ps L Q := hQ
  have e1 : b.l = rlS L l := e1
  have e2 : b.ops = ropS Q ops := e2
  have a1 : O = b.l := by
    rw [pt_idx hO, e1, rlS]
    exact mapIdx_eq fun i o ho => round_obj hm hr hk ho
  have a2 : O2 = b.ops := by
    rw [pt_idx hO2, e2, ropS]
    refine mapIdx_eq fun i o ho => ?_
    have hi := (List.getElem?_eq_some_iff.1 ho).1
    have hmo := mark_opn hm hr hQ hi
    rw [opS, ropF, decide_eq_true hi, Bool.true_and]
    cases hq : inZ Q (i : Nat) with
    | true => rw [beq_some_true.2 (hmo.1 hq)]; rfl
    | false =>
      rw [not_onB fun h => by rw [hmo.2 h] at hq; cases hq]
      rfl
  have a3 : O3 = b.ps := by
    rw [pt_idx hO3, e3, a1, rpS]
    refine mapIdx_eq fun i o ho => ?_
    have hi := (List.getElem?_eq_some_iff.1 ho).1
    rw [prS, rpF, decide_eq_true hi, Bool.true_and]
    rfl
  refine ⟨a1, a2, a3, ?_, by rw [e1]; exact hk.round hr⟩
  rw [hen, e4, a1]
  exact endsS_rpM b.l ps ps.length

/-! the code's Sweep is the document's -/
theorem TruE_unique {α : Type} {q : Nat → α → Bool} {mn : Nat} {L : List α} {a b : Nat} (ha : TruE q mn L a) (hb : TruE q mn L b) : a = b := by
  have key : ∀ {a b : Nat}, TruE q mn L a → TruE q mn L b → ¬ a < b := fun {a b} ha hb hlt => by
    have h1 := ha.t.mn
    have h2 := hb.t.le
    rcases hb.e with h3 | ⟨o, ho, hq⟩
    · omega
    · have := ha.t.dr (b - 1) o (by omega) ho
      rw [hq] at this
      cases this
  have h1 := key ha hb
  have h2 := key hb ha
  omega
structure CutOK {α : Type} (g : Nat → α → Bool) (n0 : Nat) (L : List α) (k N : Nat) : Prop where
  lo : n0 ≤ N
  hi : N ≤ n0 ∨ N ≤ k
  dr : ∀ t x, N ≤ t → t < k → L[t]? = some x → g t x = false
  ls : N = n0 ∨ ∃ x, L[N - 1]? = some x ∧ g (N - 1) x = true ∧ 0 < N
theorem cut_ok {α : Type} {f : Nat → Nat → α → Nat} {g : Nat → α → Bool} {n0 : Nat} {L : List α} (h0 : ∀ t x, t < n0 → g t x = false)
    (hf : ∀ n i x, n0 ≤ n → (n ≤ n0 ∨ n ≤ i) → f n i x = if g i x = true then i + 1 else n) : ∀ k, k ≤ L.length → CutOK g n0 L k (cutN f n0 L k)
  | 0, _ => ⟨Nat.le_refl _, .inl (Nat.le_refl _), fun t x _ h => absurd h (Nat.not_lt_zero t), .inl rfl⟩
  | k + 1, hk => by
    have ih := cut_ok (f := f) (g := g) (L := L) h0 hf k (by omega)
    have hlt : k < L.length := hk
    rw [cutN_succ hlt, hf _ k _ ih.lo ih.hi]
    cases hg : g k L[k] with
    | true =>
      have hn : n0 ≤ k := by
        rcases Nat.lt_or_ge k n0 with h | h
        · rw [h0 k _ h] at hg; cases hg
        · exact h
      rw [if_pos rfl]
      exact ⟨by omega, .inr (Nat.le_refl _), fun t x h1 h2 => by omega, .inr ⟨L[k], List.getElem?_eq_getElem hlt, hg, by omega⟩⟩
    | false =>
      rw [if_neg (by simp)]
      refine ⟨ih.lo, by have := ih.hi; omega, fun t x h1 h2 hx => ?_, ih.ls⟩
      by_cases ht : t = k
      · subst ht
        rw [List.getElem?_eq_getElem hlt] at hx
        cases hx
        exact hg
      · exact ih.dr t x h1 (by omega) hx
theorem CutOK.tru {α : Type} {g q : Nat → α → Bool} {n0 : Nat} {L : List α} {N : Nat} (h : CutOK g n0 L L.length N) (h0 : ∀ t x, t < n0 → g t x = false) (hq : ∀ t x, n0 ≤ t → q t x = !(g t x)) : TruE q n0 L (minNat N L.length) := by
  have hmin : minNat N L.length = N ∨ (L.length < N ∧ minNat N L.length = L.length) := by
    unfold minNat
    split
    · exact .inr ⟨by omega, rfl⟩
    · exact .inl rfl
  have hlo := h.lo
  have hle := minNat_le N L.length
  refine ⟨⟨hle, by rcases hmin with e | ⟨_, e⟩ <;> omega, fun t x ht hx => ?_⟩, ?_⟩
  · have htl := (List.getElem?_eq_some_iff.1 hx).1
    have hN : N ≤ t := by rcases hmin with e | ⟨_, e⟩ <;> omega
    rw [hq t x (by omega), h.dr t x hN htl hx]
    rfl
  · rcases h.ls with e | ⟨x, hx, hg, hp⟩
    · left
      rcases hmin with e2 | ⟨_, e2⟩ <;> omega
    · right
      have hxl := (List.getElem?_eq_some_iff.1 hx).1
      have e : minNat N L.length = N := by rcases hmin with e | ⟨_, e⟩ <;> omega
      rw [e]
      refine ⟨x, hx, ?_⟩
      have : n0 ≤ N - 1 := by
        rcases Nat.lt_or_ge (N - 1) n0 with h1 | h1
        · rw [h0 _ x h1] at hg; cases hg
        · exact h1
      rw [hq _ x this, hg]
      rfl
theorem cutO (l : List Obj) : TruE qO 1 l (minNat (cutN nF 1 l l.length) l.length) := by
  have h0 : ∀ t (x : Obj), t < 1 → (fun (i : Nat) (o : Obj) => decide (1 ≤ i) && o.kind != 0) t x = false := fun t x h => by
    have : t = 0 := by omega
    subst this; rfl
  refine (cut_ok (g := fun i o => decide (1 ≤ i) && o.kind != 0) h0 (fun n i x h1 h2 => ?_) l.length (Nat.le_refl _)).tru h0 fun t x ht => ?_
  · unfold nF
    by_cases hk : x.kind = 0
    · simp [hk]
    · by_cases hi : 1 ≤ i
      · rw [if_pos ⟨hk, by omega⟩, if_pos (by simp [hi, hk])]
      · rw [if_neg (fun h => by have := h.2; omega), if_neg (by simp [hi])]
  · simp [qO, ht, bne]
theorem cutP (ops : List Opn) : TruE qP 0 ops (cutN oF 0 ops ops.length) := by
  have h := (cut_ok (f := oF) (g := fun (_ : Nat) (o : Opn) => decide (0 ≤ o.obj)) (n0 := 0) (L := ops) (fun t x h => absurd h (Nat.not_lt_zero t)) (fun n i x h1 h2 => by unfold oF; by_cases h : 0 ≤ x.obj <;> simp [h]) ops.length (Nat.le_refl _)).tru (q := qP) (fun t x h => absurd h (Nat.not_lt_zero t)) fun t x ht => by
    unfold qP
    by_cases h : 0 ≤ x.obj
    · simp [h]
    · simp [h]; omega
  have e : minNat (cutN oF 0 ops ops.length) ops.length = cutN oF 0 ops ops.length := by
    have := cutN_oF ops ops.length
    unfold minNat
    rw [if_neg (by omega)]
  rw [e] at h
  exact h
theorem cutR (l : List Obj) (ps : List Prc) : TruE (qR l) 1 ps (minNat (cutN (pF l) 1 ps ps.length) ps.length) := by
  have h0 : ∀ t (x : Prc), t < 1 → kpP l t x = false := fun t x h => by
    have : t = 0 := by omega
    subst this; rfl
  refine (cut_ok (g := kpP l) h0 (fun n i x h1 h2 => rfl) ps.length (Nat.le_refl _)).tru h0 fun t x ht => ?_
  unfold qR kpP
  rw [decide_eq_true (by omega : 0 < t), Bool.true_and, Bool.not_or]
theorem held_take {l : List Obj} {n : Nat} (h : TruE qO 1 l n) (p : Int) : (l.take n).any (heldB p) = l.any (heldB p) := by
  cases hb : l.any (heldB p) with
  | false =>
    rw [List.any_eq_false] at hb ⊢
    exact fun x hx => hb x (List.mem_of_mem_take hx)
  | true =>
    rw [List.any_eq_true] at hb ⊢
    obtain ⟨x, hx, hh⟩ := hb
    obtain ⟨t, ht⟩ := List.mem_iff_getElem?.1 hx
    refine ⟨x, ?_, hh⟩
    rcases Nat.lt_or_ge t n with h2 | h2
    · exact List.mem_of_getElem? (by rw [List.getElem?_take_of_lt h2]; exact ht)
    · have := h.t.dr t x h2 ht
      unfold qO at this
      unfold heldB at hh
      have h3 : x.kind = 0 := by simpa using this
      rw [h3] at hh
      cases hh

theorem SwTo_head {k a : Kr} (h : SwTo k a) : a = k ∨ ∃ x, OnceOK k.l k.ops k.ps x.l x.ops x.ps true ∧ SwTo x a := by
  induction h with
  | refl => exact .inl rfl
  | @step a b h s ih =>
    rcases ih with rfl | ⟨x, hx, hxa⟩
    · exact .inr ⟨b, s, .refl⟩
    · exact .inr ⟨x, hx, .step hxa s⟩
theorem RTo_head {k a : Kx} (h : RTo k a) : a = k ∨ ∃ x, RStep k x true ∧ RTo x a := by
  induction h with
  | refl => exact .inl rfl
  | @step a b h s ih =>
    rcases ih with rfl | ⟨x, hx, hxa⟩
    · exact .inr ⟨b, s, .refl⟩
    · exact .inr ⟨x, hx, .step hxa s⟩
/-- the code's rounds and the document's come to the same -/
theorem rounds_same : ∀ (n : Nat) (l : List Obj) (ops : List Opn) (ps : List Prc), flives ps = n → KPe l → ∀ (a c : Kr), SwTo ⟨l, ops, ps⟩ a → OnceOK a.l a.ops a.ps c.l c.ops c.ps false → ∀ b, RFin ⟨l, ops, ps⟩ b → c.l = b.l ∧ c.ops = b.ops ∧ c.ps = b.ps := by
  intro n
  induction n using Nat.strongRecOn with
  | _ n ih =>
    intro l ops ps hn hk a c ha hc b ⟨a', ha', hb⟩
    rcases SwTo_head ha with rfl | ⟨x, hx, hxa⟩
    · rcases RTo_head ha' with rfl | ⟨y, hy, hya⟩
      · obtain ⟨h1, h2, h3, _, _⟩ := once_round hc hk hb
        exact ⟨h1, h2, h3⟩
      · have := (once_round hc hk hy).2.2.2.1
        cases this
    · rcases RTo_head ha' with rfl | ⟨y, hy, hya⟩
      · have := (once_round hx hk hb).2.2.2.1
        cases this
      · obtain ⟨h1, h2, h3, _, hk2⟩ := once_round hx hk hy
        have hless := hy.less
        obtain ⟨xl, xo, xp⟩ := x
        obtain ⟨yl, yo, yp⟩ := y
        cases h1
        cases h2
        cases h3
        exact ih (flives xp) (by rw [← hn]; exact hless) xl xo xp rfl hk2 a c hxa hc b ⟨a', hya, hb⟩
/-- **the code's Sweep is the document's**, of a kernel whose ends are whole -/
theorem sweeps_same {k a c d : Kr} (hk : KPe k.l) (ha : SwTo k a) (hc : OnceOK a.l a.ops a.ps c.l c.ops c.ps false) (hd : SwFin c d) {b : Kx} (hb : RFin ⟨k.l, k.ops, k.ps⟩ b) : kernV d.l d.ops d.ps = swK b := by
  obtain ⟨e1, e2, e3⟩ := rounds_same _ k.l k.ops k.ps rfl hk a c ha hc b hb
  obtain ⟨n1, n2, n3, P, h1, h2, hP, h3, rfl⟩ := hd
  obtain ⟨cl, co, cp⟩ := c
  obtain ⟨bl, bo, bp⟩ := b
  cases e1
  cases e2
  cases e3
  have h1 : TruE qO 1 cl n1 := h1
  have h2 : TruE qP 0 co n2 := h2
  have hP : Pt cp P (prZ (cl.take n1) cp.length) := hP
  have h3 : TruE (qR (cl.take n1)) 1 P n3 := h3
  have hh := held_take h1
  have hPe : P = cp.mapIdx (clF cl) := by
    rw [pt_idx hP]
    refine mapIdx_eq fun i x hx => ?_
    have hi := (List.getElem?_eq_some_iff.1 hx).1
    rw [prZ, clF, decide_eq_true hi, Bool.true_and, qZ, hh, clB]
  have hqR : qR (cl.take n1) = qR cl := by
    funext t o
    rw [qR, qR, hh]
  rw [hqR] at h3
  subst hPe
  have t1 := TruE_unique h1 (cutO cl)
  have t2 := TruE_unique h2 (cutP co)
  have t3 := TruE_unique h3 (cutR cl (cp.mapIdx (clF cl)))
  subst t1 t2 t3
  rfl

/-! sweep.Reach against the document's set -/
theorem len_sub : ∀ (a b : List Nat), a.Nodup → (∀ x, x ∈ a → x ∈ b) → a.length ≤ b.length
  | [], b, _, _ => Nat.zero_le _
  | x :: a, b, hn, hs => by
    have hx := hs x (by simp)
    have ⟨hxa, hna⟩ := List.nodup_cons.1 hn
    have ih := len_sub a (b.erase x) hna fun y hy => by
      have hne : y ≠ x := fun e => hxa (e ▸ hy)
      exact (List.mem_erase_of_ne hne).2 (hs y (by simp [hy]))
    rw [List.length_erase_of_mem hx] at ih
    have : 0 < b.length := List.length_pos_of_mem hx
    rw [List.length_cons]
    omega
theorem idxsB_mem {B : List Bool} {k i : Nat} : i ∈ idxsB B k ↔ i < k ∧ onB B i := by
  unfold idxsB
  rw [List.mem_filter, List.mem_range, beq_some_true]
theorem idxsB_asc (B : List Bool) (k : Nat) : (idxsB B k).Pairwise (· < ·) := List.Pairwise.filter _ List.pairwise_lt_range
/-- what sweep.Reach tells: each is reached, ascending, and there are as many -/
theorem reach_tells {l : List Obj} {ops : List Opn} {ps : List Prc} {b : Mk} {L : List Nat} (hm : MarkOK l ops ps b) (hr : ReachOK l ops ps L) :
    (∀ i, i ∈ idxsB b.O l.length → inN L (i : Nat) = true) ∧ (idxsB b.O l.length).Pairwise (· < ·) ∧ (idxsB b.O l.length).length = L.length := by
  have hmem : ∀ i, i ∈ idxsB b.O l.length ↔ i ∈ L := fun i => by
    rw [idxsB_mem, mark_obj hm hr i]
    refine ⟨fun h => h.2, fun h => ⟨?_, h⟩⟩
    obtain ⟨_, o, ho, _⟩ := hr.inv.val i ((mark_obj hm hr i).2 h)
    exact (List.getElem?_eq_some_iff.1 ho).1
  have hasc := idxsB_asc b.O l.length
  have hnd : (idxsB b.O l.length).Nodup := hasc.imp fun h => Nat.ne_of_lt h
  refine ⟨fun i hi => inN_iff.2 ((hmem i).1 hi), hasc, ?_⟩
  have h1 := len_sub _ _ hnd fun x hx => (hmem x).1 hx
  have h2 := len_sub _ _ hr.inv.nd fun x hx => (hmem x).2 hx
  omega

def c6 : LF := ⟨57, [.tmp 2], (.seq (.reg [
    ⟨(some 2), .mov (.c (.rv (.one (.dat (.val (.bool false)))))), none⟩]) (.seq (.reg [
    ⟨(some 8), .mov (.t 0), none⟩,
    ⟨(some 9), .call (.c (.rv (.one (.fn 9 [])))) [(.t 8)], none⟩,
    ⟨(some 3), .alloc [.esl, .esl, .esl], none⟩,
    ⟨none, .store 3 (.t 3) (.t 9), none⟩]) (.seq (.reg [
    ⟨(some 10), .load true 3 (.t 3), none⟩,
    ⟨(some 11), .call (.c (.rv (.one (.fn 19 [])))) [(.t 10)], none⟩,
    ⟨(some 4), .mov (.t 11), none⟩]) (.seq (.reg [
    ⟨(some 5), .mov (.c (.rv (.one (.dat (.val (.int .i64 (0))))))), none⟩]) (.seq (.seq (.reg [
    ⟨(some 12), .load true 3 (.t 3), none⟩,
    ⟨(some 13), .call (.c (.rv (.one (.fn 20 [])))) [(.t 12)], none⟩,
    ⟨(some 14), .len 1 (.t 13), none⟩,
    ⟨(some 15), .mov (.c (.rv (.one (.dat (.val (.int .i64 (0))))))), none⟩]) (.block 0 (.loop (.seq (.reg [
    ⟨(some 16), .bin .lss (.t 15) (.t 14), none⟩]) (.seq (.cond (.t 16) .skip (.exit 0)) (.seq (.block 1 (.seq (.reg [
    ⟨(some 17), .idx 1 (.t 13) (.t 15), none⟩,
    ⟨(some 18), .load false 1 (.t 17), none⟩,
    ⟨(some 7), .mov (.t 18), none⟩]) (.seq (.seq (.reg [
    ⟨(some 19), .mov (.t 4), none⟩,
    ⟨(some 20), .mov (.t 7), none⟩,
    ⟨(some 21), .mget (.one (.dat (.val (.bool false)))) (.i .i64) (.t 19) (.t 20) false, none⟩,
    ⟨(some 22), .un .not (.t 21), none⟩,
    ⟨(some 23), .mov (.t 22), none⟩,
    ⟨(some 24), .mov (.t 5), (some (23, false))⟩,
    ⟨(some 25), .bin .gtr (.t 24) (.c (.rv (.one (.dat (.val (.int .i64 (0))))))), (some (23, false))⟩,
    ⟨(some 26), .mov (.t 25), (some (23, false))⟩,
    ⟨(some 27), .mov (.t 7), (some (26, true))⟩,
    ⟨(some 28), .load true 3 (.t 3), (some (26, true))⟩,
    ⟨(some 29), .call (.c (.rv (.one (.fn 20 [])))) [(.t 28)], (some (26, true))⟩,
    ⟨(some 30), .mov (.t 5), (some (26, true))⟩,
    ⟨(some 31), .bin .sub (.t 30) (.c (.rv (.one (.dat (.val (.int .i64 (1))))))), (some (26, true))⟩,
    ⟨(some 32), .idx 1 (.t 29) (.t 31), (some (26, true))⟩,
    ⟨(some 33), .load false 1 (.t 32), (some (26, true))⟩,
    ⟨(some 34), .bin .leq (.t 27) (.t 33), (some (26, true))⟩,
    ⟨(some 35), .pick (.t 26) (.t 34) (.c (.rv (.one (.dat (.val (.bool false)))))), (some (23, false))⟩,
    ⟨(some 36), .pick (.t 23) (.c (.rv (.one (.dat (.val (.bool true)))))) (.t 35), none⟩]) (.cond (.t 36) (.seq (.reg [
    ⟨(some 2), .mov (.c (.rv (.one (.dat (.val (.bool false)))))), none⟩]) .ret) .skip)) (.reg [
    ⟨(some 37), .mov (.t 5), none⟩,
    ⟨(some 38), .bin .add (.t 37) (.c (.rv (.one (.dat (.val (.int .i64 (1))))))), none⟩,
    ⟨(some 5), .mov (.t 38), none⟩])))) (.reg [
    ⟨(some 39), .bin .add (.t 15) (.c (.rv (.one (.dat (.val (.int .i64 (1))))))), none⟩,
    ⟨(some 15), .mov (.t 39), none⟩]))))))) (.seq (.draw [
    ⟨(some 40), .mov (.t 5), none⟩,
    ⟨(some 41), .mov (.t 4), none⟩,
    ⟨(some 42), .len 2 (.t 41), none⟩,
    ⟨(some 43), .bin .eql (.t 40) (.t 42), none⟩,
    ⟨(some 44), .mov (.t 43), none⟩,
    ⟨(some 45), .load true 3 (.t 3), (some (44, true))⟩,
    ⟨(some 46), .call (.c (.rv (.one (.fn 22 [])))) [(.t 45)], (some (44, true))⟩,
    ⟨(some 47), .load true 3 (.t 3), (some (44, true))⟩,
    ⟨(some 48), .call (.c (.rv (.one (.fn 21 [])))) [(.t 46), (.t 47)], (some (44, true))⟩,
    ⟨(some 49), .pick (.t 44) (.t 48) (.c (.rv (.one (.dat (.val (.bool false)))))), none⟩,
    ⟨(some 50), .mov (.t 49), none⟩,
    ⟨(some 51), .load true 3 (.t 3), (some (50, true))⟩,
    ⟨(some 52), .call (.c (.rv (.one (.fn 23 [])))) [(.t 51)], (some (50, true))⟩,
    ⟨(some 53), .load true 3 (.t 3), (some (50, true))⟩,
    ⟨(some 54), .call (.c (.rv (.one (.fn 8 [])))) [(.t 53)], (some (50, true))⟩,
    ⟨(some 55), .call (.c (.rv (.one (.fn 21 [])))) [(.t 52), (.t 54)], (some (50, true))⟩,
    ⟨(some 56), .pick (.t 50) (.t 55) (.c (.rv (.one (.dat (.val (.bool false)))))), none⟩,
    ⟨(some 2), .mov (.t 56), none⟩]
    [(.cons 0 none (.cons 1 none (.cons 2 none (.cons 3 none (.cons 4 none (.cons 5 none (.cons 7 none (.cons 6 (some [7]) (.cons 8 (some []) (.cons 9 none (.cons 10 none (.cons 11 none (.cons 13 none (.cons 12 (some [13]) (.cons 14 (some []) (.cons 15 (some []) (.cons 16 none (.cons 17 none .nil))))))))))))))))))]) .ret))))))⟩
/-! the law SweepTells -/
theorem l6 : lowF Try.prog Try.f6 = some c6 := by kernel_rfl
theorem GoodK.kr {l : List Obj} {op : List Opn} {ps : List Prc} (hk : GoodK l op ps) : KrOK l op ps :=
  ⟨hk.objs.sm, by have := hk.objs.len; omega, by have := hk.opns.1; omega, by have := hk.prcs.1; omega, hk.prcs.2, fun e => by obtain ⟨p, hp, _⟩ := hk.first; rw [e] at hp; simp at hp⟩
theorem GoodK.sz {l : List Obj} {op : List Opn} {ps : List Prc} (hk : GoodK l op ps) : KSz ⟨l, op, ps⟩ :=
  ⟨hk.kr.sm, hk.kr.ll, hk.kr.lo, hk.kr.lp, fun p hp => by have := hk.kr.sl p hp; omega⟩
theorem GoodK.kpe {l : List Obj} {op : List Opn} {ps : List Prc} (hk : GoodK l op ps) : KPe l := by
  refine ⟨fun o ho h0 => absurd h0 (hk.nz o ho), fun o ho _ => ?_⟩
  rcases hk.pe o ho with h | h
  · exact .inl h
  · obtain ⟨i, hi⟩ : ∃ i : Nat, o.peer = (i : Int) := ⟨o.peer.toNat, by omega⟩
    have hlt : i < l.length := by omega
    exact .inr ⟨i, l[i], hi, List.getElem?_eq_getElem hlt, hk.nz _ (List.getElem_mem hlt)⟩
theorem idxs_same {l : List Obj} {ops : List Opn} {ps : List Prc} {b b' : Mk} {L : List Nat} (hm : MarkOK l ops ps b) (hm' : MarkOK l ops ps b') (hr : ReachOK l ops ps L) : idxsB b'.O l.length = idxsB b.O l.length := by
  unfold idxsB
  apply List.filter_congr
  intro i _
  have h1 := mark_obj hm hr i
  have h2 := mark_obj hm' hr i
  have h3 : onB b'.O i ↔ onB b.O i := h2.symm.trans h1
  rw [Bool.eq_iff_iff, beq_some_true, beq_some_true]
  exact h3
theorem nats_get {l : List Nat} {k : Nat} (h : k < l.length) : getZ (l.map nE) (k : Nat) = some [.val (.int .i64 (l[k] : Nat))] := by
  rw [getZ_nat, List.getElem?_map, List.getElem?_eq_getElem h]; rfl
set_option maxRecDepth 100000 in
set_option maxHeartbeats 32000000 in
theorem tells_body (b : List Int) (hb : BYb b) : body Try.prog c6 [.rv (.one (.dat (.sl 1 (byD b))))] [] (fun r m => r = vBool true) := by
  refine build_ok b hb fun l op ps hk => ?_
  have hkr := hk.kr
  have hsz := hk.sz
  have hll := hk.objs.len
  refine rreach_ok l op ps hkr.sm hkr.ll hkr.lp hsz.hs fun L hL => ?_
  refine sreach_ok l op ps hkr.sm hkr.ll hkr.lo hkr.lp hkr.sl fun bm hbm => ?_
  obtain ⟨t1, t2, t3⟩ := reach_tells hbm hL
  have hsame := fun b' (hb' : MarkOK l op ps b') => idxs_same hbm hb' hL
  have hlen : (idxsB bm.O l.length).length ≤ 40 := by have := List.length_filter_le (fun i => bm.O[i]? == some true) (List.range l.length); rw [List.length_range] at this; unfold idxsB; omega
  generalize idxsB bm.O l.length = R at t1 t2 t3 hsame hlen
  refine loop_keep (fun i => i ≤ R.length) [3, 4, 13, 14] (fun i => [(15, vInt .i64 (i : Nat)), (5, vInt .i64 (i : Nat))]) (fun _ => [.var [.dat (objsD l), .dat (opnD op), .dat (prcD ps)], .mp (L.map entN)]) (fun i => R.length - i) 0 (Nat.zero_le _) ?_ (fun i hi => ?_)
  · refine View.of 2 [0, 1] [] rfl rfl rfl rfl rfl rfl ?_ ?_
    · repeat (first | exact .nil | refine .junk ?_ | refine .eq rfl ?_)
    · exact .put (notF rfl) rfl (.eq rfl (by simp)) (.put (notF rfl) rfl (.eq (mapN_ren L) (by simp)) (.nil _))
  have hi : i ≤ R.length := hi
  refine bB_dec (fun h => ?_) (fun h => ?_)
  · have hlt : i < R.length := by
      have h : (i : Int) < ((R.map nE).length : Int) := h
      rw [List.length_map] at h
      omega
    have htr := t1 _ (List.getElem_mem hlt)
    refine ok_some (nats_get hlt) ?_
    refine ok_some (mFind_N (R[i] : Nat) L) ?_
    rw [htr]
    refine bB_dec (fun h0 => ?_) (fun h0 => ?_)
    · have h0 : 0 < i := by
        have h0 : (i : Int) > 0 := h0
        omega
      refine sreach_ok l op ps hkr.sm hkr.ll hkr.lo hkr.lp hkr.sl fun b' hb' => ?_
      rw [hsame b' hb']
      have e : IntKind.i64.wrap ((i : Int) - 1) = ((i - 1 : Nat) : Int) := by
        rw [show (i : Int) - 1 = ((i - 1 : Nat) : Int) by omega, wrapN (by omega)]
      have hlt1 : i - 1 < R.length := by omega
      refine ok_some (x := [.val (.int .i64 (R[i - 1] : Nat))]) (by rw [← nats_get hlt1]; exact congrArg (getZ (R.map nE)) e) ?_
      have hasc : R[i - 1] < R[i] := List.pairwise_iff_getElem.1 t2 (i - 1) i hlt1 hlt (by omega)
      refine bB_no (decide_eq_false (show ¬ ((R[i] : Nat) : Int) ≤ ((R[i - 1] : Nat) : Int) by omega)) ?_
      refine ⟨i + 1, hlt, (show R.length - (i + 1) < R.length - i by omega), View.of 2 [0, 1] [] rfl rfl rfl rfl rfl rfl ?_ ?_⟩
      · repeat (first | exact .nil | refine .junk ?_ | refine .put (.ren (next_i64 (by omega)).symm) ?_ | refine .eq rfl ?_)
      · exact .put (notF rfl) rfl (.eq rfl (by simp)) (.put (notF rfl) rfl (.eq (mapN_ren L) (by simp)) (.nil _))
    · refine ⟨i + 1, hlt, (show R.length - (i + 1) < R.length - i by omega), View.of 2 [0, 1] [] rfl rfl rfl rfl rfl rfl ?_ ?_⟩
      · repeat (first | exact .nil | refine .junk ?_ | refine .put (.ren (next_i64 (by omega)).symm) ?_ | refine .eq rfl ?_)
      · exact .put (notF rfl) rfl (.eq rfl (by simp)) (.put (notF rfl) rfl (.eq (mapN_ren L) (by simp)) (.nil _))
  · have hie : i = R.length := by
      have h : ¬ (i : Int) < ((R.map nE).length : Int) := h
      rw [List.length_map] at h
      omega
    subst hie
    refine bB_yes (show (((R.length : Nat) : Int) == ((L.map entN).length : Int)) = true by rw [List.length_map, t3]; simp) ?_
    refine sown_ok l op ps ⟨hkr.ll, fun o ho => (hkr.sm o ho).fit⟩ hkr.lo hkr.lp hkr.sl hkr.ne ?_
    refine ⟨⟨rfl, trivial⟩, ?_⟩
    refine acall_pre (args' := [kernV l op ps, kernV l op ps]) (m' := [.var [.dat (objsD l), .dat (opnD op), .dat (prcD ps)], .dead, .dead, .dead, .dead]) (View.of 5 [0, 1, 2, 3, 4] [2, 3, 4] rfl rfl rfl rfl rfl rfl
      (.put (CcsVw.agg (.cons (.frz (FrzD.rowD (Z := fun k => memN [2, 3, 4] k = true) rfl rfl 0 none)) (.cons (.frz (FrzD.rowD (Z := fun k => memN [2, 3, 4] k = true) rfl rfl 0 none)) (.cons (.frz (FrzD.rowD (Z := fun k => memN [2, 3, 4] k = true) rfl rfl 0 none)) .nil)))) (.eq rfl .nil))
      (.put (notF rfl) rfl (.eq rfl (by simp)) (.dead (.dead (.dead (.dead (.nil _))))))) ?_
    refine ksame_ok ⟨l, op, ps⟩ hkr ?_
    refine ⟨trivial, ?_⟩
    refine sweep_ok ⟨l, op, ps⟩ hkr fun a c d h1 h2 h3 => ?_
    refine ⟨⟨rfl, trivial⟩, ?_⟩
    refine fsweep_ok ⟨l, op, ps⟩ hsz fun x hx hxz => ?_
    rw [← sweeps_same (k := ⟨l, op, ps⟩) hk.kpe h1 h2 h3 hx]
    refine ⟨trivial, ?_⟩
    have hkd := h3.kr ((h2.kr (h1.kr hkr)))
    refine ksame_ok d hkd ?_
    exact ⟨trivial, rfl⟩
set_option maxRecDepth 100000 in
theorem tells_ok (b : List Int) (hb : BYb b) : ACall Try.prog 6 [.rv (.one (.dat (.sl 1 (byD b))))] [] (fun r m => r = vBool true) :=
  acall_body Try.func6 l6 rfl (Nat.le_of_ble_eq_true rfl) (tells_body b hb)


end Go.Proofs.Ytjofmgkcllffnaa
