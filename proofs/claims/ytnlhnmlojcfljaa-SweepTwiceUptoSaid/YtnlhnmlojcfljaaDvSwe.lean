import Derived.Test.YtnlhnmlojcfljaaAmZ2
import Derived.Test.YtnlhnmlojcfljaaDvSwd
import Derived.Test.YtnlhnmlojcfljaaAmY
set_option linter.unusedVariables false
set_option linter.unusedSimpArgs false
namespace Go.Proofs.Ytnlhnmlojcfljaa
open Go.AM Go.ChangeShapes Go.WideShapes Go.ChangeAt Go.RowKit
/-! swept twice as once: plain -/
theorem Tru.last {α : Type} {q : Nat → α → Bool} {mn n n' : Nat} {L : List α} (h : TruE q mn L n) (h' : TruE q mn (L.take n) n') : n' = (L.take n).length := by
  have hn := h.t.le
  have e : (L.take n).length = n := take_len hn
  have hn' := h'.t.le
  have hm' := h'.t.mn
  rw [e] at hn' hm' ⊢
  rcases Nat.lt_or_ge n' n with hlt | hge
  · exfalso
    rcases h.e with h1 | ⟨o, ho, hq⟩
    · omega
    · have h2 : (L.take n)[n - 1]? = some o := by rw [List.getElem?_take_of_lt (by omega)]; exact ho
      have := h'.t.dr (n - 1) o (by omega) h2
      rw [hq] at this
      cases this
  · omega
theorem endsS_no {L : List Obj} {ps : List Prc} (h : false = endsS L ps ps.length) {t : Nat} {x : Prc} (hx : ps[t]? = some x) : endP L t x = false := by
  cases he : endP L t x with
  | false => rfl
  | true =>
    have : endsS L ps ps.length = true := by
      unfold endsS
      rw [List.any_eq_true]
      exact ⟨t, by simpa using (List.getElem?_eq_some_iff.1 hx).1, by rw [hx]; exact he⟩
    rw [this] at h
    cases h
theorem Pt.id {α : Type} {l L : List α} {f : Nat → α → α} (h : Pt l L f) (hf : ∀ (t : Nat) o, l[t]? = some o → f t o = o) : L = l := by
  apply List.ext_getElem? 
  intro t
  cases ht : l[t]? with
  | some o => rw [h.2 t o ht, hf t o ht]
  | none =>
    have : l.length ≤ t := by simpa using ht
    simp [h.1, this]
theorem heldB_kind {p : Int} {o : Obj} (h : heldB p o = true) : o.kind ≠ 0 := by
  intro h0
  simp [heldB, h0] at h
/-- what a last round leaves: its marks are those of what it leaves, too -/
structure Left (c : Kr) (b : Mk) : Prop where
  ok : MarkOK c.l c.ops c.ps b
  all : ∀ (i : Nat) o, c.l[i]? = some o → o.kind ≠ 0 → onB b.O i
  ops : ∀ (i : Nat) o, c.ops[i]? = some o → ¬ onB b.P i → o = ⟨-1, 0⟩
  prs : ∀ (t : Nat) x, c.ps[t]? = some x → endP c.l t x = false
theorem OnceOK.left {a c : Kr} (h : OnceOK a.l a.ops a.ps c.l c.ops c.ps false) : ∃ b, Left c b := by
  obtain ⟨b, hb, hP, hP2⟩ := h.ex
  have hps : c.ps = a.ps := h.pr.id fun t o ho => by
    have := endsS_no h.en ho
    simp [prS, this]
  have hlen := hP.1
  have hlen2 := hP2.1
  -- an object that stays
  have hkeep : ∀ (i : Nat) o', a.l[i]? = some o' → onB b.O i → ∃ o, c.l[i]? = some o ∧ o.kind = o'.kind ∧ o.entries = o'.entries ∧ o.queue = o'.queue := fun i o' ho' hi => by
    refine ⟨_, hP.2 i o' ho', ?_⟩
    have hd : deadB b a.l i = false := by
      unfold deadB
      rw [ho']
      have : b.O[i]? = some true := hi
      simp [this]
    unfold onceAt
    rw [hd]
    simp only [Bool.false_and, Bool.false_eq_true, if_false]
    split <;> exact ⟨rfl, rfl, rfl⟩
  have hback : ∀ (i : Nat) o, c.l[i]? = some o → o.kind ≠ 0 → onB b.O i ∧ ∃ o', a.l[i]? = some o' ∧ o.kind = o'.kind ∧ o.entries = o'.entries ∧ o.queue = o'.queue := fun i o ho hk => by
    obtain ⟨o', ho', e⟩ := hP.get ho
    have hil : i < a.l.length := (List.getElem?_eq_some_iff.1 ho').1
    unfold onceAt at e
    split at e
    · rw [e] at hk; exact absurd rfl hk
    · rename_i hnd
      have hko : o.kind = o'.kind := by split at e <;> rw [e]
      refine ⟨?_, o', ho', hko, by split at e <;> rw [e], by split at e <;> rw [e]⟩
      have hd : deadB b a.l i = false := by
        cases hdd : deadB b a.l i with
        | false => rfl
        | true => exact absurd (by rw [hdd]; simpa using hil) hnd
      unfold deadB at hd
      rw [ho'] at hd
      have hk' : (o'.kind != 0) = true := by rw [← hko]; simpa using hk
      simp only [hk', Bool.and_true] at hd
      simpa [onB] using hd
  have hvc : ∀ z n, vO c.l z n → onB b.O n ∧ vO a.l z n := fun z n hv => by
    obtain ⟨hz, o, ho, hk⟩ := hv
    obtain ⟨h1, o', ho', hk', _⟩ := hback n o ho hk
    exact ⟨h1, hz, o', ho', by rw [← hk']; exact hk⟩
  have hva : ∀ z n, vO a.l z n → onB b.O n → vO c.l z n := fun z n hv hn => by
    obtain ⟨hz, o', ho', hk⟩ := hv
    obtain ⟨o, ho, hk', _⟩ := hkeep n o' ho' hn
    exact ⟨hz, o, ho, by rw [hk']; exact hk⟩
  have hvp : ∀ z n, vP c.ops z n ↔ vP a.ops z n := fun z n => by unfold vP; rw [hlen2]
  have hopk : ∀ (i : Nat) o, c.ops[i]? = some o → onB b.P i → a.ops[i]? = some o := fun i o ho hi => by
    obtain ⟨o', ho', e⟩ := hP2.get ho
    have : b.P[i]? = some true := hi
    rw [e]
    simpa [opS, this] using ho'
  refine ⟨b, ⟨⟨by rw [hlen]; exact hb.len.1, by rw [hlen2]; exact hb.len.2⟩, ⟨fun n hv => (hvc 0 n hv).1, fun p pr hp hl s hs hh cc hv => ?_⟩, ⟨fun i o hi ho z n hz hv => (hvc z n hv).1, fun i o hi ho z cc hz hv => ?_, fun cc o hc ho n hv => (hvc _ n hv).1⟩, fun RO RP hcl hr => ?_⟩, fun i o ho hk => (hback i o ho hk).1, fun i o ho hn => ?_, fun t x hx => ?_⟩
  · rw [hps] at hp
    exact hb.roots.2 p pr hp hl s hs hh cc ((hvp _ _).1 hv)
  · obtain ⟨o', ho', e⟩ := hP.get ho
    obtain ⟨o2, ho2, _, _, hq⟩ := hkeep i o' ho' hi
    rw [ho] at ho2
    cases ho2
    obtain ⟨q, hq1, hq2, hq3⟩ := hz
    exact hb.cl.q i o' hi ho' z cc ⟨q, by rw [← hq]; exact hq1, hq2, hq3⟩ ((hvp _ _).1 hv)
  · -- the least
    have hin := hb.least (fun i => RO i ∧ onB b.O i) (fun cc => RP cc ∧ onB b.P cc) ⟨fun i o' hi ho' z n hz hv => ?_, fun i o' hi ho' z cc hz hv => ?_, fun cc o' hc ho' n hv => ?_⟩ ⟨fun n hv => ?_, fun p pr hp hl s hs hh cc hv => ?_⟩
    · exact ⟨fun i hi => (hin.1 i hi).1, fun i hi => (hin.2 i hi).1⟩
    · have hn := hb.cl.e i o' hi.2 ho' z n hz hv
      obtain ⟨o, ho, _, he, _⟩ := hkeep i o' ho' hi.2
      obtain ⟨nm, hm⟩ := hz
      exact ⟨hcl.e i o hi.1 ho z n ⟨nm, by rw [he]; exact hm⟩ (hva z n hv hn), hn⟩
    · have hn := hb.cl.q i o' hi.2 ho' z cc hz hv
      obtain ⟨o, ho, _, _, hq⟩ := hkeep i o' ho' hi.2
      obtain ⟨q, hq1, hq2, hq3⟩ := hz
      exact ⟨hcl.q i o hi.1 ho z cc ⟨q, by rw [hq]; exact hq1, hq2, hq3⟩ ((hvp _ _).2 hv), hn⟩
    · have hn := hb.cl.p cc o' hc.2 ho' n hv
      have hco : c.ops[cc]? = some o' := by
        have := hP2.2 cc o' ho'
        have hon : b.P[cc]? = some true := hc.2
        simpa [opS, hon] using this
      exact ⟨hcl.p cc o' hc.1 hco n (hva _ n hv hn), hn⟩
    · have hn := hb.roots.1 n hv
      exact ⟨hr.1 n (hva 0 n hv hn), hn⟩
    · exact ⟨hr.2 p pr (by rw [hps]; exact hp) hl s hs hh cc ((hvp _ _).2 hv), hb.roots.2 p pr hp hl s hs hh cc hv⟩
  · obtain ⟨o', ho', e⟩ := hP2.get ho
    have hlt : i < a.ops.length := (List.getElem?_eq_some_iff.1 ho').1
    have hn : (b.P[i]? == some true) = false := by simpa [onB] using hn
    rw [e]
    simp [opS, hn, hlt]
  · rw [hps] at hx
    exact endsS_no h.en hx

/-! what Sweep answers is swept: plain -/
theorem SwFin.marks {c d : Kr} {b bd : Mk} (hl : Left c b) (hf : SwFin c d) (hd : MarkOK d.l d.ops d.ps bd) : (∀ (i : Nat) o, d.l[i]? = some o → o.kind ≠ 0 → onB bd.O i) ∧ (∀ (i : Nat) o, d.ops[i]? = some o → ¬ onB bd.P i → o = ⟨-1, 0⟩) := by
  obtain ⟨n1, n2, n3, P, t1, t2, hP, t3, rfl⟩ := hf.ex
  have hd : MarkOK (c.l.take n1) (c.ops.take n2) (P.take n3) bd := hd
  -- what is of a kind lies ahead of the cut
  have h1 : ∀ (i : Nat) o, c.l[i]? = some o → o.kind ≠ 0 → (c.l.take n1)[i]? = some o := fun i o ho hk => by
    rcases Nat.lt_or_ge i n1 with h | h
    · rw [List.getElem?_take_of_lt h]; exact ho
    · have := t1.t.dr i o h ho
      simp [qO] at this
      exact absurd this hk
  have hvO : ∀ z n, vO c.l z n → vO (c.l.take n1) z n := fun z n ⟨hz, o, ho, hk⟩ => ⟨hz, o, h1 n o ho hk, hk⟩
  have hin := hl.ok.least (fun i => onB bd.O i) (fun cc => onB bd.P cc ∨ n2 ≤ cc) ⟨fun i o hi ho z n hz hv => ?_, fun i o hi ho z cc hz hv => ?_, fun cc o hc ho n hv => ?_⟩ ⟨fun n hv => ?_, fun p pr hp hlv s hs hh cc hv => ?_⟩
  · refine ⟨fun i o ho hk => ?_, fun i o ho hn => ?_⟩
    · have ho : (c.l.take n1)[i]? = some o := ho
      rw [List.getElem?_take] at ho
      split at ho
      · exact hin.1 i (hl.all i o ho hk)
      · cases ho
    · have ho : (c.ops.take n2)[i]? = some o := ho
      rw [List.getElem?_take] at ho
      split at ho
      · rename_i hlt
        refine hl.ops i o ho fun hb => ?_
        rcases hin.2 i hb with h | h
        · exact hn h
        · omega
      · cases ho
  · obtain ⟨o', ho', hk⟩ := hd.kind hi
    have : (c.l.take n1)[i]? = some o := by
      rw [List.getElem?_take] at ho' ⊢
      split at ho'
      · rename_i hlt
        rw [if_pos hlt]
        exact ho
      · cases ho'
    exact hd.cl.e i o hi this z n hz (hvO z n hv)
  · obtain ⟨o', ho', hk⟩ := hd.kind hi
    have : (c.l.take n1)[i]? = some o := by
      rw [List.getElem?_take] at ho' ⊢
      split at ho'
      · rename_i hlt
        rw [if_pos hlt]
        exact ho
      · cases ho'
    rcases Nat.lt_or_ge cc n2 with h | h
    · exact .inl (hd.cl.q i o hi this z cc hz ⟨hv.1, by have := hv.2; rw [List.length_take]; omega⟩)
    · exact .inr h
  · rcases hc with hc | hc
    · have hlt : cc < n2 := by
        have h2 := (List.getElem?_eq_some_iff.1 hc).1
        rw [hd.len.2, List.length_take] at h2
        omega
      exact hd.cl.p cc o hc (by rw [List.getElem?_take_of_lt hlt]; exact ho) n (hvO _ n hv)
    · have := t2.t.dr cc o hc ho
      simp [qP] at this
      have := hv.1
      omega
  · exact hd.roots.1 n (hvO 0 n hv)
  · rcases Nat.lt_or_ge cc n2 with h | h
    · refine .inl (hd.roots.2 p pr ?_ hlv s hs hh cc ⟨hv.1, by have := hv.2; rw [List.length_take]; omega⟩)
      have hnz : prZ (c.l.take n1) c.ps.length p pr = pr := by
        unfold prZ qZ
        simp [hlv]
      have hPp := hP.2 p pr hp
      rw [hnz] at hPp
      rcases Nat.lt_or_ge p n3 with h3 | h3
      · rw [List.getElem?_take_of_lt h3]; exact hPp
      · have := t3.t.dr p pr h3 hPp
        simp [qR, hlv] at this
    · exact .inr h
theorem SwFin.once {c d : Kr} {b : Mk} (hl : Left c b) (hf : SwFin c d) {L : List Obj} {L2 : List Opn} {L3 : List Prc} {en : Bool} (h : OnceOK d.l d.ops d.ps L L2 L3 en) : L = d.l ∧ L2 = d.ops ∧ L3 = d.ps ∧ en = false := by
  obtain ⟨bd, hbd, hP1, hP2⟩ := h.ex
  obtain ⟨m1, m2⟩ := hf.marks hl hbd
  have hdead : ∀ i, deadB bd d.l i = false := fun i => by
    unfold deadB
    cases hi : d.l[i]? with
    | none => rfl
    | some o =>
      by_cases hk : o.kind = 0
      · simp [hk]
      · have : bd.O[i]? = some true := m1 i o hi hk
        simp [this]
  have hend : ∀ (t : Nat) x, d.ps[t]? = some x → endP d.l t x = false := fun t x hx => by
    obtain ⟨n1, n2, n3, P, t1, t2, hP, t3, rfl⟩ := hf.ex
    have hx : (P.take n3)[t]? = some x := hx
    rw [List.getElem?_take] at hx
    split at hx
    · obtain ⟨y, hy, e⟩ := hP.get hx
      cases hlv : x.live with
      | false => simp [endP, hlv]
      | true =>
        have hxy : x = y := by
          unfold prZ at e
          split at e
          · rw [e] at hlv; simp [zeroP] at hlv
          · exact e
        subst hxy
        have he := hl.prs t x hy
        cases h0 : endP (c.l.take n1) t x with
        | false => rfl
        | true =>
          unfold endP at he h0
          simp [hlv] at he h0
          obtain ⟨o, ho, hh⟩ := he h0.1
          obtain ⟨i, hi⟩ := List.getElem?_of_mem ho
          have hk := heldB_kind hh
          have hmem : o ∈ c.l.take n1 := by
            rcases Nat.lt_or_ge i n1 with h | h
            · exact List.mem_of_getElem? (by rw [List.getElem?_take_of_lt h]; exact hi)
            · have := t1.t.dr i o h hi
              simp [qO] at this
              exact absurd this hk
          have := h0.2 o hmem
          rw [hh] at this
          cases this
    · cases hx
  have hL : L = d.l := hP1.id fun t o _ => by
    unfold onceAt
    rw [hdead t]
    have : deadZ bd d.l d.l.length o.peer = false := by unfold deadZ; rw [hdead]; simp
    rw [this]
    simp
  have hpr := h.pr
  have hen := h.en
  rw [hL] at hpr hen
  refine ⟨hL, hP2.id fun t o ho => ?_, hpr.id fun t o ho => ?_, ?_⟩
  · unfold opS
    split
    · rename_i hh
      have hn : ¬ onB bd.P t := by
        intro hon
        have hon : bd.P[t]? = some true := hon
        simp [hon] at hh
      exact (m2 t o ho hn).symm
    · rfl
  · simp [prS, hend t o ho]
  · rw [hen]
    cases he : endsS d.l d.ps d.ps.length with
    | false => rfl
    | true =>
      unfold endsS at he
      rw [List.any_eq_true] at he
      obtain ⟨t, ht, hte⟩ := he
      have htl : t < d.ps.length := by simpa using ht
      rw [List.getElem?_eq_getElem htl] at hte
      have hte : endP d.l t d.ps[t] = true := hte
      rw [hend t _ (List.getElem?_eq_getElem htl)] at hte
      cases hte
theorem SwFin.twice {c d a2 c2 d2 : Kr} {b : Mk} (hl : Left c b) (hf : SwFin c d) (h1 : SwTo d a2) (h2 : OnceOK a2.l a2.ops a2.ps c2.l c2.ops c2.ps false) (h3 : SwFin c2 d2) : d2 = d := by
  have ha : a2 = d := by
    clear h2 h3
    induction h1 with
    | refl => rfl
    | step h ho ih =>
      subst ih
      exact absurd (hf.once hl ho).2.2.2 (by simp)
  subst ha
  obtain ⟨e1, e2, e3, _⟩ := hf.once hl h2
  obtain ⟨n1, n2, n3, P, t1, t2, hP, t3, he⟩ := hf.ex
  obtain ⟨m1, m2, m3, P', s1, s2, hP', s3, rfl⟩ := h3.ex
  rw [e1] at s1 hP' s3 ⊢
  rw [e2] at s2 ⊢
  rw [e3] at hP'
  obtain ⟨dl, dops, dps⟩ := a2
  cases he
  have k1 := Tru.last t1 s1
  have k2 := Tru.last t2 s2
  have q1 : (c.l.take n1).take m1 = c.l.take n1 := by rw [k1, List.take_length]
  have q2 : (c.ops.take n2).take m2 = c.ops.take n2 := by rw [k2, List.take_length]
  have hid : P' = P.take n3 := by
    have hP' : Pt (P.take n3) P' (prZ ((c.l.take n1).take m1) (P.take n3).length) := hP'
    rw [q1] at hP'
    refine hP'.id fun t x hx => ?_
    rw [List.getElem?_take] at hx
    split at hx
    · obtain ⟨y, hy, e⟩ := hP.get hx
      have hyl : t < c.ps.length := (List.getElem?_eq_some_iff.1 hy).1
      by_cases hq : qZ (c.l.take n1) t y = true
      · have : x = zeroP := by rw [e]; simp [prZ, hq, hyl]
        subst this
        unfold prZ
        split <;> rfl
      · have hxy : x = y := by rw [e]; simp [prZ, hq]
        subst hxy
        simp [prZ, hq]
    · cases hx
  subst hid
  have s3 : TruE (qR ((c.l.take n1).take m1)) 1 (P.take n3) m3 := s3
  rw [q1] at s3
  have k3 := Tru.last t3 s3
  show Kr.mk ((c.l.take n1).take m1) ((c.ops.take n2).take m2) ((P.take n3).take m3) = Kr.mk (c.l.take n1) (c.ops.take n2) (P.take n3)
  rw [q1, q2, k3, List.take_length]

end Go.Proofs.Ytnlhnmlojcfljaa
