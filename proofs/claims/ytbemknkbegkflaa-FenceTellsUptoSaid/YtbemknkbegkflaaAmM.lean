import Derived.Test.YtbemknkbegkflaaAmM1
import Derived.Orders
set_option linter.unnecessarySimpa false
set_option linter.unusedVariables false
set_option linter.unusedSimpArgs false
/-! A region of which the order is open. -/
namespace Go.AM
section
variable {P : Program}

/-- is it wanted -/
def LO.want (lo : LO) (e : List CV) : Option Bool :=
  match lo.guard with
  | none => some true
  | some (s, want) => match getE e s with
    | .undef => some false
    | .rv (.one (.dat (.val (.bool t)))) => some (t == want)
    | _ => none

theorem vstep_iff {lo : LO} {e : List CV} {m : Mem} {K : List CV → CV → Mem → Prop} :
    vstep P lo e m K ↔ (lo.want e = some true ∧ step P lo.ins e m (K e)) ∨ (lo.want e = some false ∧ K e .undef m) := by
  unfold vstep LO.want
  cases hg : lo.guard with
  | none => simp [force_eq]
  | some p =>
    obtain ⟨s, want⟩ := p
    simp only
    generalize hge : getE e s = c
    split
    · simp
    · rename_i t
      have h1 : ∀ b, t = b → setN e s (vBool b) = e := fun b hb => by subst hb; exact setSame hge
      rw [bB_iff]
      cases t
      · simp only [force_eq, h1 false rfl]
        cases want <;> simp
      · simp only [force_eq, h1 true rfl]
        cases want <;> simp
    · rename_i n1 n2
      have : ∀ b, ¬ (match c with
          | CV.undef => some false
          | CV.rv (RV.one (CC.dat (Dt.val (Value.bool t)))) => some (t == want)
          | x => none) = some b := by
        intro b hb
        split at hb
        · exact n1 rfl
        · exact n2 _ rfl
        · cases hb
      constructor
      · exact fun h => h.elim
      · rintro (⟨h, _⟩ | ⟨h, _⟩) <;> exact this _ h

def putE (d : Option Nat) (v : CV) (e : List CV) : List CV :=
  match d with
  | none => e
  | some d => e.set d v
theorem put_iff {d : Option Nat} {v : CV} {e : List CV} {K : List CV → Prop} : put d v e K ↔ K (putE d v e) := by
  rw [put_eq]; cases d <;> rfl

variable {N : Nat} {ρ0 : Rho} {m0 : Mem} {w0 : World}

theorem Inv.drew {st : St} {ρ : Rho} {a : Act} {w : World} (h : Inv N ρ0 m0 w0 st ρ a w) : Inv N ρ0 m0 w0 st ρ a { w with drawn := w.drawn + 1 } := by
  obtain ⟨x, M, E, d, hN, n⟩ := h
  have g : Goes ρ w ρ { w with drawn := w.drawn + 1 } := ⟨Nat.le_refl _, fun _ _ => rfl, fun _ h => h, fun _ _ => rfl⟩
  have e : Ext ρ st.mem w ρ st.mem { w with drawn := w.drawn + 1 } := ⟨Nat.le_refl _, fun _ _ => rfl, fun _ h => h, fun _ h => .inl h, fun k h => .inr ⟨k, h, rfl⟩, fun _ _ _ => rfl, Nat.le_refl _, rfl, rfl, rfl⟩
  have hc : ∀ {mk : Prop} b cur, Cur mk w b cur → Cur mk { w with drawn := w.drawn + 1 } b cur := fun {mk} b cur hc => hc.same rfl
  refine ⟨x.trans e, ?_, ?_, d, hN, n⟩
  · refine ⟨M.n, M.S, M.live, M.inj, fun id b hb => ?_, fun id i j esz el ho hcap => ?_⟩
    · have h1 := M.bk id b hb
      cases b with
      | dead => trivial
      | var cs =>
        obtain ⟨cur, hcur, h2⟩ := h1
        exact ⟨cur, hc _ _ hcur, fun j c hj => let ⟨u, hu, hd⟩ := h2 j c hj; ⟨u, hu, DenC.goes g (by simp) hd⟩⟩
      | row esz elems =>
        obtain ⟨h2, h3, h4, h5, h6⟩ := h1
        refine ⟨h2, h3, h4, h5, fun hp => ?_⟩
        obtain ⟨cur, hcur, h7, h8⟩ := h6 hp
        exact ⟨cur, hc _ _ hcur, h7, fun i cs j c hi hj => let ⟨u, hu, hd⟩ := h8 i cs j c hi hj; ⟨u, hu, DenC.goes g (by
          intro id' i' j' e'
          cases e'
          rw [M.n]
          exact (List.getElem?_eq_some_iff.1 hb).1) hd⟩⟩
      | mp es =>
        obtain ⟨es', ck, h2, h3, h4⟩ := h1
        exact ⟨es', ck, h2, h3, fun i e he => let ⟨e', he', hk, hd⟩ := h4 i e he; ⟨e', he', hk, DenR.goes g hd⟩⟩
      | it cur left => exact h1
    · obtain ⟨cur, hcur, h2, h3, h4⟩ := M.own id i j esz el ho hcap
      exact ⟨cur, hc _ _ hcur, h2, h3, fun i cs j d hi hj => let ⟨u, hu, hd⟩ := h4 i cs j d hi hj; ⟨u, hu, DenD.mono (S := ρ.S) (S' := ρ.S) (w := w) (w' := { w with drawn := w.drawn + 1 }) (fun _ h => h) (fun _ _ => rfl) hd⟩⟩
  · exact ⟨E.size, fun i c hi => let ⟨v, hv, hd⟩ := E.den i c hi; ⟨v, hv, DenV.goes g hd⟩⟩

/-- one operation, wanted or not -/
theorem vop_sound {ops : Array Oper} {k : Nat} {o : Oper} {lo : LO} {env : List CV} {m : Mem} {ρ : Rho} {a : Act} {w : World} {K : CV → Mem → Prop} {K1 : Act → World → Prop} {Q : Exit → Act → World → Prop}
    (ho : ops[k]? = some o) (hlo : lowO P ops o = some lo) (hI : Inv N ρ0 m0 w0 ⟨env, m⟩ ρ a w) (h : vstep P lo env m fun _ v m' => K v m')
    (hn : ∀ v m' ρ' a' w', K v m' → Inv N ρ0 m0 w0 ⟨putE lo.dst v env, m'⟩ ρ' a' w' → K1 a' w') : wpOp P ops Q k K1 a w := by
  simp only [lowO, Option.bind_eq_bind, Option.bind_eq_some_iff] at hlo
  obtain ⟨i, hi, g, hg, hlo⟩ := hlo
  cases hlo
  unfold wpOp
  rw [ho]
  simp only
  have hwant : ∀ b, LO.want ⟨o.dst, i, g⟩ env = some b → Region.wanted o (yielded ops a.tmps) = b := by
    intro b hb
    unfold LO.want at hb
    cases hgd : o.guard with
    | none =>
      rw [hgd] at hg
      simp [lowG] at hg
      subst hg
      simp at hb
      subst hb
      simp [Region.wanted, hgd]
    | some jb =>
      obtain ⟨j, want⟩ := jb
      rw [hgd] at hg
      simp only [lowG, Option.bind_eq_bind, Option.bind_eq_some_iff] at hg
      obtain ⟨oj, hoj, s, hs, hg⟩ := hg
      cases hg
      have hy : yielded ops a.tmps j = match a.tmps[s]? with | some (.bool b) => some b | _ => none := by
        simp [yielded, hoj, hs]
        rfl
      simp only at hb
      split at hb
      · rename_i hge
        have hden := hI.env.get s
        rw [hge] at hden
        have hu : a.tmps[s]? = some Go.undef ∨ a.tmps[s]? = none := by
          simp only [DenV, Array.getD_eq_getD_getElem?] at hden
          cases ht : a.tmps[s]? with
          | none => exact .inr rfl
          | some v => rw [ht] at hden; simp at hden; exact .inl (by rw [hden])
        cases hb
        simp only [Region.wanted, hgd, hy]
        rcases hu with hu | hu <;> rw [hu] <;> rfl
      · rename_i t hge
        have hden := hI.env.get s
        rw [hge] at hden
        have ht : a.tmps[s]? = some (.bool t) := by
          have := (den_plain hden).1
          rw [Array.getD_eq_getD_getElem?] at this
          cases ht : a.tmps[s]? with
          | none => rw [ht] at this; cases this
          | some v => rw [ht] at this; simp at this; rw [this]
        simp at hb
        simp [Region.wanted, hgd, hy, ht, hb]
      · cases hb
  rcases vstep_iff.1 h with ⟨hw, hs⟩ | ⟨hw, hs⟩
  · rw [if_pos (hwant _ hw)]
    refine .inl (op_sound (K := fun e' m' => ∃ v, e' = putE o.dst v env ∧ K v m') hi hI (step_mono hs fun v m' hk => put_iff.2 ⟨v, rfl, hk⟩) fun env' m' ρ' a' w' ⟨v, he, hk⟩ hI' => ?_)
    subst he
    exact hn v m' ρ' a' w' hk hI'
  · rw [if_neg (by simp [hwant _ hw])]
    obtain ⟨env', hK', hI'⟩ := hI.step (d := o.dst) (c := .undef) (v := Go.undef) (K := fun e => e = putE o.dst .undef env) hI.mem rfl (Ext.refl _ _ _) (put_iff.2 rfl)
    subst hK'
    exact hn _ _ _ _ _ hs hI'

theorem vstep_congr {lo : LO} {e e' : List CV} {m : Mem} {K : CV → Mem → Prop} (hx : ∀ t, t ∈ lo.looks → getE e t = getE e' t) (h : vstep P lo e m fun _ v m' => K v m') :
    vstep P lo e' m fun _ v m' => K v m' := by
  rw [vstep_iff] at h ⊢
  have hs : ∀ t, t ∈ slotsOf lo.ins.xs → getE e t = getE e' t := fun t ht => hx t (by unfold LO.looks; split <;> simp [ht])
  have hw : lo.want e = lo.want e' := by
    unfold LO.want
    cases hg : lo.guard with
    | none => rfl
    | some p => simp only [hx p.1 (by unfold LO.looks; rw [hg]; simp)]
  have hsl : ∀ (xs : List X) (x : X), x ∈ xs → ∀ n, x = .t n → n ∈ slotsOf xs := by
    intro xs
    induction xs with
    | nil => intro x hx; cases hx
    | cons y r ih =>
      intro x hx n hn
      subst hn
      cases y with
      | t k =>
        simp only [slotsOf, List.mem_cons]
        rcases List.mem_cons.1 hx with h | h
        · cases h; exact .inl rfl
        · exact .inr (ih _ h n rfl)
      | c v =>
        simp only [slotsOf]
        rcases List.mem_cons.1 hx with h | h
        · cases h
        · exact ih _ h n rfl
  have hev : ∀ x, x ∈ lo.ins.xs → x.ev e = x.ev e' := fun x hx => by
    cases x with
    | t n => exact hs n (hsl _ _ hx n rfl)
    | c v => rfl
  rw [← hw]
  rcases h with ⟨h1, h2⟩ | h
  · exact .inl ⟨h1, step_congr hev h2⟩
  · exact .inr h

/-- it comes to this value, and makes no memory -/
def QV (P : Program) (lo : LO) (e : List CV) (m : Mem) (v : CV) : Prop := vstep P lo e m fun _ v' m' => v' = v ∧ m' = m

theorem vstep_quiet {lo : LO} (hq : quietI lo.ins = true) {e : List CV} {m : Mem} {K : List CV → CV → Mem → Prop} (h : vstep P lo e m K) : ∃ v, K e v m ∧ QV P lo e m v := by
  rcases vstep_iff.1 h with ⟨h1, h2⟩ | ⟨h1, h2⟩
  · obtain ⟨v, hv, hall⟩ := step_quiet hq h2
    exact ⟨v, hv, vstep_iff.2 (.inl ⟨h1, hall _ ⟨rfl, rfl⟩⟩)⟩
  · exact ⟨_, h2, vstep_iff.2 (.inr ⟨h1, rfl, rfl⟩)⟩
theorem QV.pure {lo : LO} (hq : pureI lo.ins = true) {e : List CV} {m : Mem} {v : CV} (h : QV P lo e m v) (m' : Mem) : QV P lo e m' v := by
  rcases vstep_iff.1 h with ⟨h1, h2⟩ | ⟨h1, h2⟩
  · obtain ⟨v', hv, hall⟩ := step_pure hq h2
    exact vstep_iff.2 (.inl ⟨h1, hall m' _ ⟨hv.1, rfl⟩⟩)
  · exact vstep_iff.2 (.inr ⟨h1, h2.1, rfl⟩)
end
end Go.AM
