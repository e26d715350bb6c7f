import Derived.Test.YtbemknkbegkflaaAmN1
set_option linter.unusedSimpArgs false
set_option linter.unnecessarySimpa false
set_option linter.unusedVariables false
/-! The blocks for rounds' deferred calls are shut: what is known of the world stands. -/
namespace Go.AM
section
variable {P : Program} {N : Nat} {ρ0 : Rho} {m0 : Mem} {w0 : World}

/-- the blocks that are known of hold what they held, as far as cells go -/
structure Cel (ρ : Rho) (m : Mem) (w w' : World) : Prop where
  size : w.heap.size ≤ w'.heap.size
  S : ∀ b off, ρ.S b → w'.cell? ⟨b, off, none⟩ = w.cell? ⟨b, off, none⟩
  live : ∀ k, Live ρ m k → w'.heap[(ρ.loc k).b]? = w.heap[(ρ.loc k).b]?
  maps : ∀ b es ck, ρ.S b → w.heap[b]? = some (.map es ck) → w'.heap[b]? = some (.map es ck)

theorem DenD.cel {S : Nat → Prop} {w w' : World} (hw : ∀ b off, S b → w'.cell? ⟨b, off, none⟩ = w.cell? ⟨b, off, none⟩) {d : Dt} {v : Value} (h : DenD S w d v) : DenD S w' d v := by
  induction h with
  | val v h => exact .val v h
  | no a => exact .no a
  | nil esz a cap hc => exact .nil esz a cap hc
  | sl esz elems b off cap u hb hl hcap hsz hc hd ih =>
    exact .sl esz elems b off cap u hb hl hcap hsz (fun i cs j d hi hj => (hw b _ hb).trans (hc i cs j d hi hj)) ih
theorem DenC.cel {ρ : Rho} {m : Mem} {w w' : World} (x : Cel ρ m w w') {pos : Option (Nat × Nat × Nat)} {c : CC} {v : Value} (h : DenC ρ w pos c v) : DenC ρ w' pos c v := by
  cases c <;> simp only [DenC] at h ⊢
  case dat => exact h.cel x.S
  case iptr cs =>
    obtain ⟨b, off, hv, hb, hc⟩ := h
    exact ⟨b, off, hv, hb, fun j d hj => let ⟨u, hu, hd⟩ := hc j d hj; ⟨u, (x.S b _ hb).trans hu, hd.cel x.S⟩⟩
  all_goals exact h
theorem DenR.cel {ρ : Rho} {m : Mem} {w w' : World} (x : Cel ρ m w w') {r : RV} {v : Value} (h : DenR ρ w r v) : DenR ρ w' r v := by
  cases r with
  | one c => exact DenC.cel x h
  | agg cs =>
    obtain ⟨vs, hv, hl, hc⟩ := h
    exact ⟨vs, hv, hl, fun i c hi => let ⟨u, hu, hd⟩ := hc i c hi; ⟨u, hu, hd.cel x⟩⟩
theorem DenV.cel {ρ : Rho} {m : Mem} {w w' : World} (x : Cel ρ m w w') {r : CV} {v : Value} (h : DenV ρ w r v) : DenV ρ w' r v := by
  cases r with
  | junk => trivial
  | undef => exact h
  | rv r => exact DenR.cel x h
  | tup rs =>
    obtain ⟨vs, hv, hl, hc⟩ := h
    exact ⟨vs, hv, hl, fun i c hi => let ⟨u, hu, hd⟩ := hc i c hi; ⟨u, hu, hd.cel x⟩⟩
theorem MemRel.cel {ρ : Rho} {m : Mem} {w w' : World} (hM : MemRel ρ m w) (h : Cel ρ m w w') : MemRel ρ m w' := by
  refine ⟨hM.n, fun b hb => Nat.lt_of_lt_of_le (hM.S b hb) h.size, fun k hk => ⟨Nat.lt_of_lt_of_le (hM.live k hk).1 h.size, (hM.live k hk).2⟩, hM.inj, fun id b hb => ?_, fun id i j esz el ho hcap => ?_⟩
  · have h1 := hM.bk id b hb
    cases b with
    | dead => trivial
    | var cs =>
      obtain ⟨cur, hcur, h2⟩ := h1
      exact ⟨cur, hcur.same (h.live (.root id) ⟨_, hb, by simp, by simp⟩), fun j c hj => let ⟨u, hu, hd⟩ := h2 j c hj; ⟨u, hu, hd.cel h⟩⟩
    | row esz elems =>
      obtain ⟨h2, h3, h4, h5, h6⟩ := h1
      refine ⟨h2, h3, h4, h5, fun hp => ?_⟩
      obtain ⟨cur, hcur, h7, h8⟩ := h6 hp
      exact ⟨cur, hcur.same (h.live (.root id) ⟨_, hb, by simp, fun _ => hp⟩), h7, fun i cs j c hi hj => let ⟨u, hu, hd⟩ := h8 i cs j c hi hj; ⟨u, hu, hd.cel h⟩⟩
    | mp es =>
      obtain ⟨es', ck, h2, h3, h4⟩ := h1
      exact ⟨es', ck, ⟨(h.live (.root id) ⟨_, hb, by simp, by simp⟩).trans h2.1, h2.2⟩, h3, fun i e he => let ⟨e', he', hk, hd⟩ := h4 i e he; ⟨e', he', hk, hd.cel h⟩⟩
    | it cur left =>
      obtain ⟨mb, seen, ck, es', h2, h3, h4, h5, h6⟩ := h1
      exact ⟨mb, seen, ck, es', (h.live (.root id) ⟨_, hb, by simp, by simp⟩).trans h2, h3, h4, h.maps mb es' ck h4 h5, h6⟩
  · obtain ⟨cur, hcur, h2, h3, h4⟩ := hM.own id i j esz el ho hcap
    exact ⟨cur, hcur.same (h.live (.sub id i j) ⟨⟨_, _, ho⟩, hcap⟩), h2, h3, fun i cs j d hi hj => let ⟨u, hu, hd⟩ := h4 i cs j d hi hj; ⟨u, hu, hd.cel h.S⟩⟩
theorem EnvRel.cel {ρ : Rho} {m : Mem} {w w' : World} (x : Cel ρ m w w') {env : List CV} {tmps : Array Value} (hE : EnvRel ρ w env tmps) : EnvRel ρ w' env tmps :=
  ⟨hE.size, fun i c hi => let ⟨v, hv, hd⟩ := hE.den i c hi; ⟨v, hv, hd.cel x⟩⟩

/-- behind a function's body: the blocks are shut, one by one -/
theorem leaves_marks {fn : Func} {tmps : Array Value} {R : Ending → World → Prop} {ρ : Rho} {m : Mem} {env : List CV} (hN : N = w0.heap.size) : ∀ (Ds : List Nat) (w : World), Ds.Nodup →
    (∀ D, D ∈ Ds → N ≤ D ∧ ρ.S D ∧ w.heap[D]? = some (.deferred (some []))) → MemRel ρ m w → EnvRel ρ w env tmps → Ext ρ0 m0 w0 ρ m w →
    (∀ w', MemRel ρ m w' → EnvRel ρ w' env tmps → Ext ρ0 m0 w0 ρ m w' → ∃ v, (results fn tmps).run P w' = .ok v w' ∧ R (.returned v) w') →
    LeavesInM Fence.wide 0 P fn tmps R (Ds.map fun D => { target := .collected D, args := #[] }) .returning w
  | [], w, _, _, hM, hE, hx, h => by
    obtain ⟨v, h1, h2⟩ := h w hM hE hx
    exact ⟨v, h1, h2⟩
  | D :: Ds, w, hn, hD, hM, hE, hx, h => by
    obtain ⟨hn1, hn2⟩ := List.nodup_cons.1 hn
    obtain ⟨d1, d2, d3⟩ := hD D (by simp)
    have hlt := (Array.getElem?_eq_some_iff.1 d3).1
    have hc : Cel ρ m w (w.putObj D (.deferred none)) := by
      refine ⟨by simp, fun b off hS => ?_, fun k hk => World.putObj_heap_other fun e => (hM.live k hk).2 (e ▸ d2), fun b es ck hS hbm => by
        have hb : b ≠ D := fun e => by subst e; rw [d3] at hbm; cases hbm
        rw [World.putObj_heap_other hb]; exact hbm⟩
      by_cases hb : b = D
      · subst hb
        simp only [World.cell?, d3, World.putObj_heap_same hlt]
      · simp only [World.cell?, World.putObj_heap_other hb]
    refine ⟨by simp, .inl ⟨D, _, rfl, run_takeDeferred d3, ?_⟩⟩
    refine leaves_marks hN Ds _ hn2 (fun D' hD' => ?_) (hM.cel hc) (hE.cel hc) ?_ h
    · obtain ⟨e1, e2, e3⟩ := hD D' (by simp [hD'])
      exact ⟨e1, e2, (World.putObj_heap_other (by rintro rfl; exact hn1 hD')).trans e3⟩
    · exact ⟨hx.n, hx.loc, hx.S, hx.S', hx.live, fun b hb hk => (World.putObj_heap_other (by omega)).trans (hx.frame b hb hk), by simpa using hx.size, hx.os, hx.tape, hx.output⟩
end
end Go.AM
