import Derived.Test.YtbemknkbegkflaaAmP
set_option linter.unusedVariables false
set_option linter.unusedSimpArgs false
set_option linter.unnecessarySimpa false
/-! A call that hands back a row of its own. -/
namespace Go.AM
section
variable {P : Program}

theorem MemRel.wider {ρ : Rho} {m : Mem} {w w' : World} (hM : MemRel ρ m w) (hw : Wider w w') : MemRel ρ m w' ∧ Ext ρ m w ρ m w' := by
  have hn := hM.n
  have g : Goes ρ w ρ w' := ⟨Nat.le_refl _, fun _ _ => rfl, fun _ h => h, fun b hb => hw.heap b (hM.S b hb)⟩
  refine ⟨⟨hn, fun b hb => Nat.lt_of_lt_of_le (hM.S b hb) hw.size, fun k hk => ⟨Nat.lt_of_lt_of_le (hM.live k hk).1 hw.size, (hM.live k hk).2⟩, hM.inj, fun id b hb => ?_, fun id i j esz e ho hcap => ?_⟩,
    ⟨Nat.le_refl _, fun _ _ => rfl, fun _ h => h, fun _ h => .inl h, fun k hk => .inr ⟨k, hk, rfl⟩, fun b hb _ => hw.heap b hb, hw.size, hw.os, hw.tape, hw.output⟩⟩
  · exact (hM.bk id b hb).goes g (by rw [hn]; exact (List.getElem?_eq_some_iff.1 hb).1) fun hne hcap => hw.heap _ (hM.live (.root id) ⟨b, hb, hne, hcap⟩).1
  · exact (hM.own id i j esz e ho hcap).goes g (hw.heap _ (hM.live (.sub id i j) ⟨⟨esz, e, ho⟩, hcap⟩).1)

/-- **IN WHATEVER MEMORY**: arguments that are data; the row that comes back is the caller's from then on -/
theorem acall_row {f : Nat} {args : List CV} {m : Mem} {K0 K : CV → Mem → Prop} (h : ACall P f args [] K0) (ha : ∀ c, c ∈ args → c.isD = true)
    (hK : ∀ r m1, K0 r m1 → (r = .rv (.one .esl) ∧ K (.rv (.one .esl)) m) ∨
      ∃ id esz elems, r = .rv (.one (.row id esz 0 none)) ∧ m1[id]? = some (.row esz elems) ∧ (∀ cs, cs ∈ elems → ∀ c, c ∈ cs → ∃ d, c = .dat d) ∧
        (∀ (i : Nat) cs (j : Nat) d, elems[i]? = some cs → cs[j]? = some (.dat d) → ∃ v, d = .val v) ∧
        K (.rv (.one (.row m.length esz 0 none))) (m ++ [.row esz elems])) : ACall P f args m K := by
  refine ⟨h.1, fun ρ w vs hM hl hd => ?_⟩
  let ρ0 : Rho := { n := 0, loc := fun _ => ⟨0, 0, 0, 0⟩, S := ρ.S }
  have hM0 : MemRel ρ0 [] w := {
    n := rfl
    S := hM.S
    live := fun k h => by have := h.id_lt; simp at this
    inj := fun k k' h => by have := h.id_lt; simp at this
    bk := fun id b h => by simp at h
    own := fun id i j esz elems h => by obtain ⟨_, _, _, h, _⟩ := h; simp at h }
  refine (h.2 ρ0 w vs hM0 hl fun i c hi => ?_).mono fun e w' ⟨v, r, m1, ρ1, he, hk, hM1, hd1, hx⟩ => ?_
  · obtain ⟨v, hv, hd⟩ := hd i c hi
    exact ⟨v, hv, CV.isD_den (ρ := ρ) (ρ' := ρ0) (ha c (List.mem_of_getElem? hi)) (fun _ h => h) hd⟩
  · have hnl : ∀ k, ¬ Live ρ0 [] k := fun k h => by have := h.id_lt; simp at this
    have hfr : ∀ b, b < w.heap.size → w'.heap[b]? = w.heap[b]? := fun b hb => hx.frame b hb fun k hk => absurd hk (hnl k)
    have hwid : Wider w w' := by
      refine ⟨?_, ?_, ?_, ?_, ?_⟩
      all_goals first | exact hx.size | exact hfr | exact hx.os | exact hx.tape | exact hx.output
    rcases hK r m1 hk with ⟨rfl, hk'⟩ | ⟨id, esz, elems, rfl, hb, hdat, hval, hk'⟩
    · obtain ⟨ad, rfl⟩ := hd1
      obtain ⟨hM2, hX2⟩ := hM.wider hwid
      exact ⟨_, _, m, ρ, he, hk', hM2, ⟨ad, rfl⟩, hX2⟩
    · obtain ⟨g1, g2, g3, g4, g5⟩ := hM1.bk id _ hb
      obtain ⟨q1, q2, q3, q4, q5, ad, rfl, hadr⟩ := hd1
      have hn := hM.n
      let l := ρ1.loc (.root id)
      have hbk : BkRel (ρ.push l) w' m.length (.row esz elems) := by
        have hloc : (ρ.push l).loc (.root m.length) = l := by rw [← hn]; exact ρ.push_new l
        simp only [BkRel, hloc]
        refine ⟨g1, g2, g3, g4, fun hp => ?_⟩
        obtain ⟨cur, hcur, h7, h8⟩ := g5 hp
        refine ⟨cur, hcur, h7, fun i cs j c hi hj => ?_⟩
        obtain ⟨u, hu, hdu⟩ := h8 i cs j c hi hj
        obtain ⟨d, rfl⟩ := hdat cs (List.mem_of_getElem? hi) c (List.mem_of_getElem? hj)
        obtain ⟨v, rfl⟩ := hval i cs j d hi hj
        refine ⟨u, hu, ?_⟩
        cases hdu with
        | val _ hpl => exact DenD.val _ hpl
        | no a => exact .no a
      have hfree : Bk.free (.row esz elems) := by
        intro i cs j c hi hj s e hce
        obtain ⟨d, hd⟩ := hdat cs (List.mem_of_getElem? hi) c (List.mem_of_getElem? hj)
        rw [hd] at hce
        cases hce
      obtain ⟨hM2, hX2⟩ := hM.pushL hwid (fun hlv => by
        obtain ⟨bk, hb2, hne, hcap⟩ := hlv
        have hcap' : 0 < l.cap := by
          rw [hn, List.getElem?_append_right (Nat.le_refl _)] at hb2
          simp at hb2
          have := hcap ⟨esz, elems, hb2.symm⟩
          rwa [ρ.push_new l] at this
        have hlv1 : Live ρ1 m1 (.root id) := ⟨_, hb, by simp, fun _ => hcap'⟩
        refine ⟨?_, (hM1.live _ hlv1).1⟩
        rcases hx.live _ hlv1 with h | ⟨k0, h0, _⟩
        · exact h
        · exact absurd h0 (hnl k0)) hbk hfree
      refine ⟨_, _, _, _, he, hk', hM2, ?_, hX2⟩
      have hloc : (ρ.push l).loc (.root m.length) = l := by rw [← hn]; exact ρ.push_new l
      refine ⟨by simp [Rho.push, hn], ?_⟩
      simp only [hloc]
      exact ⟨q2, q3, q4, q5, ad, rfl, hadr⟩
end
end Go.AM
