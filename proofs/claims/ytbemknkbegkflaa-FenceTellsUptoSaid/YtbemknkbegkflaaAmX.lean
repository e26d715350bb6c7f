import Derived.Test.YtbemknkbegkflaaAmW
set_option linter.unusedVariables false
set_option linter.unusedSimpArgs false
set_option linter.unnecessarySimpa false
/-! A call that borrows blocks of its caller's. -/
namespace Go.AM
section
variable {P : Program}

theorem sg_out {l : List Nat} {n i : Nat} (hi : sg l n i < n) : i < l.length := by
  rcases Nat.lt_or_ge i l.length with h | h
  · exact h
  · rw [sg_ge h] at hi; omega

/-- **A CALL THAT BORROWS**: block i of the contract's memory is block l[i] of the caller's; what is new stands behind -/
theorem acall_borrow {f : Nat} {args args0 : List CV} {m m0 : Mem} {K0 K : CV → Mem → Prop} (l : List Nat) (n : Nat) (hn : m.length = n) (hl : m0.length = l.length) (hd : nodupN l = true) (ha : allLt n l = true)
    (hargs : args = args0.map (CV.ren (sg l n)))
    (hm : ∀ (i : Nat) b', m0[i]? = some b' → b' = .dead ∨ (¬ False ∧ ∃ b, m[sg l n i]? = some b ∧ VwB (sg l n) m (fun _ => False) (sg l n i) b b'))
    (h : ACall P f args0 m0 K0)
    (hK : ∀ r m1, K0 r m1 → l.length ≤ m1.length ∧ K (r.ren (sg l n)) (weave m l (renM (sg l n) m1))) : ACall P f args m K := by
  subst hn
  refine ⟨h.1, fun ρ w vs hM hvl hvd => ?_⟩
  have hinj : ∀ i j, sg l m.length i = sg l m.length j → i = j := fun i j h => sg_inj hd ha h
  obtain ⟨hM0, hC0, hL0⟩ := vw_core (n0 := 0) (σ := sg l m.length) (Z := fun _ => False) (m' := m0) hM (fun i h => absurd h (Nat.not_lt_zero i)) (fun i j _ _ h => hinj i j h) (fun i h => by rw [hl]; exact sg_out h) hm
  have hS0 : ∀ b, (ρ.vw (sg l m.length) (fun _ => False) m m0.length).S b ↔ ρ.S b := fun b => ⟨fun h => h.elim id fun ⟨k, _, hf, _⟩ => hf.elim, .inl⟩
  have hnl : ρ.n = m.length := hM.n
  refine (h.2 _ w vs hM0 (by rw [hvl, hargs]; simp) fun i c hi => ?_).mono fun e w' ⟨v, r, m1, ρ1, he, hk, hM1, hd1, hx⟩ => ?_
  · obtain ⟨v, hv, hdv⟩ := hvd i (c.ren (sg l m.length)) (by rw [hargs, List.getElem?_map, hi]; rfl)
    exact ⟨v, hv, VwV.den hM (fun i h => by rw [hl]; exact sg_out h) (.ren' c) hdv⟩
  · obtain ⟨hle, hk'⟩ := hK r m1 hk
    have hn1 : ρ1.n = m1.length := hM1.n
    -- where a number comes from
    let back : Nat → Option Nat := fun j => (List.range m1.length).find? fun i => sg l m.length i == j
    have back_some : ∀ {j i}, back j = some i → i < m1.length ∧ sg l m.length i = j := by
      intro j i hb
      have h1 := List.mem_of_find?_eq_some hb
      have h2 := List.find?_some hb
      exact ⟨by simpa using h1, by simpa using h2⟩
    have back_of : ∀ {i}, i < m1.length → back (sg l m.length i) = some i := by
      intro i hi
      cases hb : back (sg l m.length i) with
      | none =>
        have := List.find?_eq_none.1 hb i (by simpa using hi)
        simp at this
      | some j => rw [hinj _ _ (back_some hb).2]
    have back_none : ∀ {j}, j < m.length + (m1.length - l.length) → back j = none → j < m.length ∧ j ∉ l := by
      intro j hj hb
      have hno := List.find?_eq_none.1 hb
      refine ⟨?_, fun hjl => ?_⟩
      · rcases Nat.lt_or_ge j m.length with h | h
        · exact h
        · have := hno (l.length + (j - m.length)) (by simp; omega)
          rw [sg_ge (by omega)] at this
          simp at this
          omega
      · obtain ⟨i, hi⟩ := List.getElem?_of_mem hjl
        obtain ⟨hlt, rfl⟩ := List.getElem?_eq_some_iff.1 hi
        have := hno i (by simp; omega)
        rw [sg_lt hlt] at this
        simp at this
    let ρ' : Rho := { n := m.length + (m1.length - l.length), loc := fun k => match back k.id with
      | some i => (match k with | .root _ => ρ1.loc (.root i) | .sub _ a b => ρ1.loc (.sub i a b))
      | none => ρ.loc k, S := ρ1.S }
    have locR : ∀ i, i < ρ1.n → ρ'.loc (.root (sg l m.length i)) = ρ1.loc (.root i) := by
      intro i hi
      rw [hn1] at hi
      simp only [ρ', Key.id, back_of hi]
    have locS : ∀ i a b, i < ρ1.n → ρ'.loc (.sub (sg l m.length i) a b) = ρ1.loc (.sub i a b) := by
      intro i a b hi
      rw [hn1] at hi
      simp only [ρ', Key.id, back_of hi]
    have locO : ∀ k : Key, back k.id = none → ρ'.loc k = ρ.loc k := by
      intro k hb
      simp only [ρ', hb]
    have locOld : ∀ id, id < ρ.n → ρ'.loc (.root id) = ρ.loc (.root id) := by
      intro id hid
      cases hb : back id with
      | none => exact locO (.root id) hb
      | some i =>
        obtain ⟨h1, h2⟩ := back_some hb
        have hi : i < l.length := sg_out (by rw [h2, ← hnl]; exact hid)
        rw [← h2, locR i (by rw [hn1]; exact h1), hx.loc i (by show i < m0.length; omega)]
        rfl
    have hnew : ∀ i, i < ρ1.n → sg l m.length i < ρ'.n := by
      intro i hi
      rw [hn1] at hi
      show _ < m.length + (m1.length - l.length)
      rcases Nat.lt_or_ge i l.length with h | h
      · rw [sg_lt h]
        have := allLt_iff ha _ (List.getElem_mem h)
        omega
      · rw [sg_ge h]; omega
    have hlenR : (renM (sg l m.length) m1).length = m1.length := by rw [renM_eq]; simp
    have hwl : (weave m l (renM (sg l m.length) m1)).length = m.length + (m1.length - l.length) := by
      rw [weave_len l m _ (by rw [hlenR]; exact hle), hlenR]
    have hwn : ∀ i, i < m1.length → (weave m l (renM (sg l m.length) m1))[sg l m.length i]? = (m1[i]?).map (Bk.ren (sg l m.length)) := by
      intro i hi
      rw [weave_new l m _ hd ha (by rw [hlenR]; exact hle) i (by rw [hlenR]; exact hi), renM_eq, List.getElem?_map]
    have hwo : ∀ j, back j = none → j < m.length + (m1.length - l.length) → (weave m l (renM (sg l m.length) m1))[j]? = m[j]? := by
      intro j hb hj
      obtain ⟨h1, h2⟩ := back_none hj hb
      exact weave_old l m _ j h1 h2
    -- what lives in the caller's memory, and is not lent, is as it was
    have hfr : ∀ k, Live ρ m k → (k.id < m.length → k.id ∉ l) → (∀ k0, Live (ρ.vw (sg l m.length) (fun _ => False) m m0.length) m0 k0 → ((ρ.vw (sg l m.length) (fun _ => False) m m0.length).loc k0).b ≠ (ρ.loc k).b) := by
      intro k hk hnl' k0 hk0 he
      have h1 := hL0 k0 hk0
      have h2 := hM.inj _ _ h1 hk he
      have h3 := hk0.id_lt
      rw [hl] at h3
      apply hnl' hk.id_lt
      rw [← h2]
      cases k0 <;> simp only [Key.ren, Key.id] at h3 ⊢ <;> rw [sg_lt h3] <;> exact List.getElem_mem h3
    have hheap : ∀ k, Live ρ m k → (k.id < m.length → k.id ∉ l) → w'.heap[(ρ.loc k).b]? = w.heap[(ρ.loc k).b]? := fun k hk hnl' => hx.frame _ (hM.live k hk).1 (hfr k hk hnl')
    have hSheap : ∀ b, ρ.S b → w'.heap[b]? = w.heap[b]? := fun b hb => hx.frame b (hM.S b hb) fun k hk he => (hM0.live k hk).2 (he ▸ (hS0 b).2 hb)
    have hSS : ∀ b, ρ.S b → ρ1.S b := fun b hb => hx.S b ((hS0 b).2 hb)
    have hnotS : ∀ k, Live ρ m k → (k.id < m.length → k.id ∉ l) → ¬ ρ1.S (ρ.loc k).b := by
      intro k hk hnl' hs
      rcases hx.S' _ hs with h | h | ⟨k0, hk0, he⟩
      · exact (hM.live k hk).2 ((hS0 _).1 h)
      · have := (hM.live k hk).1; omega
      · exact hfr k hk hnl' k0 hk0 he
    -- keys of the new memory
    have hkey : ∀ k, Live ρ' (weave m l (renM (sg l m.length) m1)) k → (∃ k1, k1.id < m1.length ∧ k = k1.ren (sg l m.length) ∧ Live ρ1 m1 k1 ∧ ρ'.loc k = ρ1.loc k1) ∨ (back k.id = none ∧ k.id < m.length ∧ k.id ∉ l ∧ Live ρ m k ∧ ρ'.loc k = ρ.loc k) := by
      intro k hk
      have hlt := hk.id_lt
      rw [hwl] at hlt
      cases hb : back k.id with
      | none =>
        obtain ⟨h1, h2⟩ := back_none hlt hb
        have hme := hwo k.id hb hlt
        refine .inr ⟨rfl, h1, h2, ?_, locO k hb⟩
        have hloc := locO k hb
        cases k with
        | root id =>
          obtain ⟨bk, hbk, hnd, hcap⟩ := hk
          simp only [Key.id] at hme
          rw [hme] at hbk
          rw [hloc] at hcap
          exact ⟨bk, hbk, hnd, hcap⟩
        | sub id a b =>
          obtain ⟨⟨s, e, es, rows, cs, hbk, hi, hj⟩, hcap⟩ := hk
          simp only [Key.id] at hme
          rw [hme] at hbk
          rw [hloc] at hcap
          exact ⟨⟨s, e, es, rows, cs, hbk, hi, hj⟩, hcap⟩
      | some i =>
        obtain ⟨h1, h2⟩ := back_some hb
        have hme := hwn i h1
        cases k with
        | root id =>
          simp only [Key.id] at h2
          subst h2
          have hloc := locR i (by rw [hn1]; exact h1)
          refine .inl ⟨.root i, h1, rfl, ?_, hloc⟩
          obtain ⟨bk, hbk, hnd, hcap⟩ := hk
          rw [hme] at hbk
          obtain ⟨b0, h0, rfl⟩ := Option.map_eq_some_iff.1 hbk
          rw [hloc] at hcap
          refine ⟨b0, h0, ?_, ?_⟩
          · rintro rfl; exact hnd rfl
          · rintro ⟨s, es, rfl⟩
            exact hcap ⟨_, _, rfl⟩
        | sub id a b =>
          simp only [Key.id] at h2
          subst h2
          have hloc := locS i a b (by rw [hn1]; exact h1)
          refine .inl ⟨.sub i a b, h1, rfl, ?_, hloc⟩
          obtain ⟨⟨s, e, es, rows, cs, hbk, hi, hj⟩, hcap⟩ := hk
          rw [hme] at hbk
          obtain ⟨b0, h0, hb0⟩ := Option.map_eq_some_iff.1 hbk
          rw [hloc] at hcap
          cases b0 with
          | row s0 es0 =>
            simp only [Bk.ren, Bk.row.injEq] at hb0
            obtain ⟨rfl, rfl⟩ := hb0
            rw [List.getElem?_map] at hi
            obtain ⟨cs0, hi0, rfl⟩ := Option.map_eq_some_iff.1 hi
            rw [List.getElem?_map] at hj
            obtain ⟨c0, hj0, hc0⟩ := Option.map_eq_some_iff.1 hj
            have : c0 = .own s e := by cases c0 <;> simp [CC.ren] at hc0 ⊢; exact hc0
            subst this
            exact ⟨⟨s, e, _, _, _, h0, hi0, hj0⟩, hcap⟩
          | _ => simp [Bk.ren] at hb0
    have hbSome : ∀ {j i}, back j = some i → i < ρ1.n ∧ sg l m.length i = j := fun hb => by rw [hn1]; exact back_some hb
    refine ⟨v, r.ren (sg l m.length), weave m l (renM (sg l m.length) m1), ρ', he, hk', ⟨hwl.symm, fun b hb => hM1.S b hb, fun k hk => ?_, fun k k' hk hk2 hee => ?_, fun id b hb => ?_, fun id i j esz e ho hcap => ?_⟩, DenV.ren hnew locR (fun _ h => h) hd1,
      ⟨by show ρ.n ≤ _; rw [hnl]; exact Nat.le_add_right _ _, locOld, hSS, fun b hb => ?_, fun k hk => ?_, fun b hb hnk => hx.frame b hb fun k hk he => hnk _ (hL0 k hk) he, hx.size, hx.os, hx.tape, hx.output⟩⟩
    · rcases hkey k hk with ⟨k1, _, _, hk1, hloc⟩ | ⟨_, h1, h2, hk1, hloc⟩
      · rw [hloc]; exact hM1.live k1 hk1
      · rw [hloc]
        exact ⟨Nat.lt_of_lt_of_le (hM.live k hk1).1 hx.size, hnotS k hk1 fun _ => h2⟩
    · have mixed : ∀ k1 k2, Live ρ1 m1 k1 → Live ρ m k2 → k2.id ∉ l → (ρ1.loc k1).b ≠ (ρ.loc k2).b := by
        intro k1 k2 hk1 hk2 hnl2 he2
        rcases hx.live k1 hk1 with h | ⟨k0, hk0, e0⟩
        · have := (hM.live k2 hk2).1; omega
        · exact hfr k2 hk2 (fun _ => hnl2) k0 hk0 (e0.trans he2)
      rcases hkey k hk with ⟨k1, _, rfl, hk1, hloc⟩ | ⟨_, h1, h2, hk1, hloc⟩ <;> rcases hkey k' hk2 with ⟨k1', _, rfl, hk1', hloc'⟩ | ⟨_, h1', h2', hk1', hloc'⟩
      · rw [hloc, hloc'] at hee
        rw [hM1.inj k1 k1' hk1 hk1' hee]
      · rw [hloc, hloc'] at hee
        exact absurd hee (mixed k1 k' hk1 hk1' h2')
      · rw [hloc, hloc'] at hee
        exact absurd hee.symm (mixed k1' k hk1' hk1 h2)
      · rw [hloc, hloc'] at hee
        exact hM.inj k k' hk1 hk1' hee
    · have hlt : id < m.length + (m1.length - l.length) := by rw [← hwl]; exact (List.getElem?_eq_some_iff.1 hb).1
      cases hbk : back id with
      | some i =>
        obtain ⟨h1, rfl⟩ := back_some hbk
        rw [hwn i h1] at hb
        obtain ⟨b0, h0, rfl⟩ := Option.map_eq_some_iff.1 hb
        exact BkRel.ren hnew locR (fun _ h => h) (by rw [hn1]; exact h1) (fun a b => locS i a b (by rw [hn1]; exact h1)) (hM1.bk i b0 h0)
      | none =>
        obtain ⟨h1, h2⟩ := back_none hlt hbk
        rw [hwo id hbk hlt] at hb
        have hrel := hM.bk id b hb
        have hloc : ρ'.loc (.root id) = ρ.loc (.root id) := locO (.root id) hbk
        have hge : ρ.n ≤ ρ'.n := by rw [hnl]; exact Nat.le_add_right _ _
        have hcell : ∀ {p c u}, (∀ a i j, p = some (a, i, j) → a = id) → DenC ρ w p c u → DenC ρ' w' p c u := fun {p c u} hp hd => DenC.like hge locOld (fun a i j hpe => by rw [hp a i j hpe]; exact locO (.sub id i j) hbk) hSS hSheap hd
        have hval : ∀ {c u}, DenR ρ w c u → DenR ρ' w' c u := by
          intro c u hd
          cases c with
          | one c => exact hcell (fun _ _ _ h => by cases h) hd
          | agg cs =>
            obtain ⟨vs, hv, hl', hc⟩ := hd
            exact ⟨vs, hv, hl', fun i c hi => let ⟨u, hu, hd⟩ := hc i c hi; ⟨u, hu, hcell (fun _ _ _ h => by cases h) hd⟩⟩
        have hh : b ≠ .dead → ((∃ esz elems, b = .row esz elems) → 0 < (ρ.loc (.root id)).cap) → w'.heap[(ρ.loc (.root id)).b]? = w.heap[(ρ.loc (.root id)).b]? := fun hnd hcap => hheap (.root id) ⟨b, hb, hnd, hcap⟩ fun _ => h2
        cases b with
        | dead => trivial
        | var cs =>
          obtain ⟨cur, hc, hd'⟩ := hrel
          simp only [BkRel, hloc]
          refine ⟨cur, hc.same (hh (by simp) (by rintro ⟨_, _, h⟩; cases h)), fun j c hj => ?_⟩
          obtain ⟨u, hu, hdu⟩ := hd' j c hj
          exact ⟨u, hu, hcell (fun _ _ _ h => by cases h) hdu⟩
        | row esz elems =>
          obtain ⟨g2, g3, g4, g5, hcur⟩ := hrel
          simp only [BkRel, hloc]
          refine ⟨g2, g3, g4, g5, fun hpos => ?_⟩
          obtain ⟨cur, hc, q1, q6⟩ := hcur hpos
          refine ⟨cur, hc.same (hh (by simp) (fun _ => hpos)), q1, fun i cs j c hi hj => ?_⟩
          obtain ⟨u, hu, hdu⟩ := q6 i cs j c hi hj
          exact ⟨u, hu, hcell (fun _ _ _ h => by cases h; rfl) hdu⟩
        | mp es =>
          obtain ⟨ae, clock, hc, q1, q2⟩ := hrel
          simp only [BkRel, hloc]
          refine ⟨ae, clock, ⟨(hh (by simp) (by rintro ⟨_, _, h⟩; cases h)).trans hc.1, hc.2⟩, q1, fun i e hi => ?_⟩
          obtain ⟨ae', hae, hkk, hdv⟩ := q2 i e hi
          exact ⟨ae', hae, hkk, hval hdv⟩
        | it cur left =>
          obtain ⟨mb, seen, ck, es', q2, q3, q4, q5, q6⟩ := hrel
          simp only [BkRel, hloc]
          exact ⟨mb, seen, ck, es', (hh (by simp) (by rintro ⟨_, _, h⟩; cases h)).trans q2, q3, hSS _ q4, (hSheap mb q4).trans q5, q6⟩
    · have hk : Live ρ' (weave m l (renM (sg l m.length) m1)) (.sub id i j) := ⟨⟨_, _, ho⟩, hcap⟩
      obtain ⟨es, rows, cs, hb, hi, hj⟩ := ho
      have hlt : id < m.length + (m1.length - l.length) := by rw [← hwl]; exact (List.getElem?_eq_some_iff.1 hb).1
      cases hbk : back id with
      | some i0 =>
        obtain ⟨h1, rfl⟩ := back_some hbk
        have hloc := locS i0 i j (by rw [hn1]; exact h1)
        rw [hloc] at hcap ⊢
        rw [hwn i0 h1] at hb
        obtain ⟨b0, h0, hb0⟩ := Option.map_eq_some_iff.1 hb
        cases b0 with
        | row s0 es0 =>
          simp only [Bk.ren, Bk.row.injEq] at hb0
          obtain ⟨rfl, rfl⟩ := hb0
          rw [List.getElem?_map] at hi
          obtain ⟨cs0, hi0, rfl⟩ := Option.map_eq_some_iff.1 hi
          rw [List.getElem?_map] at hj
          obtain ⟨c0, hj0, hc0⟩ := Option.map_eq_some_iff.1 hj
          have : c0 = .own esz e := by cases c0 <;> simp [CC.ren] at hc0 ⊢; exact hc0
          subst this
          exact hM1.own i0 i j esz e ⟨_, _, _, h0, hi0, hj0⟩ hcap
        | _ => simp [Bk.ren] at hb0
      | none =>
        obtain ⟨h1, h2⟩ := back_none hlt hbk
        have hloc := locO (.sub id i j) hbk
        rw [hloc] at hcap ⊢
        rw [hwo id hbk hlt] at hb
        have hown : OwnAt m id i j esz e := ⟨_, _, _, hb, hi, hj⟩
        obtain ⟨cur, hc, q1, q2, q3⟩ := hM.own id i j esz e hown hcap
        refine ⟨cur, hc.same (hheap (.sub id i j) ⟨⟨_, _, hown⟩, hcap⟩ fun _ => h2), q1, q2, fun i2 cs2 j2 d hi2 hj2 => ?_⟩
        obtain ⟨u, hu, hdu⟩ := q3 i2 cs2 j2 d hi2 hj2
        exact ⟨u, hu, hdu.mono hSS hSheap⟩
    · rcases hx.S' b hb with h | h | ⟨k0, hk0, he⟩
      · exact .inl ((hS0 b).1 h)
      · exact .inr (.inl h)
      · exact .inr (.inr ⟨_, hL0 k0 hk0, he⟩)
    · rcases hkey k hk with ⟨k1, _, _, hk1, hloc⟩ | ⟨_, h1, h2, hk1, hloc⟩
      · rw [hloc]
        rcases hx.live k1 hk1 with h | ⟨k0, hk0, e0⟩
        · exact .inl h
        · exact .inr ⟨_, hL0 k0 hk0, e0⟩
      · rw [hloc]
        exact .inr ⟨k, hk1, rfl⟩
end
end Go.AM
