import Derived.Test.YtbemknkbegkflaaAmE
set_option linter.unusedSimpArgs false
set_option linter.unnecessarySimpa false
set_option linter.unusedVariables false
namespace Go.AM
section
variable {P : Program} {ρ : Rho} {m : Mem} {w : World} {env : List CV} {a : Act} {K : CV → Mem → Prop}

theorem mapM_get {α β : Type} {f : α → Option β} : ∀ {l : List α} {r : List β}, l.mapM f = some r → ∀ (i : Nat) x, l[i]? = some x → ∃ y, f x = some y ∧ r[i]? = some y
  | [], r, h, i, x, hx => by simp at hx
  | a :: l, r, h, i, x, hx => by
    simp only [List.mapM_cons, Option.bind_eq_bind, Option.bind_eq_some_iff, Option.pure_def] at h
    obtain ⟨y, hy, ys, hys, h⟩ := h
    simp at h
    subst h
    cases i with
    | zero => simp at hx; subst hx; exact ⟨y, hy, by simp⟩
    | succ i => simpa using mapM_get hys i x (by simpa using hx)

theorem build_sound (hM : MemRel ρ m w) (hE : EnvRel ρ w env a.tmps) {t : TypeId} {ps : Array (Nat × Operand)} {z : List CC} {ps' : List (Nat × Nat × X)}
    (hz : zeroOf P t = some z)
    (hp : (∃ fs, P.underlying t = some (.struct fs) ∧ (fs.toList.mapM (fun f => (P.info? f.type).map fun i => (f.offset, i.size))).isSome = true ∧ lowParts P fs ps.toList = some ps') ∨
      (∃ n e sz, P.underlying t = some (.array n e) ∧ szOf P e = some sz ∧ lowPartsA sz ps.toList = some ps'))
    (h : step P (.build z ps') env m K) : Res P (do pure (Next.value (← Instr.build t (ps.map fun (i, x) => (i, a.eval x))))) ρ m w K := by
  simp only [step] at h
  obtain ⟨z', hf, hK⟩ := ok_iff.1 h
  have hz0 := hz
  simp only [zeroOf, Option.bind_eq_bind, Option.bind_eq_some_iff] at hz
  obtain ⟨i, hi, v, hv, hc⟩ := hz
  obtain ⟨hl, hd⟩ := lowCells_den (ρ := ρ) (w := w) hc
  have hcells : Cells ρ w z v.cells := ⟨by simpa using hl, fun i c hi => by
    obtain ⟨u, hu, hdu⟩ := hd i c hi
    exact ⟨u, by simpa using hu, hdu⟩⟩
  have key : ∃ cells, P.built t (ps.map fun (i, x) => (i, a.eval x)).toList = some cells ∧ Cells ρ w z' cells := by
    rcases hp with ⟨fs, hu, hall, hlp⟩ | ⟨n, e, sz, hu, hsz, hlp⟩
    · obtain ⟨places, hpl⟩ := Option.isSome_iff_exists.1 hall
      obtain ⟨cells, h1, h2⟩ := fillC_sound hE (fs := fs) (place := fun i => places.toArray[i]?) (fun i f hfi n hn => by
        obtain ⟨y, hy, hr⟩ := mapM_get hpl i f (by simpa using hfi)
        simp only [szOf, Option.map_eq_some_iff] at hn hy
        obtain ⟨i1, hi1, rfl⟩ := hn
        obtain ⟨i2, hi2, rfl⟩ := hy
        rw [hi1] at hi2
        cases hi2
        simpa using hr) hlp hf hcells
      refine ⟨cells, ?_, h2⟩
      unfold Program.built
      simp only [hi, hu, hv, hpl]
      simpa using h1
    · obtain ⟨cells, h1, h2⟩ := fillA_sound hE (sz := sz) (place := fun i => some (i * sz, sz)) (fun i => rfl) hlp hf hcells
      refine ⟨cells, ?_, h2⟩
      simp only [szOf, Option.map_eq_some_iff] at hsz
      obtain ⟨ie, hie, rfl⟩ := hsz
      unfold Program.built
      simp only [hi, hu, hv, hie]
      simpa using h1
  obtain ⟨cells, hb, hcs⟩ := key
  refine Res.pure hM (v := .agg cells) ?_ hK (den_agg hcs)
  rw [Sem.run_bind, run_build w t _ cells hb]
  rfl

theorem load_sound (hM : MemRel ρ m w) (hE : EnvRel ρ w env a.tmps) {t : TypeId} {x : Operand} {x' : X} {agg : Bool} {n : Nat} (ha : aggOf P t = some agg) (hs : szOf P t = some n)
    (hx : lowX x = some x') (h : step P (.load agg n x') env m K) : Res P (do pure (Next.value (← Instr.loadAt t (a.eval x)))) ρ m w K := by
  simp only [step] at h
  obtain ⟨ad, u, cv, hv, hr, hK, hd⟩ := loadA_sound hM ha hs h (lowX_den hE hx)
  refine Res.pure hM (v := u) ?_ hK hd
  rw [hv]
  simp [Instr.loadAt, Instr.sureAddr, hr]

/-- stores into a block of which no cell is frozen -/
theorem run_stores {mk : Prop} (g o : Nat) : ∀ (vs : List Value) (i : Nat) (cur : Array Value) (w : World), Cur mk w g cur → o + i + vs.length ≤ cur.size → (∀ v ∈ vs, v.oneCell' = true) →
    ∃ w' cur', (storeCells ⟨g, o, none⟩ vs i).run P w = .ok () w' ∧ Cur mk w' g cur' ∧ Turned w w' g ∧ cur'.size = cur.size ∧
      ∀ k, cur'[k]? = if o + i ≤ k ∧ k < o + i + vs.length then vs[k - (o + i)]? else cur[k]?
  | [], i, cur, w, hc, _, _ => ⟨w, cur, rfl, hc, ⟨fun _ _ => rfl, rfl, rfl, rfl, rfl⟩, rfl, fun k => by rw [if_neg (by simp)]⟩
  | v :: r, i, cur, w, hc, hl, h1 => by
    simp only [List.length_cons] at hl
    have hi : o + i < cur.size := by omega
    have hcell : w.cell? ⟨g, o + i, none⟩ = some cur[o + i] := by rw [hc.cell]; simp [hi]
    have hfro := hc.frozen hi
    have hst : (store ((⟨g, o, none⟩ : Addr).add i) v).run P w = .ok () (w.setCell ⟨g, o + i, none⟩ v) := by
      rw [add_mk, run_store P w _ v _ (h1 v (by simp)), hcell]
      simp [hfro]
    have hc1 : Cur mk (w.setCell ⟨g, o + i, none⟩ v) g (cur.setIfInBounds (o + i) v) := by
      obtain ⟨ty, fr, hb, hf⟩ := hc
      refine ⟨ty, fr, ?_, by simpa using hf⟩
      simp [World.setCell, Array.getElem?_modify, hb]
    have ht1 : Turned w (w.setCell ⟨g, o + i, none⟩ v) g := ⟨fun b hb => by simp [World.setCell, Array.getElem?_modify, Ne.symm hb], by simp, rfl, rfl, rfl⟩
    obtain ⟨w', cur', hr, hc', ht, hsz, hk⟩ := run_stores g o r (i + 1) _ _ hc1 (by simp; omega) (fun x hx => h1 x (by simp [hx]))
    refine ⟨w', cur', ?_, hc', ⟨fun b hb => (ht.heap b hb).trans (ht1.heap b hb), ht.size.trans ht1.size, ht.os, ht.tape, ht.output⟩, by simpa using hsz, fun k => ?_⟩
    · simp only [storeCells, Sem.run_bind, hst, Result.andThen_ok]
      exact hr
    · rw [hk k]
      simp only [List.length_cons]
      by_cases hb : o + (i + 1) ≤ k ∧ k < o + (i + 1) + r.length
      · rw [if_pos hb, if_pos (by omega), show k - (o + i) = (k - (o + (i + 1))) + 1 by omega]
        simp
      · rw [if_neg hb, Array.getElem?_setIfInBounds]
        by_cases he : o + i = k
        · subst he
          rw [if_pos rfl, if_pos (by omega)]
          simp
        · rw [if_neg he, if_neg (by omega)]

theorem store_sound (hM : MemRel ρ m w) (hE : EnvRel ρ w env a.tmps) {t : TypeId} {n : Nat} {p x : Operand} {p' x' : X} (hs : szOf P t = some n) (hn0 : n ≠ 0)
    (hp : lowX p = some p') (hx : lowX x = some x') (h : step P (.store n p' x') env m K) : Res P (do Instr.storeAt t (a.eval p) (a.eval x); pure Next.skip) ρ m w K := by
  simp only [step] at h
  obtain ⟨xs, hxs, h⟩ := ok_iff.1 h
  rcases bB_iff.1 h with ⟨hn, h⟩ | ⟨_, h⟩
  case inr => exact h.elim
  have hn : xs.length = n := Nat.eq_of_beq_eq_true hn
  obtain ⟨c1, c2, c3⟩ := cellsOf_den hxs (lowX_den hE hx)
  have hdp := lowX_den hE hp
  generalize a.eval p = pv at hdp
  generalize p'.ev env = pc at hdp h
  generalize a.eval x = xv at c1 c2 c3
  have sv : ∀ ad : Addr, Instr.storeAt t (.pointer (some ad)) xv = storeVar t ad xv := fun ad => rfl
  have run : ∀ {mk : Prop} (b off : Nat) (cur : Array Value), Cur mk w b cur → off + xs.length ≤ cur.size → ∃ w' cur', (storeVar t ⟨b, off, none⟩ xv).run P w = .ok () w' ∧ Cur mk w' b cur' ∧ Turned w w' b ∧ cur'.size = cur.size ∧
      ∀ k, cur'[k]? = if off ≤ k ∧ k < off + xs.length then xv.cells[k - off]? else cur[k]? := by
    intro mk b off cur hc hle
    obtain ⟨w', cur', h1, h2, h3, h4, h5⟩ := run_stores (P := P) b off xv.cells.toList 0 cur w hc (by simp [c1]; omega) c3
    refine ⟨w', cur', ?_, h2, h3, h4, fun k => ?_⟩
    · unfold storeVar
      rw [Sem.run_bind, run_szOf hs]
      simp only [Result.andThen_ok]
      rw [if_neg (by rw [c1, hn]; simp)]
      simpa using h1
    · rw [h5 k]
      simp [c1]
  split at h
  · rename_i id j
    obtain ⟨hlt, rfl⟩ := hdp
    obtain ⟨bk, hb, h⟩ := ok_iff.1 h
    rw [nth_eq] at hb
    cases bk <;> simp only at h
    rename_i cs
    obtain ⟨cs', hw, hK⟩ := ok_iff.1 h
    obtain ⟨w1, w2, w3⟩ := writeN_spec hw
    obtain ⟨cur, hcur, hden⟩ := hM.bk id _ hb
    rw [setN_eq] at hK
    have hfit : (ρ.loc (.root id)).base + j + xs.length ≤ cur.size := by
      obtain ⟨u, hu, _⟩ := hden (j + xs.length - 1) _ (List.getElem?_eq_getElem (by omega))
      have := (Array.getElem?_eq_some_iff.1 hu).1
      omega
    obtain ⟨w', cur', hr, hc', ht, hsz, hk⟩ := run (ρ.loc (.root id)).b ((ρ.loc (.root id)).base + j) cur hcur hfit
    obtain ⟨hM', hX⟩ := hM.upd (bk' := .var cs') hb ⟨_, hb, by simp, by rintro ⟨_, _, e⟩; cases e⟩ ht (fun g => ⟨cur', hc', fun k c hkc => by
      rw [w3 k] at hkc
      rw [hk]
      by_cases hin : j ≤ k ∧ k < j + xs.length
      · rw [if_pos hin] at hkc
        rw [if_pos (by omega)]
        obtain ⟨u, hu, hdu⟩ := c2 _ c hkc
        exact ⟨u, by rw [← hu]; congr 1; omega, hdu.goes g (by simp)⟩
      · rw [if_neg hin] at hkc
        rw [if_neg (by omega)]
        obtain ⟨u, hu, hdu⟩ := hden k c hkc
        exact ⟨u, hu, hdu.goes g (by simp)⟩⟩) (by
      rintro i' j' esz e ⟨es, rows, cs2, hb2, _, _⟩
      rw [List.getElem?_set_self (by rw [← hM.n]; exact hlt)] at hb2
      cases hb2)
    refine ⟨.skip, Go.undef, w', .undef, _, ρ, ?_, .inr ⟨rfl, rfl⟩, hK, hM', rfl, hX⟩
    rw [sv, Sem.run_bind, hr]
    rfl
  · rename_i id esz i j
    obtain ⟨hlt, rfl⟩ := hdp
    obtain ⟨bk, hb, h⟩ := ok_iff.1 h
    rw [nth_eq] at hb
    cases bk <;> simp only at h
    rename_i esz' elems
    rcases bB_iff.1 h with ⟨he, h⟩ | ⟨_, h⟩
    case inr => exact h.elim
    have he : esz = esz' := Nat.eq_of_beq_eq_true he
    obtain ⟨cells, hcells, h⟩ := ok_iff.1 h
    rw [nth_eq] at hcells
    rcases bB_iff.1 h with ⟨hno, h⟩ | ⟨_, h⟩
    case inr => exact h.elim
    obtain ⟨cells', hw, hK⟩ := ok_iff.1 h
    obtain ⟨w1, w2, w3⟩ := writeN_spec hw
    obtain ⟨h2, h3, h4, h5, hcu⟩ := hM.bk id _ hb
    have hi0 := (List.getElem?_eq_some_iff.1 hcells).1
    have hpos : 0 < (ρ.loc (.root id)).cap := by omega
    obtain ⟨cur, hcur, h1, hden⟩ := hcu hpos
    rw [setN_eq, setN_eq] at hK
    subst he
    have hcl : cells.length = esz := h5 _ (List.mem_of_getElem? hcells)
    have hi : i < elems.length := (List.getElem?_eq_some_iff.1 hcells).1
    have hmul : i * esz + esz ≤ (ρ.loc (.root id)).cap * esz := by
      have : (i + 1) * esz ≤ (ρ.loc (.root id)).cap * esz := Nat.mul_le_mul_right _ (by omega)
      rwa [Nat.add_mul, Nat.one_mul] at this
    obtain ⟨w', cur', hr, hc', ht, hsz, hk⟩ := run (ρ.loc (.root id)).b ((ρ.loc (.root id)).base + i * esz + j) cur hcur (by omega)
    obtain ⟨hM', hX⟩ := hM.upd (bk' := .row esz (elems.set i cells')) hb ⟨_, hb, by simp, fun _ => hpos⟩ ht (fun g => ⟨by simpa using h2, h3, h4, fun cs hcs => by
        rcases List.mem_or_eq_of_mem_set hcs with hm | rfl
        · exact h5 cs hm
        · rw [w1, hcl], fun _ => ⟨cur', hc', by rw [hsz]; exact h1, fun i' cs j' c hi' hj' => by
      rw [hk]
      by_cases hii : i = i'
      · subst hii
        rw [List.getElem?_set_self hi] at hi'
        simp only [Option.some.injEq] at hi'
        subst hi'
        rw [w3 j'] at hj'
        by_cases hin : j ≤ j' ∧ j' < j + xs.length
        · rw [if_pos hin] at hj'
          rw [if_pos (by omega)]
          obtain ⟨u, hu, hdu⟩ := c2 _ c hj'
          exact ⟨u, by rw [← hu]; congr 1; omega, (hdu.goes g (by simp)).anyPos _⟩
        · rw [if_neg hin] at hj'
          rw [if_neg (by omega)]
          obtain ⟨u, hu, hdu⟩ := hden i cells j' c hcells hj'
          exact ⟨u, hu, hdu.goes g (by rintro _ _ _ e; cases e; exact hlt)⟩
      · rw [List.getElem?_set_ne hii] at hi'
        obtain ⟨u, hu, hdu⟩ := hden i' cs j' c hi' hj'
        have hj'' : j' < esz := by rw [← h5 _ (List.mem_of_getElem? hi')]; exact (List.getElem?_eq_some_iff.1 hj').1
        have hne : ¬ ((ρ.loc (.root id)).base + i * esz + j ≤ (ρ.loc (.root id)).base + i' * esz + j' ∧ (ρ.loc (.root id)).base + i' * esz + j' < (ρ.loc (.root id)).base + i * esz + j + xs.length) := by
          rcases Nat.lt_or_gt_of_ne hii with hlt' | hlt'
          · have : (i + 1) * esz ≤ i' * esz := Nat.mul_le_mul_right _ hlt'
            rw [Nat.add_mul, Nat.one_mul] at this
            omega
          · have : (i' + 1) * esz ≤ i * esz := Nat.mul_le_mul_right _ hlt'
            rw [Nat.add_mul, Nat.one_mul] at this
            omega
        rw [if_neg hne]
        exact ⟨u, hu, hdu.goes g (by rintro _ _ _ e; cases e; exact hlt)⟩⟩⟩) (by
      rintro i' j' esz2 e ⟨es, rows, cs2, hb2, hi2, hj2⟩
      rw [List.getElem?_set_self (by rw [← hM.n]; exact hlt)] at hb2
      cases hb2
      by_cases hii : i = i'
      · subst hii
        rw [List.getElem?_set_self hi] at hi2
        cases hi2
        rw [w3 j'] at hj2
        by_cases hin : j ≤ j' ∧ j' < j + xs.length
        · rw [if_pos hin] at hj2
          obtain ⟨u, hu, hdu⟩ := c2 _ _ hj2
          exact absurd rfl (hdu.notOwn _ _)
        · rw [if_neg hin] at hj2
          exact ⟨esz, elems, cells, hb, hcells, hj2⟩
      · rw [List.getElem?_set_ne hii] at hi2
        exact ⟨esz, elems, cs2, hb, hi2, hj2⟩)
    refine ⟨.skip, Go.undef, w', .undef, _, ρ, ?_, .inr ⟨rfl, rfl⟩, hK, hM', rfl, hX⟩
    rw [sv, Sem.run_bind, hr]
    rfl
  · exact h.elim

end
end Go.AM
