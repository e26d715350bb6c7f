import Derived.Test.YtbemknkbegkflaaAmT
set_option linter.unusedVariables false
set_option linter.unusedSimpArgs false
set_option linter.unnecessarySimpa false
/-! Rows written in place: append where there is room, clear. -/
namespace Go.AM
section
variable {P : Program} {ρ : Rho} {m : Mem} {w : World} {env : List CV} {a : Act} {K : CV → Mem → Prop}

theorem splice_len {α : Type} {l : List α} {h : Nat} {E : List α} (hle : h + E.length ≤ l.length) : (splice l h E).length = l.length := by
  simp [splice]; omega
theorem splice_get {α : Type} {l : List α} {h : Nat} {E : List α} (hle : h + E.length ≤ l.length) (i : Nat) : (splice l h E)[i]? = if h ≤ i ∧ i < h + E.length then E[i - h]? else l[i]? := by
  have hl : (l.take h).length = h := by simp; omega
  simp only [splice]
  rcases Nat.lt_or_ge i h with h1 | h1
  · rw [List.getElem?_append_left (by omega), if_neg (by omega), List.getElem?_take, if_pos h1]
  · rw [List.getElem?_append_right (by omega), hl]
    rcases Nat.lt_or_ge (i - h) E.length with h2 | h2
    · rw [List.getElem?_append_left h2, if_pos (by omega)]
    · rw [List.getElem?_append_right h2, if_neg (by omega), List.getElem?_drop]
      congr 1
      omega
theorem DenC.noPosB {c : CC} {v : Value} {pos : Option (Nat × Nat × Nat)} (hc : c.noOwn = true) (h : DenC ρ w pos c v) : DenC ρ w .none c v := by
  cases c <;> first | exact h | simp [CC.noOwn] at hc
/-- rows written into a block, in place -/
theorem row_store (hM : MemRel ρ m w) {id esz h : Nat} {rows E : List (List CC)} {vs : List Value} (hb : m[id]? = some (.row esz rows)) (hle : h + E.length ≤ rows.length) (hpos : 0 < rows.length)
    (hE : ∀ cs, cs ∈ E → cs.length = esz) (hvl : vs.length = E.length * esz) (hone : ∀ u, u ∈ vs → u.oneCell' = true)
    (hden : ∀ (i : Nat) cs (j : Nat) c, E[i]? = some cs → cs[j]? = some c → ∃ u, vs[i * esz + j]? = some u ∧ DenC ρ w .none c u) :
    ∃ w', (storeCells ⟨(ρ.loc (.root id)).b, (ρ.loc (.root id)).base + h * esz, none⟩ vs).run P w = .ok () w' ∧ MemRel ρ (m.set id (.row esz (splice rows h E))) w' ∧ Ext ρ m w ρ (m.set id (.row esz (splice rows h E))) w' := by
  have hid : id < m.length := (List.getElem?_eq_some_iff.1 hb).1
  obtain ⟨h2, h3, h4, h5, hcu⟩ := hM.bk id _ hb
  have hcap : 0 < (ρ.loc (.root id)).cap := by omega
  obtain ⟨cur, hcur, h1, hd⟩ := hcu hcap
  have hmul : (h + E.length) * esz ≤ (ρ.loc (.root id)).cap * esz := Nat.mul_le_mul_right _ (by omega)
  rw [Nat.add_mul] at hmul
  obtain ⟨w', cur', hr, hc', ht, hsz, hk⟩ := run_stores (P := P) (ρ.loc (.root id)).b ((ρ.loc (.root id)).base + h * esz) vs 0 cur w hcur (by rw [hvl]; omega) hone
  obtain ⟨hM', hX⟩ := hM.upd (bk' := .row esz (splice rows h E)) hb ⟨_, hb, by simp, fun _ => hcap⟩ ht (fun g => ⟨by rw [splice_len hle]; exact h2, h3, h4, fun cs hcs => by
      obtain ⟨i, hi⟩ := List.getElem?_of_mem hcs
      rw [splice_get hle] at hi
      split at hi
      · exact hE cs (List.mem_of_getElem? hi)
      · exact h5 cs (List.mem_of_getElem? hi), fun _ => ⟨cur', hc', by rw [hsz]; exact h1, fun i cs j c hi hj => by
    rw [hk]
    rw [splice_get hle] at hi
    have hjl : j < esz := by
      have hcl : cs.length = esz := by
        split at hi
        · exact hE cs (List.mem_of_getElem? hi)
        · exact h5 cs (List.mem_of_getElem? hi)
      rw [← hcl]; exact (List.getElem?_eq_some_iff.1 hj).1
    split at hi
    · rename_i hin
      obtain ⟨u, hu, hdu⟩ := hden _ cs j c hi hj
      have e1 : i * esz = h * esz + (i - h) * esz := by rw [← Nat.add_mul]; congr 1; omega
      have hlt := (List.getElem?_eq_some_iff.1 hu).1
      rw [if_pos (by omega)]
      refine ⟨u, ?_, (hdu.goes g (by simp)).anyPos _⟩
      rw [← hu]
      congr 1
      omega
    · rename_i hin
      obtain ⟨u, hu, hdu⟩ := hd i cs j c hi hj
      have hne : ¬ ((ρ.loc (.root id)).base + h * esz + 0 ≤ (ρ.loc (.root id)).base + i * esz + j ∧ (ρ.loc (.root id)).base + i * esz + j < (ρ.loc (.root id)).base + h * esz + 0 + vs.length) := by
        rw [hvl]
        rcases Nat.lt_or_ge i h with q | q
        · have : (i + 1) * esz ≤ h * esz := Nat.mul_le_mul_right _ q
          rw [Nat.add_mul, Nat.one_mul] at this
          omega
        · have : (h + E.length) * esz ≤ i * esz := Nat.mul_le_mul_right _ (by omega)
          rw [Nat.add_mul] at this
          omega
      rw [if_neg hne]
      exact ⟨u, hu, hdu.goes g (by rintro _ _ _ e; cases e; rw [hM.n]; exact hid)⟩⟩⟩) (by
    rintro i' j' esz2 e ⟨es, rows2, cs2, hb2, hi2, hj2⟩
    rw [List.getElem?_set_self hid] at hb2
    cases hb2
    rw [splice_get hle] at hi2
    split at hi2
    · obtain ⟨u, hu, hdu⟩ := hden _ _ _ _ hi2 hj2
      exact absurd rfl (hdu.notOwn _ _)
    · exact ⟨esz, rows, cs2, hb, hi2, hj2⟩)
  exact ⟨w', hr, hM', hX⟩

theorem noOwnL_get : ∀ {cs : List CC}, noOwnL cs = true → ∀ c, c ∈ cs → c.noOwn = true
  | [], _, c, h => by simp at h
  | x :: r, h, c, hc => by
    simp only [noOwnL, Bool.and_eq_true] at h
    rcases List.mem_cons.1 hc with rfl | hc
    · exact h.1
    · exact noOwnL_get h.2 c hc
theorem noOwnRows_mem : ∀ {E : List (List CC)}, noOwnRows E = true → ∀ cs, cs ∈ E → noOwnL cs = true
  | [], _, c, h => by simp at h
  | x :: r, h, c, hc => by
    simp only [noOwnRows, Bool.and_eq_true] at h
    rcases List.mem_cons.1 hc with rfl | hc
    · exact h.1
    · exact noOwnRows_mem h.2 c hc
theorem noOwnRows_get {E : List (List CC)} (h : noOwnRows E = true) {i j : Nat} {cs : List CC} {c : CC} (hi : E[i]? = some cs) (hj : cs[j]? = some c) : c.noOwn = true :=
  noOwnL_get (noOwnRows_mem h cs (List.mem_of_getElem? hi)) c (List.mem_of_getElem? hj)
/-- what is appended finds room in the block: it is written there -/
theorem appIn_sound (hM : MemRel ρ m w) {t t2 ty e e2 : TypeId} {i : TypeInfo} {z : List CC} {v v2 : Value} {c2 : CV} {id h : Nat} {rows E2 : List (List CC)}
    (ht : P.underlying t = some (.slice e)) (ht2 : P.underlying t2 = some (.slice e2)) (hi : P.info? e = some i) (hz : zeroOf P e = some z) (hsz : i.size = z.length) (hb : 0 < i.bytes)
    (hd : DenV ρ w (.rv (.one (.row id i.size 0 (some h)))) v) (hdy : DenV ρ w c2 v2) (hbk : m[id]? = some (.row i.size rows)) (hE2 : slElems m i.size c2 = some E2)
    (hpos : 0 < rows.length) (hle : h + E2.length ≤ rows.length) (hno : noOwnRows E2 = true) (hfit : rows.length * i.bytes ≤ 140737488355328)
    (hK : K (.rv (.one (.row id i.size 0 (some (h + E2.length))))) (m.set id (.row i.size (splice rows h E2)))) :
    Res P (do pure (Next.value (← Builtin.append_ #[t, t2] ty #[v, v2]))) ρ m w K := by
  have hid : id < m.length := (List.getElem?_eq_some_iff.1 hbk).1
  have hE1 : slElems m i.size (.rv (.one (.row id i.size 0 (some h)))) = some (subL rows 0 (some h)) := by
    simp [slElems, nth_eq, hbk]
  obtain ⟨ad1, cap1, vs1, hv1, hle1, hcm1, F1⟩ := sl_flat hM hE1 hd
  obtain ⟨ad2, cap2, vs2, hv2, hle2, hcm2, F2⟩ := sl_flat hM hE2 hdy
  have hz0 := hz
  simp only [zeroOf, Option.bind_eq_bind, Option.bind_eq_some_iff] at hz0
  obtain ⟨i', hi', zv, hzv, hzc⟩ := hz0
  rw [hi] at hi'
  cases hi'
  have hE1l : (subL rows 0 (some h)).length = h := by
    rw [subL_eq]; simp; omega
  rw [hE1l] at hv1 hle1
  have hfit2 : (h + E2.length) * i.bytes ≤ 140737488355328 := Nat.le_trans (Nat.mul_le_mul_right _ hle) hfit
  have hrun := run_append_gen (P := P) (w := w) (ty := ty) ht ht2 hi hzv (a0 := ad1) (n1 := h) (c1 := cap1) (n2 := E2.length) (src := v2) (olds := vs1) (news := vs2)
    (by rw [hv2]; rfl) (fun k => by rw [hv2]; exact F2.firstCells cap2 k) (fun k => by have := F1.firstCells (P := P) cap1 k; rwa [hE1l] at this) hb hfit2
  obtain ⟨r2, r3, r4, r5, rcu⟩ := hM.bk id _ hbk
  obtain ⟨hlt, d1, d2, d3, d4, ad, hve, had⟩ := hd
  rw [hve] at hv1
  injection hv1 with q1 q2 q3
  simp only [Nat.sub_zero] at q3
  have hc1 : h + E2.length ≤ cap1 := by rw [← q3]; clear rcu; omega
  have hadr := had (by clear rcu; omega)
  rw [if_pos hc1] at hrun
  obtain ⟨w', hst, hM', hX⟩ := row_store (P := P) hM (h := h) (E := E2) (vs := vs2) hbk hle hpos F2.each F2.len F2.one (fun k cs j c hk hj => by
    obtain ⟨u, hu, hdu⟩ := F2.den k cs j c hk hj
    exact ⟨u, hu, hdu.noPosB (noOwnRows_get hno hk hj)⟩)
  refine ⟨.value (.slice ad1 (h + E2.length) cap1), _, w', .rv (.one (.row id i.size 0 (some (h + E2.length)))), _, ρ, ?_, .inl rfl, hK, hM', ?_, hX⟩
  · rw [hve, q1, q2, show (ρ.loc (.root id)).cap - 0 = cap1 by simpa using q3, Sem.run_bind, hrun]
    rw [← q1, hadr]
    simp only [stoAt, add_mk, Nat.zero_mul, Nat.add_zero]
    rw [hst]
    rfl
  · refine ⟨hlt, Nat.zero_le _, ?_, d3, d4, ad1, ?_, fun h0 => by rw [← q1]; exact had h0⟩
    · show h + E2.length ≤ _
      clear rcu; omega
    · simp only [Option.getD_some, Nat.sub_zero]
      rw [q3]
/-- a row is cleared -/
theorem clear_sound (hM : MemRel ρ m w) {t ty e : TypeId} {i : TypeInfo} {z : List CC} {v : Value} {id lo hi : Nat} {rows : List (List CC)}
    (ht : P.underlying t = some (.slice e)) (hi' : P.info? e = some i) (hz : zeroOf P e = some z) (hsz : i.size = z.length)
    (hd : DenV ρ w (.rv (.one (.row id i.size lo (some hi)))) v) (hbk : m[id]? = some (.row i.size rows)) (hlo : lo < hi) (hle : hi ≤ rows.length)
    (hK : K (.tup []) (m.set id (.row i.size (splice rows lo (repl (hi - lo) z))))) :
    Res P (do pure (Next.value (← Builtin.clear_ #[t] ty #[v]))) ρ m w K := by
  have hid : id < m.length := (List.getElem?_eq_some_iff.1 hbk).1
  have hz0 := hz
  simp only [zeroOf, Option.bind_eq_bind, Option.bind_eq_some_iff] at hz0
  obtain ⟨i', hi2, zv, hzv, hzc⟩ := hz0
  rw [hi'] at hi2
  cases hi2
  obtain ⟨hzl, hzd⟩ := lowCells_den (ρ := ρ) (w := w) hzc
  have hzs : zv.cells.size = z.length := by simpa using hzl
  obtain ⟨r2, r3, r4, r5, rcu⟩ := hM.bk id _ hbk
  obtain ⟨hlt, d1, d2, d3, d4, ad, hve, had⟩ := hd
  have hadr := had (by clear rcu; omega)
  have hrl : (repl (hi - lo) z).length = hi - lo := by rw [repl_eq]; simp
  obtain ⟨w', hst, hM', hX⟩ := row_store (P := P) hM (h := lo) (E := repl (hi - lo) z) (vs := (Builtin.zeroCells zv.cells (hi - lo)).toList) hbk (by rw [hrl]; omega) (by omega)
    (fun cs hcs => by rw [repl_eq] at hcs; rw [List.eq_of_mem_replicate hcs, hsz]) (by rw [hrl, Array.length_toList, size_zeroCells, hzs, hsz])
    (fun u hu => by
      rw [Array.mem_toList_iff] at hu
      simp only [Builtin.zeroCells, Array.mem_map] at hu
      obtain ⟨k, hk, rfl⟩ := hu
      have hk : k < (hi - lo) * zv.cells.size := by simpa using hk
      have hzp : 0 < zv.cells.size := by
        rcases Nat.eq_zero_or_pos zv.cells.size with h0 | h0
        · rw [h0] at hk; simp at hk
        · exact h0
      have hm : k % zv.cells.size < zv.cells.size := Nat.mod_lt _ hzp
      rw [hzs] at hm
      obtain ⟨u, hu, hdu⟩ := hzd _ _ (List.getElem?_eq_getElem hm)
      have hu' : zv.cells[k % zv.cells.size]? = some u := by rw [hzs]; simpa using hu
      rw [getElem!_def, hu']
      exact hdu.one)
    (fun k cs j c hk hj => by
      rw [repl_eq] at hk
      have hk1 := (List.getElem?_eq_some_iff.1 hk).1
      simp at hk1
      have hcs : cs = z := List.eq_of_mem_replicate (List.mem_of_getElem? hk)
      subst hcs
      have hj1 := (List.getElem?_eq_some_iff.1 hj).1
      obtain ⟨u, hu, hdu⟩ := hzd j c hj
      refine ⟨u, ?_, hdu⟩
      have hlt : k * i.size + j < (hi - lo) * zv.cells.size := by
        have : (k + 1) * i.size ≤ (hi - lo) * i.size := Nat.mul_le_mul_right _ hk1
        rw [Nat.add_mul, Nat.one_mul] at this
        rw [hzs, ← hsz]
        omega
      simp only [Builtin.zeroCells, Array.getElem?_toList, Array.getElem?_map, Array.getElem?_range]
      rw [if_pos hlt]
      simp only [Option.map_some, Option.some.injEq]
      have hm : (k * i.size + j) % zv.cells.size = j := by
        rw [hzs, hsz, Nat.mul_comm, Nat.mul_add_mod, Nat.mod_eq_of_lt hj1]
      rw [hm]
      have hu' : zv.cells[j]? = some u := by simpa using hu
      rw [getElem!_def, hu'])
  refine ⟨.value (.tuple #[]), _, w', .tup [], _, ρ, ?_, .inl rfl, hK, hM', ⟨[], rfl, rfl, fun i r h => by simp at h⟩, hX⟩
  have hn : hi - lo ≠ 0 := by omega
  simp only [Option.getD_some] at hve
  rw [hve, hadr]
  obtain ⟨n, hn'⟩ : ∃ n, hi - lo = n + 1 := ⟨hi - lo - 1, by omega⟩
  rw [hn'] at hst ⊢
  simp [Builtin.clear_, run_underlying ht, zeroValue, typeInfo, hi', hzv, hst]
theorem app_sound (hM : MemRel ρ m w) (hE : EnvRel ρ w env a.tmps) {t t2 ty e e2 : TypeId} {i : TypeInfo} {z : List CC} {x y : Operand} {x' y' : X}
    (ht : P.underlying t = some (.slice e)) (ht2 : P.underlying t2 = some (.slice e2)) (hi : P.info? e = some i) (hz : zeroOf P e = some z) (hsz : i.size = z.length) (hpos : 0 < z.length) (hb : 0 < i.bytes)
    (hx : lowX x = some x') (hy : lowX y = some y') (h : step P (.app i.size i.bytes x' y') env m K) :
    Res P (do pure (Next.value (← Builtin.append_ #[t, t2] ty #[a.eval x, a.eval y]))) ρ m w K := by
  simp only [step] at h
  rcases bB_iff.1 h with ⟨hcond, g1⟩ | ⟨_, g1⟩
  · exact app_sound0 hM hE ht ht2 hi hz hsz hpos hb hx hy hcond g1
  · have hd := lowX_den hE hx
    have hdy := lowX_den hE hy
    split at g1
    · rename_i id e1 lo hh hev
      rw [hev] at hd
      obtain ⟨bk, hbk, g2⟩ := ok_iff.1 g1
      rw [nth_eq] at hbk
      split at g2
      · rename_i e2' rows
        obtain ⟨E2, hE2, g3⟩ := ok_iff.1 g2
        rcases bB_iff.1 g3 with ⟨hc, hfit, hK⟩ | ⟨_, g4⟩
        case inr => exact g4.elim
        simp only [Bool.and_eq_true, Nat.ble_eq] at hc
        obtain ⟨q1, q2, q3, c1, c2, c3⟩ := hc
        have q1 := Nat.eq_of_beq_eq_true q1
        have q2 := Nat.eq_of_beq_eq_true q2
        have q3 := Nat.eq_of_beq_eq_true q3
        subst q1 q2 q3
        rw [setN_eq] at hK
        exact appIn_sound hM ht ht2 hi hz hsz hb hd hdy hbk hE2 c1 c2 c3 hfit hK
      · exact g2.elim
    · exact g1.elim
theorem clr_sound (hM : MemRel ρ m w) (hE : EnvRel ρ w env a.tmps) {t ty e : TypeId} {i : TypeInfo} {z : List CC} {x : Operand} {x' : X}
    (ht : P.underlying t = some (.slice e)) (hi : P.info? e = some i) (hz : zeroOf P e = some z) (hsz : i.size = z.length)
    (hx : lowX x = some x') (h : step P (.clr i.size z x') env m K) :
    Res P (do pure (Next.value (← Builtin.clear_ #[t] ty #[a.eval x]))) ρ m w K := by
  have hd := lowX_den hE hx
  simp only [step] at h
  generalize a.eval x = v at hd ⊢
  generalize x'.ev env = c at hd h
  have nothing : ∀ ad cap, v = .slice ad 0 cap → K (.tup []) m → Res P (do pure (Next.value (← Builtin.clear_ #[t] ty #[v]))) ρ m w K := by
    intro ad cap hv hK
    refine ⟨.value (.tuple #[]), _, w, .tup [], m, ρ, ?_, .inl rfl, hK, hM, ⟨[], rfl, rfl, fun i r h => by simp at h⟩, Ext.refl _ _ _⟩
    subst hv
    cases ad <;> simp [Builtin.clear_, run_underlying ht]
  split at h
  · rename_i id e1 lo hi'
    obtain ⟨bk, hbk, h⟩ := ok_iff.1 h
    rw [nth_eq] at hbk
    split at h
    · rename_i e2 rows
      rcases bB_iff.1 h with ⟨hc, hin⟩ | ⟨_, hin⟩
      case inr => exact hin.elim
      clear h
      simp only [Bool.and_eq_true, Nat.ble_eq] at hc
      obtain ⟨q1, q2, hle⟩ := hc
      have q1 := Nat.eq_of_beq_eq_true q1
      have q2 := Nat.eq_of_beq_eq_true q2
      subst q1 q2
      obtain ⟨r2, _⟩ := hM.bk id _ hbk
      have hd2 : DenV ρ w (.rv (.one (.row id i.size lo (some (hiOf hi' rows.length))))) v := by
        obtain ⟨d0, d1, d2, d3, d4, ad, hv, had⟩ := hd
        cases hi' with
        | none =>
          simp only [Option.getD_none] at d1 d2 hv
          refine ⟨d0, ?_, ?_, d3, d4, ad, ?_, had⟩ <;> simp only [hiOf, Option.getD_some, r2]
          · exact d1
          · exact Nat.le_refl _
          · exact hv
        | some hh => exact ⟨d0, d1, d2, d3, d4, ad, hv, had⟩
      rcases bB_iff.1 hin with ⟨hlt, hK⟩ | ⟨hge, hK⟩
      · rw [setN_eq] at hK
        exact clear_sound hM ht hi hz hsz hd2 hbk (by simpa [Nat.blt_eq] using hlt) hle hK
      · have hge : ¬ lo < hiOf hi' rows.length := fun hh => by rw [← Nat.blt_eq, hge] at hh; cases hh
        obtain ⟨d0, d1, d2, d3, d4, ad, hv, had⟩ := hd2
        simp only [Option.getD_some] at hv
        rw [show hiOf hi' rows.length - lo = 0 by omega] at hv
        exact nothing _ _ hv hK
    · exact h.elim
  · obtain ⟨ad, hv⟩ := hd
    exact nothing _ _ hv h
  · exact h.elim
theorem isSl_den {c : CV} {v : Value} (hc : isSl c = true) (hd : DenV ρ w c v) : ∃ ad n cap, v = .slice ad n cap := by
  unfold isSl at hc
  split at hc
  all_goals first
    | (cases hc; done)
    | (have hd : DenD _ _ _ _ := hd; cases hd <;> exact ⟨_, _, _, rfl⟩)
    | (obtain ⟨a, hv⟩ := hd; exact ⟨_, _, _, hv⟩)
    | (obtain ⟨_, _, _, _, _, a, hv, _⟩ := hd; exact ⟨_, _, _, hv⟩)
theorem copy_sound (hM : MemRel ρ m w) (hE : EnvRel ρ w env a.tmps) {t t2 ty e : TypeId} {i : TypeInfo} {z : List CC} {x y : Operand} {x' y' : X}
    (ht : P.underlying t = some (.slice e)) (hi : P.info? e = some i) (hz : zeroOf P e = some z) (hsz : i.size = z.length)
    (hx : lowX x = some x') (hy : lowX y = some y') (h : step P (.copy i.size x' y') env m K) :
    Res P (do pure (Next.value (← Builtin.copy_ #[t, t2] ty #[a.eval x, a.eval y]))) ρ m w K := by
  have hd := lowX_den hE hx
  have hdy := lowX_den hE hy
  simp only [step] at h
  generalize a.eval x = v at hd ⊢
  generalize a.eval y = v2 at hdy ⊢
  generalize x'.ev env = c at hd h
  generalize y'.ev env = c2 at hdy h
  obtain ⟨E, hE2, h⟩ := ok_iff.1 h
  obtain ⟨ad2, cap2, vs2, hv2, hle2, hcm2, F2⟩ := sl_flat hM hE2 hdy
  have hn := F2.firstCells (P := P) cap2 0
  rw [show w.drewN 0 = w from rfl] at hn
  have h' := h
  clear h
  rcases bB_iff.1 h' with ⟨h0, g⟩ | ⟨h0, g⟩
  · have h0 : E.length = 0 := Nat.eq_of_beq_eq_true h0
    rcases bB_iff.1 g with ⟨hs, hK⟩ | ⟨_, g⟩
    case inr => exact g.elim
    obtain ⟨ad, n, cap, hv⟩ := isSl_den hs hd
    have hvl : vs2 = [] := List.eq_nil_of_length_eq_zero (by rw [F2.len, h0, Nat.zero_mul])
    rw [h0] at hn hv2
    rw [hvl] at hn
    refine ⟨.value (goInt 0), _, w, vInt .i64 0, m, ρ, ?_, .inl rfl, hK, hM, DenD.val (.int .i64 0) rfl, Ext.refl _ _ _⟩
    subst hv hv2
    cases ad <;> simp [Builtin.copy_, run_underlying ht, Builtin.lenOf, sizeOf, typeInfo, hi, hn, storeCells]
  · split at g
    · clear h'
      rename_i rid e1 lo hi'
      obtain ⟨bk, hbk, g⟩ := ok_iff.1 g
      rw [nth_eq] at hbk
      split at g
      · rename_i e2 rows
        rcases bB_iff.1 g with ⟨hc, hK⟩ | ⟨_, g⟩
        case inr => exact g.elim
        clear g
        simp only [Bool.and_eq_true, Nat.ble_eq] at hc
        obtain ⟨q1, q2, hle, hfit, hno⟩ := hc
        have q1 := Nat.eq_of_beq_eq_true q1
        have q2 := Nat.eq_of_beq_eq_true q2
        subst q1 q2
        have hpos : 0 < E.length := by
          rcases Nat.eq_zero_or_pos E.length with e0 | e0
          · rw [e0] at h0; cases h0
          · exact e0
        obtain ⟨r2, r3, _⟩ := hM.bk rid _ hbk
        have hd2 : DenV ρ w (.rv (.one (.row rid i.size lo (some (hiOf hi' rows.length))))) v := by
          obtain ⟨d0, d1, d2, d3, d4, ad, hv, had⟩ := hd
          cases hi' with
          | none =>
            simp only [Option.getD_none] at d1 d2 hv
            refine ⟨d0, ?_, ?_, d3, d4, ad, ?_, had⟩ <;> simp only [hiOf, Option.getD_some, r2]
            · exact d1
            · exact Nat.le_refl _
            · exact hv
          | some hh => exact ⟨d0, d1, d2, d3, d4, ad, hv, had⟩
        obtain ⟨w', hst, hM', hX⟩ := row_store (P := P) hM (h := lo) (E := E) (vs := vs2) hbk (by omega) (by omega) F2.each F2.len F2.one (fun k cs j c hk hj => by
          obtain ⟨u, hu, hdu⟩ := F2.den k cs j c hk hj
          exact ⟨u, hu, hdu.noPosB (noOwnRows_get hno hk hj)⟩)
        rw [setN_eq] at hK
        obtain ⟨d0, d1, d2, d3, d4, ad, hv, had⟩ := hd2
        simp only [Option.getD_some] at hv d2
        have hadr := had (by omega)
        have hmin : Nat.min E.length (hiOf hi' rows.length - lo) = E.length := Nat.min_eq_left (by omega)
        refine ⟨.value (goInt E.length), _, w', vInt .i64 (E.length : Int), _, ρ, ?_, .inl rfl, hK, hM', DenD.val (.int .i64 (E.length : Int)) rfl, hX⟩
        subst hv hv2 hadr
        simp [Builtin.copy_, run_underlying ht, Builtin.lenOf, sizeOf, typeInfo, hi, hn, hmin, hst]
      · exact g.elim
    · exact g.elim
theorem fldx_sound (hM : MemRel ρ m w) (hE : EnvRel ρ w env a.tmps) {t e : TypeId} {n sz : Nat} {agg : Bool} {x k : Operand} {x' k' : X}
    (hu : P.underlying t = some (.array n e)) (ha : aggOf P e = some agg) (hs : szOf P e = some sz) (hx : lowX x = some x') (hk : lowX k = some k')
    (h : step P (.fldx agg n sz x' k') env m K) : Res P (do pure (Next.value (← Instr.index t (a.eval x) (a.eval k)))) ρ m w K := by
  have hd := lowX_den hE hx
  have hdk := lowX_den hE hk
  simp only [step] at h
  generalize a.eval x = v at hd ⊢
  generalize a.eval k = vk at hdk ⊢
  generalize x'.ev env = c at hd h
  generalize k'.ev env = ck at hdk h
  split at h
  · rename_i kd j
    obtain ⟨rfl, _⟩ := den_plain hdk
    split at h
    · rename_i cs
      obtain ⟨vs, rfl, hl, hc⟩ := hd
      obtain ⟨kk, hkk, g1⟩ := ok_iff.1 h
      obtain ⟨hj, hlt⟩ := idxZ_some hkk
      obtain ⟨l, hr, g2⟩ := ok_iff.1 g1
      obtain ⟨cv, hm, hK⟩ := ok_iff.1 g2
      clear h g1 g2
      subst hj
      obtain ⟨u, hrun, hdu⟩ := part_run (w := w) ha hs (cells := vs.toArray) ⟨by simpa using hl, fun i c hi => by simpa using hc i c hi⟩ hr hm
      refine Res.pure hM (v := u) ?_ hK hdu
      have h1 : (0 : Int) ≤ (kk : Int) ∧ (kk : Int) < (n : Int) := by omega
      simp [Instr.index, asIntOf, run_underlying hu, h1, run_szOf hs, hlt, hrun]
    · exact h.elim
  · exact h.elim
theorem minmax_sound (hM : MemRel ρ m w) (hE : EnvRel ρ w env a.tmps) {mx : Bool} {ts : Array TypeId} {ty : TypeId} {x y : Operand} {x' y' : X} (hx : lowX x = some x') (hy : lowX y = some y')
    (h : step P (.minmax mx [x', y']) env m K) : Res P (do pure (Next.value (← (if mx then Builtin.max_ ts ty #[a.eval x, a.eval y] else Builtin.min_ ts ty #[a.eval x, a.eval y])))) ρ m w K := by
  have hd := lowX_den hE hx
  have hdy := lowX_den hE hy
  simp only [step] at h
  generalize a.eval x = v at hd ⊢
  generalize a.eval y = u at hdy ⊢
  generalize x'.ev env = c at hd h
  generalize y'.ev env = d at hdy h
  split at h
  · rename_i k p
    obtain ⟨rfl, _⟩ := den_plain hd
    split at h
    · rename_i k2 q
      obtain ⟨rfl, _⟩ := den_plain hdy
      cases mx
      · refine Res.pure hM (v := .int k (if q < p then q else p)) ?_ h (den_mkPlain rfl)
        simp [Builtin.min_, Builtin.min2]
      · refine Res.pure hM (v := .int k (if q > p then q else p)) ?_ h (den_mkPlain rfl)
        simp [Builtin.max_, Builtin.max2]
    · exact h.elim
  · exact h.elim
/-- the mark that a constant's bytes get: no cell is another one -/
theorem idb_sound (hM : MemRel ρ m w) (hE : EnvRel ρ w env a.tmps) {s e e2 : TypeId} {x : Operand} {x' : X} (hs : P.underlying s = some (.slice e)) (he : P.underlying e = some (.int .u8)) (hx : lowX x = some x')
    (h : step P (.idb x') env m K) : Res P (do pure (Next.value (← convert s s (a.eval x)))) ρ m w K := by
  have hd := lowX_den hE hx
  simp only [step] at h
  generalize a.eval x = v at hd ⊢
  generalize x'.ev env = c at hd h
  split at h
  · rename_i id e1 lo hi
    obtain ⟨bk, hbk, g1⟩ := ok_iff.1 h
    rw [nth_eq] at hbk
    split at g1
    · rename_i esz rows
      rcases bB_iff.1 g1 with ⟨hlt, hK⟩ | ⟨_, g2⟩
      case inr => exact g2.elim
      rw [Bool.and_eq_true, Nat.blt_eq] at hlt
      obtain ⟨hes, hlt⟩ := hlt
      have hes := Nat.eq_of_beq_eq_true hes
      have hid : id < m.length := (List.getElem?_eq_some_iff.1 hbk).1
      have hd0 := hd
      obtain ⟨d0, d1, d2, d3, d4, ad, hv, had⟩ := hd
      obtain ⟨r2, r3, r4, r5, rcu⟩ := hM.bk id _ hbk
      have hcap : 0 < (ρ.loc (.root id)).cap := by clear rcu; omega
      obtain ⟨cur, hcur, h1, hden⟩ := rcu hcap
      have hadr := had (by clear rcu; omega)
      obtain ⟨ty, fr, hheap, hfr, hno, _⟩ := hcur
      have hblt := (Array.getElem?_eq_some_iff.1 hheap).1
      let fr' : Nat × Nat := if fr.1 == fr.2 then (cur.size, cur.size + 1) else (min fr.1 cur.size, max fr.2 (cur.size + 1))
      let w' : World := w.freeze ⟨(ρ.loc (.root id)).b, cur.size, none⟩ 1
      have hheap' : w'.heap[(ρ.loc (.root id)).b]? = some (.cells cur ty fr') := by
        simp [w', World.freeze, Array.getElem?_modify, hheap, fr']
      have hcur' : Cur (esz = 1) w' (ρ.loc (.root id)).b cur := by
        refine ⟨ty, fr', hheap', ?_, fun i hi => ?_, .inl hes⟩
        · simp only [fr']
          split
          · simp
          · simp only; omega
        · simp only [fr']
          split
          · simp; omega
          · rename_i hne
            have hne : fr.1 ≠ fr.2 := by simpa using hne
            have h0 : cur.size ≤ fr.1 := by
              rcases Nat.lt_or_ge fr.1 cur.size with q | q
              · have := hno fr.1 q
                simp at this
                omega
              · exact q
            simp
            omega
      have ht : Turned w w' (ρ.loc (.root id)).b := ⟨fun b hb => by simp [w', World.freeze, Array.getElem?_modify, Ne.symm hb], by simp [w', World.freeze], by simp [w', World.freeze], by simp [w', World.freeze], by simp [w', World.freeze]⟩
      obtain ⟨hM', hX⟩ := hM.upd (bk' := .row esz rows) hbk ⟨_, hbk, by simp, fun _ => hcap⟩ ht (fun g => ⟨r2, r3, r4, r5, fun _ => ⟨cur, hcur', h1, fun i cs j c hi hj => by
        obtain ⟨u, hu, hdu⟩ := hden i cs j c hi hj
        exact ⟨u, hu, hdu.goes g (by rintro _ _ _ e; cases e; exact d0)⟩⟩⟩) (by
        rintro i' j' esz2 e ⟨es, rows2, cs2, hb2, hi2, hj2⟩
        rw [List.getElem?_set_self hid] at hb2
        cases hb2
        exact ⟨esz, rows, cs2, hbk, hi2, hj2⟩)
      have hset : m.set id (.row esz rows) = m := by
        apply List.ext_getElem?
        intro i
        rw [List.getElem?_set]
        split
        · rename_i hi
          subst hi
          first | rw [hbk] | rw [if_pos hid, hbk]
        · rfl
      rw [hset] at hM' hX
      refine ⟨.value v, v, w', _, m, ρ, ?_, .inl rfl, hK, hM', hd0, hX⟩
      have hsh : w.shape? (ρ.loc (.root id)).b = some (ty, cur.size) := by
        unfold World.shape?
        rw [hheap]
      rw [hv, hadr]
      simp [convert, run_underlying hs, run_underlying he, markStringish, hsh]
      rfl
    · exact g1.elim
  · exact h.elim
end
end Go.AM
