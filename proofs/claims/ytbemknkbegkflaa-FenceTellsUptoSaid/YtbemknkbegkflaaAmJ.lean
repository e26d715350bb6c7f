import Derived.ChangeKeysEq
import Derived.Test.YtbemknkbegkflaaAmG
import Derived.Laws.StructEq
set_option linter.unusedSimpArgs false
set_option linter.unnecessarySimpa false
set_option linter.unusedVariables false
namespace Go.AM
section
variable {P : Program} {ρ : Rho} {m : Mem} {w : World} {env : List CV} {a : Act} {K : CV → Mem → Prop}

def eqVs : List Kd → List Value → List Value → Option Bool
  | [], [], [] => some true
  | k :: ks, a :: r, b :: s => match eqV k a b, eqVs ks r s with
    | some x, some y => some (x && y)
    | _, _ => none
  | _, _, _ => none

theorem eqVs_len : ∀ {ks : List Kd} {a b : List Value} {r : Bool}, eqVs ks a b = some r → a.length = ks.length ∧ b.length = ks.length
  | [], [], [], r, h => ⟨rfl, rfl⟩
  | [], [], _ :: _, r, h => by simp [eqVs] at h
  | [], _ :: _, _, r, h => by simp [eqVs] at h
  | k :: ks, [], _, r, h => by simp [eqVs] at h
  | k :: ks, _ :: _, [], r, h => by simp [eqVs] at h
  | k :: ks, a :: l, b :: l', r, h => by
    simp only [eqVs] at h
    split at h
    · rename_i x y hx hy
      obtain ⟨h1, h2⟩ := eqVs_len hy
      exact ⟨by simp [h1], by simp [h2]⟩
    · cases h
theorem eqVs_append : ∀ {ks ls : List Kd} {u v : List Value} {r : Bool}, eqVs (ks ++ ls) u v = some r →
    ∃ u1 u2 v1 v2 x y, u = u1 ++ u2 ∧ v = v1 ++ v2 ∧ eqVs ks u1 v1 = some x ∧ eqVs ls u2 v2 = some y ∧ r = (x && y)
  | [], ls, u, v, r, h => ⟨[], u, [], v, true, r, rfl, rfl, rfl, h, by simp⟩
  | k :: ks, ls, [], v, r, h => by simp [eqVs] at h
  | k :: ks, ls, _ :: _, [], r, h => by simp [eqVs] at h
  | k :: ks, ls, a :: l, b :: l', r, h => by
    simp only [List.cons_append, eqVs] at h
    split at h
    · rename_i x y hx hy
      cases h
      obtain ⟨u1, u2, v1, v2, x1, y1, rfl, rfl, h1, h2, rfl⟩ := eqVs_append hy
      exact ⟨a :: u1, u2, b :: v1, v2, x && x1, y1, rfl, rfl, by simp [eqVs, hx, h1], h2, by simp [Bool.and_assoc]⟩
    · cases h

def mkVal (P : Program) (t : TypeId) (us : List Value) : Value := if aggOf P t = some true then .agg us.toArray else us.headD Go.undef

theorem run_part {t : TypeId} {pre us post : List Value} (hs : szOf P t = some us.length) (ha : aggOf P t = some true ∨ (aggOf P t = some false ∧ us.length = 1)) :
    (part t (pre ++ (us ++ post)).toArray pre.length).run P w = .ok (mkVal P t us) w := by
  unfold part mkVal
  rcases ha with ha | ⟨ha, h1⟩
  · rw [Sem.run_bind, run_aggOf ha]
    simp only [Result.andThen_ok, if_true, ha]
    rw [Sem.run_bind, run_szOf hs]
    simp only [Result.andThen_ok, Sem.run_pure]
    congr 2
    apply Array.ext'
    simp
  · rw [Sem.run_bind, run_aggOf ha]
    match us, h1 with
    | [u], _ =>
      simp [ha]

theorem equalIn_flat : ∀ (d : Nat) (t : TypeId) (ks : List Kd), flatK P d t = some ks → szOf P t = some ks.length ∧ (aggOf P t = some true ∨ (aggOf P t = some false ∧ ks.length = 1)) ∧
    ∀ (k : Nat), d ≤ k → ∀ (us vs : List Value) (b : Bool), eqVs ks us vs = some b → (Op.equalIn k t (mkVal P t us) (mkVal P t vs)).run P w = .ok b w
  | 0, t, ks, h => by simp [flatK] at h
  | d + 1, t, ks, h => by
    simp only [flatK] at h
    have plain : ∀ kd, ks = [kd] → szOf P t = some 1 → aggOf P t = some false → (∀ (k : Nat) (x y : Value) b, eqV kd x y = some b → (Op.equalIn (k + 1) t x y).run P w = .ok b w) →
        szOf P t = some ks.length ∧ (aggOf P t = some true ∨ (aggOf P t = some false ∧ ks.length = 1)) ∧
        ∀ (k : Nat), d + 1 ≤ k → ∀ (us vs : List Value) (b : Bool), eqVs ks us vs = some b → (Op.equalIn k t (mkVal P t us) (mkVal P t vs)).run P w = .ok b w := by
      rintro kd rfl hs ha hrun
      refine ⟨hs, .inr ⟨ha, rfl⟩, fun k hk us vs b he => ?_⟩
      obtain ⟨h1, h2⟩ := eqVs_len he
      match us, vs, h1, h2 with
      | [x], [y], _, _ =>
        obtain ⟨k, rfl⟩ : ∃ k', k = k' + 1 := ⟨k - 1, by omega⟩
        simp only [mkVal, ha]
        simp only [eqVs] at he
        split at he
        · rename_i p q hp hq
          cases he
          cases hq
          simp only [Bool.and_true]
          exact hrun k x y p hp
        · cases he
    split at h
    · rename_i hu
      split at h
      · cases h
        refine plain .b rfl (by assumption) (by simp [aggOf, hu]) fun k x y b he => ?_
        cases x <;> cases y <;> simp only [eqV] at he <;> try (cases he; done)
        cases he
        simp [Op.equalIn, run_underlying hu]
      · cases h
    · rename_i kk hu
      split at h
      · cases h
        refine plain .i rfl (by assumption) (by simp [aggOf, hu]) fun k x y b he => ?_
        cases x <;> cases y <;> simp only [eqV] at he <;> try (cases he; done)
        rename_i k1 a k2 b'
        by_cases hk : k1 = k2
        · subst hk
          simp at he
          subst he
          simp [Op.equalIn, run_underlying hu]
        · rw [decide_eq_false hk] at he; cases he
      · cases h
    · rename_i hu
      split at h
      · cases h
        refine plain .s rfl (by assumption) (by simp [aggOf, hu]) fun k x y b he => ?_
        cases x <;> cases y <;> simp only [eqV] at he <;> try (cases he; done)
        cases he
        simp [Op.equalIn, run_underlying hu, beq_toListBytes]
      · cases h
    · rename_i fs hu
      split at h
      · rename_i hst
        split at h
        · rename_i ks0 hf
          split at h
          · rename_i hsz
            cases h
            have ha : aggOf P t = some true := by simp [aggOf, hu]
            refine ⟨hsz, .inl ha, fun k hk us vs b he => ?_⟩
            obtain ⟨k, rfl⟩ : ∃ k', k = k' + 1 := ⟨k - 1, by omega⟩
            have hfo : P.fieldsOf t = fs := by simp [Program.fieldsOf, hu]
            simp only [mkVal, ha, if_true]
            rw [run_equalIn_struct w k t us.toArray vs.toArray (by rw [hfo]; exact hu) hst, hfo]
            have key : ∀ (l : List Field) (pre pre' : List Value) (ls : List Kd) (us vs : List Value) (b : Bool), pre.length = pre'.length → flatF (flatK P d) l pre.length = some ls → eqVs ls us vs = some b →
                (Op.eqFields k (pre ++ us).toArray (pre' ++ vs).toArray l).run P w = .ok b w := by
              intro l
              induction l with
              | nil =>
                intro pre pre' ls us vs b _ hls he
                simp [flatF] at hls
                subst hls
                obtain ⟨h1, h2⟩ := eqVs_len he
                cases us <;> cases vs <;> simp [eqVs] at he h1 h2
                subst he
                simp [Op.eqFields]
              | cons f l ih =>
                intro pre pre' ls us vs b hpre hls he
                simp only [flatF] at hls
                split at hls
                · rename_i hc
                  split at hls
                  · rename_i ks1 hk1
                    split at hls
                    · rename_i ls1 hl1
                      cases hls
                      obtain ⟨u1, u2, v1, v2, x, y, rfl, rfl, he1, he2, rfl⟩ := eqVs_append he
                      obtain ⟨g1, g2, g3⟩ := equalIn_flat d f.type ks1 hk1
                      obtain ⟨e1, e2⟩ := eqVs_len he1
                      simp only [Op.eqFields]
                      rw [if_pos hc.1, hc.2]
                      rw [Sem.run_bind, run_part (by rw [g1, e1]) (by rw [e1]; exact g2)]
                      simp only [Result.andThen_ok]
                      rw [Sem.run_bind, hpre, run_part (by rw [g1, e2]) (by rw [e2]; exact g2)]
                      simp only [Result.andThen_ok]
                      rw [Sem.run_bind, g3 k (by omega) u1 v1 x he1]
                      simp only [Result.andThen_ok]
                      have := ih (pre ++ u1) (pre' ++ v1) ls1 u2 v2 y (by simp [hpre, e1, e2]) (by rw [List.length_append, e1]; exact hl1) he2
                      simp only [List.append_assoc] at this
                      cases x
                      · simp
                      · simpa using this
                    · cases hls
                  · cases hls
                · cases hls
            have := key fs.toList [] [] ks us vs b rfl hf he
            simpa using this
          · cases h
        · cases h
      · cases h
    · cases h

theorem eqCells_den : ∀ {ks : List Kd} {cs ds : List CC} {b : Bool} {us vs : List Value}, eqCells ks cs ds = some b → us.length = cs.length → vs.length = ds.length →
    (∀ (i : Nat) c, cs[i]? = some c → ∃ u, us[i]? = some u ∧ DenC ρ w .none c u) → (∀ (i : Nat) c, ds[i]? = some c → ∃ u, vs[i]? = some u ∧ DenC ρ w .none c u) → eqVs ks us vs = some b
  | [], [], [], b, us, vs, h, h1, h2, _, _ => by
    simp at h1 h2
    subst h1 h2
    simpa [eqCells, eqVs] using h
  | [], [], _ :: _, b, us, vs, h, h1, h2, _, _ => by simp [eqCells] at h
  | [], _ :: _, _, b, us, vs, h, h1, h2, _, _ => by simp [eqCells] at h
  | k :: ks, [], _, b, us, vs, h, h1, h2, _, _ => by simp [eqCells] at h
  | k :: ks, c :: cs, [], b, us, vs, h, h1, h2, _, _ => by cases c <;> simp [eqCells] at h
  | k :: ks, c :: cs, d :: ds, b, us, vs, h, h1, h2, g1, g2 => by
    unfold eqCells at h
    split at h
    · cases ‹_ :: _ = []›
    · rename_i k' ks' x r y s e1 e2 e3
      cases e1
      cases e2
      cases e3
      split at h
      · rename_i p q hp hq
        cases h
        match us, vs, h1, h2 with
        | u :: us, v :: vs, h1, h2 =>
          obtain ⟨u', hu, hdu⟩ := g1 0 _ rfl
          obtain ⟨v', hv, hdv⟩ := g2 0 _ rfl
          simp at hu hv
          subst hu hv
          obtain ⟨rfl, _⟩ := den_plain hdu (fun e => by subst e; cases k <;> simp [eqV] at hp)
          obtain ⟨rfl, _⟩ := den_plain hdv (fun e => by subst e; cases k <;> cases u <;> simp [eqV] at hp)
          have := eqCells_den (us := us) (vs := vs) hq (by simpa using h1) (by simpa using h2) (fun i c hi => by simpa using g1 (i + 1) c (by simpa using hi)) (fun i c hi => by simpa using g2 (i + 1) c (by simpa using hi))
          simp [eqVs, hp, this]
      · cases h
    · cases h

theorem eqa_sound (hM : MemRel ρ m w) (hE : EnvRel ρ w env a.tmps) {neg : Bool} {t : TypeId} {fs : Array Field} {ks : List Kd} {x y : Operand} {x' y' : X}
    (ht : P.underlying t = some (.struct fs)) (hg : P.eqGuardType P.depth t = false) (hk : flatK P 5 t = some ks) (hx : lowX x = some x') (hy : lowX y = some y')
    (h : step P (.eqa neg ks x' y') env m K) : Res P (do let v ← (do eqGuard (if neg then .neq else .eql) t x y (a.eval x) (a.eval y); binOp (if neg then .neq else .eql) t (a.eval x) (a.eval y)); pure (Next.value v)) ρ m w K := by
  have hd := lowX_den hE hx
  have hdy := lowX_den hE hy
  simp only [step] at h
  generalize a.eval x = v at hd ⊢
  generalize a.eval y = u at hdy ⊢
  generalize x'.ev env = c at hd h
  generalize y'.ev env = d at hdy h
  split at h
  · split at h
    · obtain ⟨us, rfl, l1, d1⟩ := hd
      obtain ⟨vs, rfl, l2, d2⟩ := hdy
      obtain ⟨b, he, hK⟩ := ok_iff.1 h
      have hev := eqCells_den he l1 l2 d1 d2
      have hrun := (equalIn_flat (w := w) 5 t ks hk).2.2 10000 (by omega) us vs b hev
      have ha : aggOf P t = some true := by simp [aggOf, ht]
      simp only [mkVal, ha, if_true] at hrun
      refine Res.pure hM (v := _) ?_ hK (den_mkPlain rfl)
      rw [Sem.run_bind, Sem.run_bind, run_eqGuard_agg w _ t x y _ _ hg]
      cases neg
      · simp only [Result.andThen_ok, Bool.false_eq_true, if_false, run_eql_struct, hrun, Sem.run_pure]
      · simp only [Result.andThen_ok, if_true, run_neq_struct, hrun, Sem.run_pure]
    · exact h.elim
  · exact h.elim
theorem eqItems_ints {e : TypeId} {kk : IntKind} (hu : P.underlying e = some (.int kk)) (hs : szOf P e = some 1) (d : Nat) : ∀ (us vs pre pre' : List Value) (b : Bool), pre.length = pre'.length → eqVs (repl us.length .i) us vs = some b →
    (Op.eqItems (d + 1) e 1 (pre ++ us).toArray (pre' ++ vs).toArray (List.range' pre.length us.length)).run P w = .ok b w
  | [], [], pre, pre', b, _, he => by
    simp [repl, eqVs] at he
    subst he
    simp [Op.eqItems]
  | [], v :: vs, pre, pre', b, _, he => by simp [repl, eqVs] at he
  | u :: us, [], pre, pre', b, _, he => by simp [repl, eqVs] at he
  | u :: us, v :: vs, pre, pre', b, hp, he => by
    have ha : aggOf P e = some false := by simp [aggOf, hu]
    simp only [List.length_cons, repl, eqVs] at he
    split at he
    · rename_i x y hx hy
      cases he
      have ih := eqItems_ints hu hs d us vs (pre ++ [u]) (pre' ++ [v]) y (by simp [hp]) hy
      have p1 := run_part (w := w) (t := e) (pre := pre) (us := [u]) (post := us) hs (.inr ⟨ha, rfl⟩)
      have p2 := run_part (w := w) (t := e) (pre := pre') (us := [v]) (post := vs) hs (.inr ⟨ha, rfl⟩)
      simp only [mkVal, ha, List.singleton_append] at p1 p2
      have p3 : (Op.equalIn (d + 1) e u v).run P w = .ok x w := by
        cases u <;> cases v <;> simp only [eqV] at hx <;> try (cases hx; done)
        rename_i k1 a k2 b'
        by_cases hk : k1 = k2
        · subst hk
          simp at hx
          subst hx
          simp [Op.equalIn, run_underlying hu]
        · rw [decide_eq_false hk] at hx; cases hx
      simp only [List.length_cons, List.range'_succ, Op.eqItems, Sem.run_bind, Nat.mul_one]
      rw [p1]
      simp only [Result.andThen_ok]
      rw [hp, p2]
      simp only [Result.andThen_ok, Option.some.injEq, Bool.false_eq_true, if_false, List.headD_cons]
      rw [p3]
      simp only [Result.andThen_ok]
      cases x
      · simp
      · simp only [Bool.not_true, Bool.false_eq_true, if_false, Bool.true_and]
        rw [← hp]
        simpa using ih
    · cases he
theorem eqar_sound (hM : MemRel ρ m w) (hE : EnvRel ρ w env a.tmps) {neg : Bool} {t e : TypeId} {n : Nat} {kk : IntKind} {x y : Operand} {x' y' : X}
    (ht : P.underlying t = some (.array n e)) (hg : P.eqGuardType P.depth t = false) (hu : P.underlying e = some (.int kk)) (hs : szOf P e = some 1) (hx : lowX x = some x') (hy : lowX y = some y')
    (h : step P (.eqa neg (repl n .i) x' y') env m K) : Res P (do let v ← (do eqGuard (if neg then .neq else .eql) t x y (a.eval x) (a.eval y); binOp (if neg then .neq else .eql) t (a.eval x) (a.eval y)); pure (Next.value v)) ρ m w K := by
  have hd := lowX_den hE hx
  have hdy := lowX_den hE hy
  simp only [step] at h
  generalize a.eval x = v at hd ⊢
  generalize a.eval y = u at hdy ⊢
  generalize x'.ev env = c at hd h
  generalize y'.ev env = d at hdy h
  split at h
  · split at h
    · obtain ⟨us, rfl, l1, d1⟩ := hd
      obtain ⟨vs, rfl, l2, d2⟩ := hdy
      obtain ⟨b, he, hK⟩ := ok_iff.1 h
      have hev := eqCells_den he l1 l2 d1 d2
      obtain ⟨e1, e2⟩ := eqVs_len hev
      have hn : us.length = n := by rw [e1, repl_eq]; simp
      have hs' := hs
      simp only [szOf, Option.map_eq_some_iff] at hs'
      obtain ⟨i, hi, hi1⟩ := hs'
      have hc : P.cellsOf e = 1 := by simp [Program.cellsOf, hi, hi1]
      have hrun := eqItems_ints (w := w) hu hs 9998 us vs [] [] b rfl (by rw [hn]; exact hev)
      simp only [List.nil_append, List.length_nil] at hrun
      have hrun2 : (Op.equalIn 10000 t (.agg us.toArray) (.agg vs.toArray)).run P w = .ok b w := by
        rw [run_equalIn_array w 9999 _ _ ht hi, hc, ← hn, List.range_eq_range']
        exact hrun
      refine Res.pure hM (v := _) ?_ hK (den_mkPlain rfl)
      rw [Sem.run_bind, Sem.run_bind, run_eqGuard_agg w _ t x y _ _ hg]
      cases neg
      · simp only [Result.andThen_ok, Bool.false_eq_true, if_false, run_eql_struct, hrun2, Sem.run_pure]
      · simp only [Result.andThen_ok, if_true, run_neq_struct, hrun2, Sem.run_pure]
    · exact h.elim
  · exact h.elim
end
end Go.AM
