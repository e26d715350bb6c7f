import Derived.Test.YtbemknkbegkflaaAmN3
set_option linter.unusedSimpArgs false
set_option linter.unnecessarySimpa false
set_option linter.unusedVariables false
/-! From instructions to the text: branches, loops, calls, a function's body. -/
namespace Go.AM
section
variable {P : Program} {N : Nat} {ρ0 : Rho} {m0 : Mem} {w0 : World}

theorem lowC_rf {f : Operand} {ps : Array Tmp} {x y : Code} {lc : LC} (h : lowC P (.rangeFunc f ps x y) = some lc) : ∃ x' p la lb, lc = .rfun x' p la lb := by
  simp only [lowC, Option.bind_eq_bind] at h
  split at h
  case h_2 => cases h
  simp only [Option.bind_eq_some_iff] at h
  obtain ⟨lx, hx, ly, hy, h⟩ := h
  split at h
  case isFalse => cases h
  simp only [Option.bind_eq_some_iff] at h
  obtain ⟨x', _, h⟩ := h
  cases h
  exact ⟨_, _, _, _, rfl⟩
theorem aw_sound : ∀ (lc : LC) (r : Option Nat) (hrf : r = none ∨ lc.noRF = true) (N : Nat) (ρ0 : Rho) (m0 : Mem) (w0 : World) (hM0 : ρ0.n = m0.length) (c : Code) (K : Ex → St → Prop) (st : St) (ρ : Rho) (a : Act) (w : World),
    lowC P c = some lc.er → aw P m0.length lc K st → Inv N ρ0 m0 w0 st ρ a w → c.wpIn (FR r) 0 P (Post N ρ0 m0 w0 K) a w := by
  intro lc
  induction lc with
  | ghost b ih =>
    intro r hrf N ρ0 m0 w0 hM0 c K st ρ a w hl h hI
    obtain ⟨s', hv, h⟩ := h
    obtain ⟨ρ', hI'⟩ := hI.weak hM0 hv
    exact ih r hrf N ρ0 m0 w0 hM0 c K s' ρ' a w hl h hI'
  | skip =>
    intro r hrf N ρ0 m0 w0 hM0 c K st ρ a w hl h hI
    cases c with
    | skip => exact wpIn_skip ⟨_, st, ρ, rfl, h, hI⟩
    | region id ops draw => cases draw <;> simp [lowC, LC.er, Option.bind_eq_some_iff] at hl
    | rangeFunc f ps ca cb => obtain ⟨_, _, _, _, e⟩ := lowC_rf hl; simp [LC.er] at e
    | _ => simp [lowC, LC.er, Option.bind_eq_some_iff] at hl
  | reg los0 =>
    intro r hrf N ρ0 m0 w0 hM0 c K st ρ a w hl h hI
    cases c with
    | region id ops draw =>
      cases draw with
      | true => simp [lowC, LC.er, Option.bind_eq_some_iff] at hl
      | false =>
        simp only [lowC, LC.er, Option.bind_eq_bind, Option.bind_eq_some_iff] at hl
        obtain ⟨los, hlos, hl⟩ := hl
        cases hl
        refine wpIn_region (wpOps_in (lowOs_nd hlos) post_in _ _ _ ?_)
        have := aops_sound (Q := Post N ρ0 m0 w0 K) (K := regK K) (fun env m ρ a w hK hI => ⟨_, _, ρ, rfl, hK, hI⟩) ops.toList 0 _ st.env st.mem ρ a w rfl hlos h hI
        simpa [List.range_eq_range'] using this
    | rangeFunc f ps ca cb => obtain ⟨_, _, _, _, e⟩ := lowC_rf hl; simp [LC.er] at e
    | _ => simp [lowC, LC.er, Option.bind_eq_some_iff] at hl
  | draw los0 sch =>
    intro r hrf N ρ0 m0 w0 hM0 c K st ρ a w hl h hI
    cases c with
    | region id ops draw =>
      cases draw with
      | true =>
        simp only [lowC, LC.er, Option.bind_eq_bind, Option.bind_eq_some_iff] at hl
        obtain ⟨los, hlos, hl⟩ := hl
        obtain ⟨scheds, hs, hl⟩ := hl
        cases hl
        refine wpIn_region_draw fun t => wpOps_in (lowOs_nd hlos) post_in _ _ _ ?_
        exact region_sound (Q := Post N ρ0 m0 w0 K) (K := K) (fun env m ρ a w hK hI => ⟨_, _, ρ, rfl, hK, hI⟩) hlos hs h hI t
      | false => simp [lowC, LC.er, Option.bind_eq_some_iff] at hl
    | rangeFunc f ps ca cb => obtain ⟨_, _, _, _, e⟩ := lowC_rf hl; simp [LC.er] at e
    | _ => simp [lowC, LC.er, Option.bind_eq_some_iff] at hl
  | seq lx ly ihx ihy =>
    intro r hrf N ρ0 m0 w0 hM0 c K st ρ a w hl h hI
    cases c with
    | seq x y =>
      simp only [lowC, LC.er, Option.bind_eq_bind, Option.bind_eq_some_iff, Option.some.injEq, LC.seq.injEq] at hl
      obtain ⟨lx', hx, ly', hy, rfl, rfl⟩ := hl
      refine wpIn_seq (wpIn_mono (ihx r (hrf.imp id fun h => (Bool.and_eq_true_iff.1 h).1) N ρ0 m0 w0 hM0 x _ st ρ a w hx h hI) fun e a' w' hp => ?_)
      obtain ⟨ex, st', ρ', he, hK, hI'⟩ := hp
      cases e <;> simp [exOf] at he <;> subst he
      · exact ihy r (hrf.imp id fun h => (Bool.and_eq_true_iff.1 h).2) N ρ0 m0 w0 hM0 y K st' ρ' a' w' hy hK hI'
      · exact ⟨_, st', ρ', rfl, hK, hI'⟩
      · exact ⟨_, st', ρ', rfl, hK, hI'⟩
    | region id ops draw => cases draw <;> simp [lowC, LC.er, Option.bind_eq_some_iff] at hl
    | rangeFunc f ps ca cb => obtain ⟨_, _, _, _, e⟩ := lowC_rf hl; simp [LC.er] at e
    | _ => simp [lowC, LC.er, Option.bind_eq_some_iff] at hl
  | cond x0 ly0 lz0 ihy ihz =>
    intro r hrf N ρ0 m0 w0 hM0 c K st ρ a w hl h hI
    cases c with
    | cond x y z =>
      simp only [lowC, LC.er, Option.bind_eq_bind, Option.bind_eq_some_iff, Option.some.injEq, LC.cond.injEq] at hl
      obtain ⟨x', hx, ly, hy, lz, hz, rfl, rfl, rfl⟩ := hl
      have hd := lowX_den hI.env hx
      simp only [aw] at h
      split at h
      · rename_i t hx'
        rw [hx'] at hd
        have ht := (den_plain hd).1
        have hsame : ∀ b, t = b → setX x' (vBool b) st.env = st.env := fun b hb => by
          subst hb
          cases x' with
          | t n => exact setSame hx'
          | c v => rfl
        refine wpIn_cond ht ?_
        rcases bB_iff.1 h with ⟨rfl, h⟩ | ⟨rfl, h⟩
        · simp only [force_eq, hsame true rfl] at h
          exact ihy r (hrf.imp id fun h => (Bool.and_eq_true_iff.1 h).1) N ρ0 m0 w0 hM0 y K st ρ a w hy h hI
        · simp only [force_eq, hsame false rfl] at h
          exact ihz r (hrf.imp id fun h => (Bool.and_eq_true_iff.1 h).2) N ρ0 m0 w0 hM0 z K st ρ a w hz h hI
      · exact h.elim
    | region id ops draw => cases draw <;> simp [lowC, LC.er, Option.bind_eq_some_iff] at hl
    | rangeFunc f ps ca cb => obtain ⟨_, _, _, _, e⟩ := lowC_rf hl; simp [LC.er] at e
    | _ => simp [lowC, LC.er, Option.bind_eq_some_iff] at hl
  | block id0 lb0 ih =>
    intro r hrf N ρ0 m0 w0 hM0 c K st ρ a w hl h hI
    cases c with
    | block id b =>
      simp only [lowC, LC.er, Option.bind_eq_bind, Option.bind_eq_some_iff, Option.some.injEq, LC.block.injEq] at hl
      obtain ⟨lb, hb, rfl, rfl⟩ := hl
      refine wpIn_block (wpIn_mono (ih r hrf N ρ0 m0 w0 hM0 b _ st ρ a w hb h hI) fun e a' w' hp => ?_)
      obtain ⟨ex, st', ρ', he, hK, hI'⟩ := hp
      cases e <;> simp [exOf] at he <;> subst he
      · exact ⟨_, st', ρ', rfl, hK, hI'⟩
      · rename_i id'
        simp only [blockK] at hK
        simp only [Exit.inBlock]
        rcases bB_iff.1 hK with ⟨hid, hK⟩ | ⟨hid, hK⟩
        · rw [if_pos (Nat.eq_of_beq_eq_true hid)]
          exact ⟨_, st', ρ', rfl, hK, hI'⟩
        · rw [if_neg (Nat.ne_of_beq_eq_false hid)]
          exact ⟨_, st', ρ', rfl, hK, hI'⟩
      · exact ⟨_, st', ρ', rfl, hK, hI'⟩
    | region id ops draw => cases draw <;> simp [lowC, LC.er, Option.bind_eq_some_iff] at hl
    | rangeFunc f ps ca cb => obtain ⟨_, _, _, _, e⟩ := lowC_rf hl; simp [LC.er] at e
    | _ => simp [lowC, LC.er, Option.bind_eq_some_iff] at hl
  | loop lb0 ih =>
    intro r hrf N ρ0 m0 w0 hM0 c K st ρ a w hl h hI
    cases c with
    | loop b =>
      simp only [lowC, LC.er, Option.bind_eq_bind, Option.bind_eq_some_iff, Option.some.injEq, LC.loop.injEq] at hl
      obtain ⟨lb, hb, rfl⟩ := hl
      obtain ⟨α, J, S, μ, ⟨a1, hJ1, hw1⟩, hround⟩ := h
      obtain ⟨ρ1, hI1⟩ := hI.weak hM0 hw1
      refine wpIn_loop_ghost (γ := α) (I := fun x a w => J x ∧ ∃ ρ, Inv N ρ0 m0 w0 (S x) ρ a w) (μ := μ) a1 ⟨hJ1, ρ1, hI1⟩ fun x a w ⟨hJ, ρ, hI⟩ => ?_
      refine wpIn_mono (ih r hrf N ρ0 m0 w0 hM0 b _ (S x) ρ a w hb (hround x hJ) hI) fun e a' w' hp => ?_
      obtain ⟨ex, st', ρ', he, hK, hI'⟩ := hp
      cases e <;> simp [exOf] at he <;> subst he
      · obtain ⟨x3, hJ3, hlt, hw3⟩ := hK
        obtain ⟨ρ3, hI3⟩ := hI'.weak hM0 hw3
        exact ⟨x3, ⟨hJ3, ρ3, hI3⟩, hlt⟩
      · exact ⟨_, st', ρ', rfl, hK, hI'⟩
      · exact ⟨_, st', ρ', rfl, hK, hI'⟩
    | region id ops draw => cases draw <;> simp [lowC, LC.er, Option.bind_eq_some_iff] at hl
    | rangeFunc f ps ca cb => obtain ⟨_, _, _, _, e⟩ := lowC_rf hl; simp [LC.er] at e
    | _ => simp [lowC, LC.er, Option.bind_eq_some_iff] at hl
  | exit id0 =>
    intro r hrf N ρ0 m0 w0 hM0 c K st ρ a w hl h hI
    cases c with
    | exit id =>
      simp [lowC, LC.er] at hl; subst hl
      exact wpIn_exit ⟨_, st, ρ, rfl, h, hI⟩
    | region id ops draw => cases draw <;> simp [lowC, LC.er, Option.bind_eq_some_iff] at hl
    | rangeFunc f ps ca cb => obtain ⟨_, _, _, _, e⟩ := lowC_rf hl; simp [LC.er] at e
    | _ => simp [lowC, LC.er, Option.bind_eq_some_iff] at hl
  | ret =>
    intro r hrf N ρ0 m0 w0 hM0 c K st ρ a w hl h hI
    cases c with
    | ret => exact wpIn_ret ⟨_, st, ρ, rfl, h, hI⟩
    | region id ops draw => cases draw <;> simp [lowC, LC.er, Option.bind_eq_some_iff] at hl
    | rangeFunc f ps ca cb => obtain ⟨_, _, _, _, e⟩ := lowC_rf hl; simp [LC.er] at e
    | _ => simp [lowC, LC.er, Option.bind_eq_some_iff] at hl
  | rfun x0 p la0 lb0 iha ihb =>
    intro r hrf N ρ0 m0 w0 hM0 c K st ρ a w hl h hI
    have hr0 : r = none := hrf.resolve_right (by simp [LC.noRF])
    subst hr0
    cases c with
    | rangeFunc f ps ca cb =>
      simp only [lowC, LC.er, Option.bind_eq_bind] at hl
      split at hl
      case h_2 => cases hl
      rename_i p' hps
      simp only [Option.bind_eq_some_iff] at hl
      obtain ⟨la, hla, lb, hlb, hl⟩ := hl
      split at hl
      case isFalse => cases hl
      rename_i hno
      simp only [Option.bind_eq_some_iff, Option.some.injEq, LC.rfun.injEq] at hl
      obtain ⟨x', hx, rfl, rfl, rfl, rfl⟩ := hl
      rw [Bool.and_eq_true, noRF_er, noRF_er] at hno
      exact rfun_sound hM0 (by apply Array.ext'; simpa using hps) hx (fun l ρ0 m0 w0 K st ρ a w hM h hI => iha (some l) (.inr hno.1) 0 ρ0 m0 w0 hM ca K st ρ a w hla h hI)
        (fun l ρ0 m0 w0 K st ρ a w hM h hI => ihb (some l) (.inr hno.2) 0 ρ0 m0 w0 hM cb K st ρ a w hlb h hI) h hI
    | region id ops draw => cases draw <;> simp [lowC, LC.er, Option.bind_eq_some_iff] at hl
    | _ => simp [lowC, LC.er, Option.bind_eq_some_iff] at hl

def resOne (tmps : Array Value) : ResultVar → Sem Value
  | .tmp t => pure (tmps.getD t Go.undef)
  | .cell ad t => do loadVar t (← asAddr (tmps.getD ad Go.undef))
theorem results_eq (fn : Func) (tmps : Array Value) : results fn tmps = (do let vs ← fn.results.mapM (resOne tmps); pure (if h : vs.size = 1 then vs[0] else .tuple vs)) := by
  unfold results
  have e : (fun (r : ResultVar) => match r with
    | .tmp t => (pure (tmps.getD t Go.undef) : Sem Value)
    | .cell ad t => do loadVar t (← asAddr (tmps.getD ad Go.undef))) = resOne tmps := by
    funext r; cases r <;> rfl
  rw [← e]
  rfl
theorem lowRes_get : ∀ {rs : List ResultVar} {rs' : List Rv}, lowRes P rs = some rs' → ∀ {st : St} {ρ : Rho} {a : Act} {w : World} {K : List RV → Prop},
    MemRel ρ st.mem w → EnvRel ρ w st.env a.tmps → resR P st rs' K →
    ∃ (vs : List RV) (us : List Value), K vs ∧ (rs.mapM (resOne a.tmps)).run P w = .ok us w ∧
      us.length = vs.length ∧ ∀ (i : Nat) r, vs[i]? = some r → ∃ u, us[i]? = some u ∧ DenR ρ w r u
  | [], rs', h, st, ρ, a, w, K, hM, hE, hr => by
    simp [lowRes] at h; subst h
    exact ⟨[], [], hr, rfl, rfl, by simp⟩
  | .tmp t :: r, rs', h, st, ρ, a, w, K, hM, hE, hr => by
    simp only [lowRes, Option.bind_eq_bind, Option.bind_eq_some_iff] at h
    obtain ⟨r', hr', h⟩ := h
    cases h
    simp only [resR] at hr
    obtain ⟨v, hv, hr⟩ := ok_iff.1 hr
    obtain ⟨vs, us, hK, hrun, hlen, hden⟩ := lowRes_get hr' hM hE hr
    have hd := hE.get t
    have hrv : getE st.env t = .rv v := by
      cases hg : getE st.env t <;> rw [hg] at hv <;> simp [rvOf] at hv
      rw [hv]
    rw [hrv] at hd
    refine ⟨v :: vs, a.tmps.getD t Go.undef :: us, hK, ?_, by simp [hlen], fun i r hi => ?_⟩
    · rw [List.mapM_cons, Sem.run_bind]
      simp only [resOne, Sem.run_pure, Result.andThen_ok]
      rw [Sem.run_bind, hrun]
      rfl
    · cases i with
      | zero => simp at hi; subst hi; exact ⟨_, by simp, hd⟩
      | succ i => simpa using hden i r (by simpa using hi)
  | .cell ad t :: r, rs', h, st, ρ, a, w, K, hM, hE, hr => by
    simp only [lowRes, Option.bind_eq_bind, Option.bind_eq_some_iff] at h
    obtain ⟨agg, ha, n, hn, r', hr', h⟩ := h
    cases h
    simp only [resR] at hr
    obtain ⟨addr, u, cv, hv, hrun1, hK1, hdu⟩ := loadA_sound hM ha hn hr (hE.get ad)
    obtain ⟨v, hv2, hr⟩ := ok_iff.1 hK1
    obtain ⟨vs, us, hK, hrun, hlen, hden⟩ := lowRes_get hr' hM hE hr
    have hrv : cv = .rv v := by
      cases cv <;> simp [rvOf] at hv2
      rw [hv2]
    subst hrv
    refine ⟨v :: vs, u :: us, hK, ?_, by simp [hlen], fun i r hi => ?_⟩
    · rw [List.mapM_cons, Sem.run_bind]
      simp only [resOne, hv, asAddr, Sem.run_bind, Sem.run_pure, Result.andThen_ok, hrun1]
      rw [hrun]
      rfl
    · cases i with
      | zero => simp at hi; subst hi; exact ⟨_, by simp, hdu⟩
      | succ i => simpa using hden i r (by simpa using hi)

theorem results_sound {fn : Func} {rs : List Rv} (h : lowRes P fn.results.toList = some rs) {st : St} {ρ : Rho} {a : Act} {w : World} {K : CV → Prop}
    (hM : MemRel ρ st.mem w) (hE : EnvRel ρ w st.env a.tmps) (hr : resR P st rs fun vs => K (retV vs)) : ∃ v r, (results fn a.tmps).run P w = .ok v w ∧ K r ∧ DenV ρ w r v := by
  obtain ⟨vs, us, hK, hrun, hlen, hden⟩ := lowRes_get h hM hE hr
  have hrun2 : (fn.results.mapM (resOne a.tmps)).run P w = .ok us.toArray w := by
    rw [Array.mapM_eq_mapM_toList, Sem.run_map, hrun]
    rfl
  rw [results_eq, Sem.run_bind, hrun2]
  refine ⟨_, _, rfl, hK, ?_⟩
  match vs, us, hlen, hden with
  | [r], [u], _, hden =>
    obtain ⟨u', hu, hd⟩ := hden 0 r (by simp)
    simp at hu
    subst hu
    exact hd
  | [], [], _, hden => exact ⟨[], rfl, rfl, by simp⟩
  | r1 :: r2 :: rs, u1 :: u2 :: us, hlen, hden =>
    refine ⟨u1 :: u2 :: us, ?_, hlen, hden⟩
    simp

/-- **A FUNCTION'S BODY, TAKEN DOWN AND REASONED, ANSWERS ITS CALLS.** -/
theorem acall_body_g {f : Nat} {fn : Func} {lf : LF} {args : List CV} {m : Mem} {K : CV → Mem → Prop} (hf : P.funcs[f]? = some fn) (hl : lowF P fn = some lf.er)
    (hn : (fn.name == "runtime.NumGoroutine") = false) (hle : args.length ≤ lf.n) (h : body P lf args m K) : ACall P f args m K := by
  simp only [lowF, LF.er, Option.bind_eq_bind, Option.bind_eq_some_iff, Option.some.injEq, LF.mk.injEq] at hl
  obtain ⟨rs, hrs, c, hc, lc0, hlc, hn1, hrs1, hlc1⟩ := hl
  subst hlc1 hrs1
  obtain ⟨lfn, lfr, lc⟩ := lf
  simp only at hn1 hrs hlc
  subst hn1
  refine ⟨⟨fn, hf, by simp [hc], hn⟩, fun ρ w vs hM hlen hden => ?_⟩
  simp only [body, force_eq, lenK_eq, app2_eq, repl_eq] at h
  simp only at hle
  have hI : Inv w.heap.size ρ m w ⟨args ++ List.replicate (fn.ntmps - args.length) .undef, m⟩ ρ { tmps := vs.toArray ++ Array.replicate (fn.ntmps - vs.toArray.size) Go.undef, defers := [] } w := by
    refine ⟨Ext.refl _ _ _, hM, ⟨by simp [hlen], fun i c hi => ?_⟩, Dfs.nil, Nat.le_refl _, Nat.le_refl _⟩
    rcases Nat.lt_or_ge i args.length with hlt | hge
    · rw [List.getElem?_append_left hlt] at hi
      obtain ⟨v, hv, hd⟩ := hden i c hi
      refine ⟨v, ?_, hd⟩
      rw [Array.getElem?_append_left (by simp [hlen]; exact hlt)]
      simpa using hv
    · rw [List.getElem?_append_right hge, List.getElem?_replicate] at hi
      split at hi
      · rename_i hlt
        cases hi
        refine ⟨Go.undef, ?_, rfl⟩
        rw [Array.getElem?_append_right (by simp [hlen]; exact hge), Array.getElem?_replicate, if_pos (by simp [hlen]; exact hlt)]
      · cases hi
  refine (callsIn_wide (n := 0)).1 (callsIn_of_wp_marks (F := Fence.wide) hf hc trivial (wpIn_mono (aw_sound lc none (.inl rfl) _ ρ m w hM.n c _ _ ρ _ w hlc h hI) fun e a' w' hp => ?_))
  obtain ⟨ex, st', ρ', he, hK, hI'⟩ := hp
  have fin : resR P st' lfr (fun vs => K (retV vs) st'.mem) → LeavesInM Fence.wide 0 P fn a'.tmps (fun e w' => ∃ v_1 r m' ρ', e = Ending.returned v_1 ∧ K r m' ∧ MemRel ρ' m' w' ∧ DenV ρ' w' r v_1 ∧ Ext ρ m w ρ' m' w') a'.defers .returning w' := fun hr => by
    obtain ⟨Ds, h1, h2, h3⟩ := hI'.defers
    rw [h1]
    refine leaves_marks rfl Ds w' h2 h3 hI'.mem hI'.env hI'.ext fun w2 hM2 hE2 hx2 => ?_
    obtain ⟨v, r, hrun, hKr, hd⟩ := results_sound (K := fun r => K r st'.mem) hrs hM2 hE2 hr
    exact ⟨v, hrun, v, r, st'.mem, ρ', rfl, hKr, hM2, hd, hx2⟩
  cases e <;> simp [exOf] at he <;> subst he
  · exact fin hK
  · exact hK.elim
  · exact fin hK
theorem lowC_er : ∀ (c : Code) (lc : LC), lowC P c = some lc → lc.er = lc := by
  intro c
  induction c with
  | skip => intro lc h; simp [lowC] at h; subst h; rfl
  | region id ops draw =>
    intro lc h
    cases draw with
    | true =>
      simp only [lowC, Option.bind_eq_bind, Option.bind_eq_some_iff] at h
      obtain ⟨los, _, sch, _, h⟩ := h
      cases h; rfl
    | false =>
      simp only [lowC, Option.bind_eq_bind, Option.bind_eq_some_iff] at h
      obtain ⟨los, _, h⟩ := h
      cases h; rfl
  | seq x y ihx ihy =>
    intro lc h
    simp only [lowC, Option.bind_eq_bind, Option.bind_eq_some_iff] at h
    obtain ⟨lx, hx, ly, hy, h⟩ := h
    cases h
    simp only [LC.er, ihx lx hx, ihy ly hy]
  | cond x y z ihy ihz =>
    intro lc h
    simp only [lowC, Option.bind_eq_bind, Option.bind_eq_some_iff] at h
    obtain ⟨x', _, ly, hy, lz, hz, h⟩ := h
    cases h
    simp only [LC.er, ihy ly hy, ihz lz hz]
  | block id b ih =>
    intro lc h
    simp only [lowC, Option.bind_eq_bind, Option.bind_eq_some_iff] at h
    obtain ⟨lb, hb, h⟩ := h
    cases h
    simp only [LC.er, ih lb hb]
  | loop b ih =>
    intro lc h
    simp only [lowC, Option.bind_eq_bind, Option.bind_eq_some_iff] at h
    obtain ⟨lb, hb, h⟩ := h
    cases h
    simp only [LC.er, ih lb hb]
  | exit id => intro lc h; simp [lowC] at h; subst h; rfl
  | ret => intro lc h; simp [lowC] at h; subst h; rfl
  | rangeFunc f ps x y ihx ihy =>
    intro lc h
    simp only [lowC, Option.bind_eq_bind] at h
    split at h
    case h_2 => cases h
    simp only [Option.bind_eq_some_iff] at h
    obtain ⟨lx, hx, ly, hy, h⟩ := h
    split at h
    case isFalse => cases h
    simp only [Option.bind_eq_some_iff] at h
    obtain ⟨x', _, h⟩ := h
    cases h
    simp only [LC.er, ihx lx hx, ihy ly hy]
  | _ => intro lc h; simp [lowC] at h
theorem acall_body {f : Nat} {fn : Func} {lf : LF} {args : List CV} {m : Mem} {K : CV → Mem → Prop} (hf : P.funcs[f]? = some fn) (hl : lowF P fn = some lf)
    (hn : (fn.name == "runtime.NumGoroutine") = false) (hle : args.length ≤ lf.n) (h : body P lf args m K) : ACall P f args m K := by
  refine acall_body_g hf ?_ hn hle h
  have hl0 := hl
  simp only [lowF, Option.bind_eq_bind, Option.bind_eq_some_iff] at hl
  obtain ⟨rs, hrs, c, hc, lc, hlc, hl⟩ := hl
  cases hl
  rw [hl0]
  simp only [LF.er, lowC_er c lc hlc]
end
end Go.AM
