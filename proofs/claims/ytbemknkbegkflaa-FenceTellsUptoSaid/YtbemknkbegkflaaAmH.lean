import Derived.Test.YtbemknkbegkflaaAmJ
import Derived.Test.YtbemknkbegkflaaAmK
import Derived.Test.YtbemknkbegkflaaAmS
import Derived.Test.YtbemknkbegkflaaAmT
import Derived.Test.YtbemknkbegkflaaAmT2
set_option linter.unusedSimpArgs false
set_option linter.unnecessarySimpa false
set_option linter.unusedVariables false
/-! From instructions to the text. -/
namespace Go.AM
section
variable {P : Program} {ρ : Rho} {m : Mem} {w : World} {env : List CV} {a : Act} {K : CV → Mem → Prop}

theorem EnvRel.ext {ρ' : Rho} {m' : Mem} {w' : World} {tmps : Array Value} (hM : MemRel ρ m w) (x : Ext ρ m w ρ' m' w') (hE : EnvRel ρ w env tmps) : EnvRel ρ' w' env tmps :=
  ⟨hE.size, fun i c hi => let ⟨v, hv, hd⟩ := hE.den i c hi; ⟨v, hv, DenV.ext hM x hd⟩⟩

theorem EnvRel.set {tmps : Array Value} {d : Nat} {c : CV} {v : Value} (hE : EnvRel ρ w env tmps) (hd : DenV ρ w c v) : EnvRel ρ w (env.set d c) (tmps.setIfInBounds d v) := by
  refine ⟨by simp [hE.size], fun i c' hi => ?_⟩
  by_cases h : d = i
  · subst h
    have hlt : d < env.length := by
      rcases Nat.lt_or_ge d env.length with h | h
      · exact h
      · rw [List.getElem?_eq_none (by simpa using h)] at hi; cases hi
    rw [List.getElem?_set_self hlt] at hi
    cases hi
    exact ⟨v, by rw [Array.getElem?_setIfInBounds]; simp [hE.size, hlt], hd⟩
  · rw [List.getElem?_set_ne h] at hi
    obtain ⟨u, hu, hdu⟩ := hE.den i c' hi
    exact ⟨u, by rw [Array.getElem?_setIfInBounds, if_neg h]; exact hu, hdu⟩

theorem put_eq {d : Option Nat} {v : CV} {e : List CV} {K : List CV → Prop} : put d v e K = match d with | none => K e | some d => K (e.set d v) := by
  cases d with
  | none => rfl
  | some d => simp only [put, fV_eq, force_eq, setN_eq]

theorem EnvRel.put {d : Option Nat} {c : CV} {v : Value} (hE : EnvRel ρ w env a.tmps) (hd : DenV ρ w c v) {K : List CV → Prop} (h : put d c env K) :
    ∃ env', K env' ∧ EnvRel ρ w env' (a.put d v).tmps ∧ (a.put d v).defers = a.defers := by
  rw [put_eq] at h
  cases d with
  | none => exact ⟨env, h, hE, rfl⟩
  | some d => exact ⟨_, h, hE.set hd, rfl⟩

/-- whatever instruction is no call -/
theorem step_sound {o : Oper} {i : I} (hl : lowI0 P o = some i) (hcall : ∀ f xs ts, o.op ≠ .call { callee := .value f, args := xs, argTypes := ts }) (hM : MemRel ρ m w) (hE : EnvRel ρ w env a.tmps)
    (h : step P i env m K) : Res P (execOp a.eval o) ρ m w K := by
  unfold lowI0 at hl
  cases hop : o.op
  all_goals rw [hop] at hl
  all_goals try (simp only at hl; cases hl; done)
  case move x =>
    simp only [Option.bind_eq_bind, Option.bind_eq_some_iff] at hl
    obtain ⟨x', hx, hl⟩ := hl
    cases hl
    unfold execOp; rw [hop]
    exact Res.pure hM rfl h (lowX_den hE hx)
  case assign x =>
    simp only [Option.bind_eq_bind, Option.bind_eq_some_iff] at hl
    obtain ⟨x', hx, hl⟩ := hl
    cases hl
    unfold execOp; rw [hop]
    exact Res.pure hM rfl h (lowX_den hE hx)
  case pick c x y =>
    simp only [Option.bind_eq_bind, Option.bind_eq_some_iff] at hl
    obtain ⟨c', hc, x', hx, y', hy, hl⟩ := hl
    cases hl
    unfold execOp; rw [hop]
    exact pick_sound hM hE hc hx hy h
  case alloc t =>
    simp only [Option.bind_eq_bind, Option.bind_eq_some_iff] at hl
    obtain ⟨z, hz, hl⟩ := hl
    cases hl
    unfold execOp; rw [hop]
    exact alloc_sound hM hz h
  case box t x =>
    simp only [Option.bind_eq_bind, Option.bind_eq_some_iff] at hl
    obtain ⟨x', hx, hl⟩ := hl
    cases hl
    unfold execOp; rw [hop]
    exact box_sound hM hE hx h
  case build t ps =>
    simp only [Option.bind_eq_bind, Option.bind_eq_some_iff] at hl
    obtain ⟨z, hz, hl⟩ := hl
    unfold execOp; rw [hop]
    split at hl
    · rename_i fs hu
      split at hl
      · rename_i hall
        simp only [Option.bind_eq_some_iff] at hl
        obtain ⟨ps', hp, hl⟩ := hl
        cases hl
        exact build_sound hM hE hz (.inl ⟨fs, hu, hall, hp⟩) h
      · cases hl
    · rename_i n e hu
      simp only [Option.bind_eq_some_iff] at hl
      obtain ⟨sz, hs, ps', hp, hl⟩ := hl
      cases hl
      exact build_sound hM hE hz (.inr ⟨n, e, sz, hu, hs, hp⟩) h
    · cases hl
  case buildSlice t n ps =>
    simp only [Option.bind_eq_bind] at hl
    unfold execOp; rw [hop]
    split at hl
    · rename_i e hu
      simp only [Option.bind_eq_some_iff] at hl
      obtain ⟨z, hz, sz, hs, hl⟩ := hl
      split at hl
      · rename_i hc
        obtain ⟨rfl, h2, h3⟩ := hc
        simp only [Option.bind_eq_some_iff] at hl
        obtain ⟨ps', hp, hl⟩ := hl
        cases hl
        exact bsl_sound hM hE hu hz hs h2 h3 hp h
      · cases hl
    · cases hl
  case load t x =>
    simp only [Option.bind_eq_bind, Option.bind_eq_some_iff] at hl
    obtain ⟨agg, ha, n, hs, x', hx, hl⟩ := hl
    cases hl
    unfold execOp; rw [hop]
    exact load_sound hM hE ha hs hx h
  case store t p x =>
    simp only [Option.bind_eq_bind, Option.bind_eq_some_iff] at hl
    obtain ⟨n, hs, hl⟩ := hl
    split at hl
    · cases hl
    · rename_i hn
      simp only [Option.bind_eq_some_iff] at hl
      obtain ⟨p', hp, x', hx, hl⟩ := hl
      cases hl
      unfold execOp; rw [hop]
      exact store_sound hM hE hs hn hp hx h
  case fieldAddr t x k =>
    simp only [Option.bind_eq_bind] at hl
    unfold execOp; rw [hop]
    split at hl
    · rename_i fs hu
      simp only [Option.bind_eq_some_iff] at hl
      obtain ⟨f, hf, n, hs, hl⟩ := hl
      split at hl
      · cases hl
      · rename_i hn
        simp only [Option.bind_eq_some_iff] at hl
        obtain ⟨x', hx, hl⟩ := hl
        cases hl
        exact fadr_sound hM hE hu hf hs hn hx h
    · cases hl
  case field t x k =>
    simp only [Option.bind_eq_bind] at hl
    unfold execOp; rw [hop]
    split at hl
    · rename_i fs hu
      simp only [Option.bind_eq_some_iff] at hl
      obtain ⟨f, hf, agg, ha, n, hs, x', hx, hl⟩ := hl
      cases hl
      exact fld_sound hM hE hu hf ha hs hx h
    · cases hl
  case indexAddr t x k =>
    simp only [Option.bind_eq_bind] at hl
    unfold execOp; rw [hop]
    split at hl
    · rename_i e hu
      simp only [Option.bind_eq_some_iff] at hl
      obtain ⟨n, hs, x', hx, k', hk, hl⟩ := hl
      cases hl
      exact idx_sound hM hE hu hs hx hk h
    · rename_i len e hu
      simp only [Option.bind_eq_some_iff] at hl
      obtain ⟨n, hs, x', hx, k', hk, hl⟩ := hl
      cases hl
      exact idxa_sound hM hE hu hs hx hk h
    · cases hl
  case index t x k =>
    simp only [Option.bind_eq_bind] at hl
    unfold execOp; rw [hop]
    split at hl
    · rename_i hu
      simp only [Option.bind_eq_some_iff] at hl
      obtain ⟨x', hx, k', hk, hl⟩ := hl
      cases hl
      exact sidx_sound hM hE hu hx hk h
    · rename_i n e hu
      simp only [Option.bind_eq_some_iff] at hl
      obtain ⟨agg, ha, sz, hs, x', hx, k', hk, hl⟩ := hl
      cases hl
      exact fldx_sound hM hE hu ha hs hx hk h
    · cases hl
  case binOp op t x y yt =>
    simp only [Option.bind_eq_bind] at hl
    unfold execOp; rw [hop]
    split at hl
    · simp only [Option.bind_eq_some_iff] at hl
      obtain ⟨x', hx, y', hy, hl⟩ := hl
      cases hl
      exact bin_sound hM hE hx hy h
    · simp only [Option.bind_eq_some_iff] at hl
      obtain ⟨x', hx, y', hy, hl⟩ := hl
      cases hl
      exact bin_sound hM hE hx hy h
    · rename_i e hu
      split at hl
      · simp only [Option.bind_eq_some_iff] at hl
        obtain ⟨x', hx, hl⟩ := hl
        cases hl
        exact snil_sound (neg := false) hM hE hu hx h
      · simp only [Option.bind_eq_some_iff] at hl
        obtain ⟨x', hx, hl⟩ := hl
        cases hl
        exact snil_sound (neg := true) hM hE hu hx h
      · cases hl
    · rename_i hu
      split at hl
      · simp only [Option.bind_eq_some_iff] at hl
        obtain ⟨x', hx, y', hy, hl⟩ := hl
        cases hl
        exact beq_sound (neg := false) hM hE hu hx hy h
      · simp only [Option.bind_eq_some_iff] at hl
        obtain ⟨x', hx, y', hy, hl⟩ := hl
        cases hl
        exact beq_sound (neg := true) hM hE hu hx hy h
      · cases hl
    · rename_i n e hu
      split at hl
      · rename_i kk hg hue hs
        simp only [Option.bind_eq_some_iff] at hl
        obtain ⟨x', hx, y', hy, hl⟩ := hl
        cases hl
        exact eqar_sound (neg := false) hM hE hu hg hue hs hx hy h
      · rename_i kk hg hue hs
        simp only [Option.bind_eq_some_iff] at hl
        obtain ⟨x', hx, y', hy, hl⟩ := hl
        cases hl
        exact eqar_sound (neg := true) hM hE hu hg hue hs hx hy h
      · cases hl
    · rename_i fs hu
      split at hl
      · rename_i ks hg hk
        simp only [Option.bind_eq_some_iff] at hl
        obtain ⟨x', hx, y', hy, hl⟩ := hl
        cases hl
        exact eqa_sound (neg := false) hM hE hu hg hk hx hy h
      · rename_i ks hg hk
        simp only [Option.bind_eq_some_iff] at hl
        obtain ⟨x', hx, y', hy, hl⟩ := hl
        cases hl
        exact eqa_sound (neg := true) hM hE hu hg hk hx hy h
      · cases hl
    · cases hl
  case unOp op t x =>
    simp only [Option.bind_eq_bind, Option.bind_eq_some_iff] at hl
    obtain ⟨x', hx, hl⟩ := hl
    cases hl
    unfold execOp; rw [hop]
    exact un_sound hM hE hx h
  case convert s d x =>
    simp only [Option.bind_eq_bind] at hl
    unfold execOp; rw [hop]
    split at hl
    · rename_i hs hd
      simp only [Option.bind_eq_some_iff] at hl
      obtain ⟨x', hx, hl⟩ := hl
      cases hl
      exact conv_sound hM hE hs hd hx h
    · rename_i hs hd
      simp only [Option.bind_eq_some_iff] at hl
      obtain ⟨x', hx, hl⟩ := hl
      cases hl
      exact idc_sound hM hE hs hd hx h
    · rename_i e hs hd
      split at hl
      · rename_i he
        simp only [Option.bind_eq_some_iff] at hl
        obtain ⟨x', hx, hl⟩ := hl
        cases hl
        exact b2s_sound hM hE hs he hd hx h
      · cases hl
    · rename_i e hs hd
      split at hl
      · rename_i he
        simp only [Option.bind_eq_some_iff] at hl
        obtain ⟨x', hx, hl⟩ := hl
        cases hl
        exact s2b_sound hM hE hs hd he hx h
      · cases hl
    · rename_i e0 e hs hd
      split at hl
      · rename_i hsd he
        simp only [Option.bind_eq_some_iff] at hl
        obtain ⟨x', hx, hl⟩ := hl
        cases hl
        have hsd : s = d := by simpa using hsd
        subst hsd
        rw [hs] at hd
        cases hd
        exact idb_sound (e2 := e0) hM hE hs he hx h
      · cases hl
    · cases hl
  case range t x =>
    dsimp only at hl
    unfold execOp; rw [hop]
    split at hl
    · rename_i kt vt hu
      simp only [Option.bind_eq_bind, Option.bind_eq_some_iff] at hl
      obtain ⟨x', hx, hl⟩ := hl
      cases hl
      exact rng_sound hM hE hu hx h
    · cases hl
  case next it b =>
    cases b with
    | false =>
      simp only [Option.bind_eq_bind, Option.bind_eq_some_iff] at hl
      unfold execOp; rw [hop]
      obtain ⟨x', hx, hl⟩ := hl
      cases hl
      exact nxt_sound hM hE hx h
    | true => cases hl
  case entry it =>
    simp only [Option.bind_eq_bind, Option.bind_eq_some_iff] at hl
    unfold execOp; rw [hop]
    obtain ⟨x', hx, hl⟩ := hl
    cases hl
    exact ent_sound hM hE hx h
  case makeMap t r =>
    dsimp only at hl
    unfold execOp; rw [hop]
    split at hl
    · cases hl
      exact mkmap_sound hM (.inl rfl) h
    · rename_i k n kt et hu
      cases hl
      exact mkmap_sound hM (.inr ⟨k, n, kt, et, rfl, hu⟩) h
    · cases hl
  case makeSlice t l c =>
    simp only [Option.bind_eq_bind] at hl
    unfold execOp; rw [hop]
    split at hl
    · rename_i e hu
      simp only [Option.bind_eq_some_iff] at hl
      obtain ⟨i, hi, z, hz, hl⟩ := hl
      split at hl
      · rename_i hc
        obtain ⟨h1, h2, h3⟩ := hc
        simp only [Option.bind_eq_some_iff] at hl
        obtain ⟨l', hl', c', hc', hl⟩ := hl
        cases hl
        exact mkslice_sound hM hE hu hi hz h1 h2 h3 hl' hc' h
      · cases hl
    · cases hl
  case lookup t x k b =>
    simp only [Option.bind_eq_bind] at hl
    unfold execOp; rw [hop]
    split at hl
    · rename_i kt vt hu
      simp only [Option.bind_eq_some_iff] at hl
      obtain ⟨z, hz, kk, hk, x', hx, k', hkx, hl⟩ := hl
      cases hl
      exact mget_sound hM hE hu hz hk hx hkx h
    · cases hl
  case mapUpdate t x k v =>
    simp only [Option.bind_eq_bind] at hl
    unfold execOp; rw [hop]
    split at hl
    · rename_i kt vt hu
      simp only [Option.bind_eq_some_iff] at hl
      obtain ⟨kk, hk, x', hx, k', hkx, v', hv, hl⟩ := hl
      cases hl
      exact mset_sound hM hE hu hk hx hkx hv h
    · cases hl
  case insert t x k v =>
    simp only [Option.bind_eq_bind] at hl
    unfold execOp; rw [hop]
    split at hl
    · rename_i kt vt hu
      simp only [Option.bind_eq_some_iff] at hl
      obtain ⟨kk, hk, x', hx, k', hkx, v', hv, hl⟩ := hl
      cases hl
      exact mset_sound hM hE hu hk hx hkx hv h
    · cases hl
  case makeFunc fn fst caps =>
    unfold execOp; rw [hop]
    cases fn <;> simp only at hl <;> try (cases hl; done)
    rename_i f
    split at hl
    · rename_i hz
      simp only [Option.bind_eq_bind, Option.bind_eq_some_iff] at hl
      obtain ⟨x', hx, hl⟩ := hl
      cases hl
      have hf : fst = #[] := Array.eq_empty_of_size_eq_zero hz
      subst hf
      exact fn_sound hM hE hx h
    · cases hl
  case extract x k =>
    simp only [Option.bind_eq_bind, Option.bind_eq_some_iff] at hl
    obtain ⟨x', hx, hl⟩ := hl
    cases hl
    unfold execOp; rw [hop]
    exact ext_sound hM hE hx h
  case slice t x lo hi mx =>
    simp only [Option.bind_eq_bind] at hl
    unfold execOp; rw [hop]
    split at hl
    · rename_i e hu
      simp only [Option.bind_eq_some_iff] at hl
      obtain ⟨n, hs, x', hx, lo', hlo, hi', hhi, mx', hmx, hl⟩ := hl
      cases hl
      exact slc_sound hM hE hu hs hx hlo hhi hmx h
    · rename_i hu
      cases mx <;> simp only at hl
      · simp only [Option.bind_eq_some_iff] at hl
        obtain ⟨x', hx, lo', hlo, hi', hhi, hl⟩ := hl
        cases hl
        exact strs_sound hM hE hu hx hlo hhi h
      · cases hl
    · cases hl
  case nilCheck x =>
    simp only [Option.bind_eq_bind, Option.bind_eq_some_iff] at hl
    obtain ⟨x', hx, hl⟩ := hl
    cases hl
    exact nilc_sound hM hE hop hx h
  case call c =>
    obtain ⟨callee, args, argTypes⟩ := c
    cases callee with
    | value f =>
      exact absurd hop (hcall _ _ _)
    | invoke r n => simp only at hl; cases hl
    | builtin b =>
      cases b <;> simp only at hl <;> try (cases hl; done)
      case len =>
        simp only [Option.bind_eq_bind] at hl
        split at hl
        · rename_i x t hargs htys
          have e1 : args = #[x] := Array.ext' (by simpa using hargs)
          have e2 : argTypes = #[t] := Array.ext' (by simpa using htys)
          subst e1 e2
          unfold execOp; rw [hop]
          split at hl
          · rename_i hu
            simp only [Option.bind_eq_some_iff] at hl
            obtain ⟨x', hx, hl⟩ := hl
            cases hl
            have := len_sound (ty := o.type) hM hE (.inl ⟨rfl, hu⟩) hx h
            unfold Res at this ⊢
            simpa [resolve, invoke, builtin] using this
          · rename_i e hu
            simp only [Option.bind_eq_some_iff] at hl
            obtain ⟨x', hx, hl⟩ := hl
            cases hl
            have := len_sound (ty := o.type) hM hE (.inr (.inl ⟨rfl, e, hu⟩)) hx h
            unfold Res at this ⊢
            simpa [resolve, invoke, builtin] using this
          · rename_i kt e hu
            simp only [Option.bind_eq_some_iff] at hl
            obtain ⟨x', hx, hl⟩ := hl
            cases hl
            have := len_sound (ty := o.type) hM hE (.inr (.inr ⟨rfl, kt, e, hu⟩)) hx h
            unfold Res at this ⊢
            simpa [resolve, invoke, builtin] using this
          · cases hl
        · cases hl
      case append =>
        simp only [Option.bind_eq_bind] at hl
        split at hl
        · rename_i x y t t2 hargs htys
          have e1 : args = #[x, y] := Array.ext' (by simpa using hargs)
          have e2 : argTypes = #[t, t2] := Array.ext' (by simpa using htys)
          subst e1 e2
          unfold execOp; rw [hop]
          split at hl
          · rename_i e e2 hu hu2
            simp only [Option.bind_eq_some_iff] at hl
            obtain ⟨i, hi, z, hz, hl⟩ := hl
            split at hl
            · rename_i hc
              obtain ⟨h1, h2, h3⟩ := hc
              simp only [Option.bind_eq_some_iff] at hl
              obtain ⟨x', hx, y', hy, hl⟩ := hl
              cases hl
              have := app_sound (ty := o.type) hM hE hu hu2 hi hz h1 h2 h3 hx hy h
              unfold Res at this ⊢
              simpa [resolve, invoke, builtin] using this
            · cases hl
          · cases hl
        · cases hl
      case min =>
        simp only [Option.bind_eq_bind] at hl
        split at hl
        · rename_i x y hargs
          have e1 : args = #[x, y] := Array.ext' (by simpa using hargs)
          subst e1
          unfold execOp; rw [hop]
          simp only [Option.bind_eq_some_iff] at hl
          obtain ⟨x', hx, y', hy, hl⟩ := hl
          cases hl
          have := minmax_sound (mx := false) (ts := argTypes) (ty := o.type) hM hE hx hy h
          unfold Res at this ⊢
          simpa [resolve, invoke, builtin] using this
        · cases hl
      case max =>
        simp only [Option.bind_eq_bind] at hl
        split at hl
        · rename_i x y hargs
          have e1 : args = #[x, y] := Array.ext' (by simpa using hargs)
          subst e1
          unfold execOp; rw [hop]
          simp only [Option.bind_eq_some_iff] at hl
          obtain ⟨x', hx, y', hy, hl⟩ := hl
          cases hl
          have := minmax_sound (mx := true) (ts := argTypes) (ty := o.type) hM hE hx hy h
          unfold Res at this ⊢
          simpa [resolve, invoke, builtin] using this
        · cases hl
      case copy =>
        simp only [Option.bind_eq_bind] at hl
        split at hl
        · rename_i x y t t2 hargs htys
          have e1 : args = #[x, y] := Array.ext' (by simpa using hargs)
          have e2 : argTypes = #[t, t2] := Array.ext' (by simpa using htys)
          subst e1 e2
          unfold execOp; rw [hop]
          split at hl
          · rename_i e hu
            simp only [Option.bind_eq_some_iff] at hl
            obtain ⟨i, hi, z, hz, hl⟩ := hl
            split at hl
            · rename_i hc
              simp only [Option.bind_eq_some_iff] at hl
              obtain ⟨x', hx, y', hy, hl⟩ := hl
              cases hl
              have := copy_sound (ty := o.type) (t2 := t2) hM hE hu hi hz hc hx hy h
              unfold Res at this ⊢
              simpa [resolve, invoke, builtin] using this
            · cases hl
          · cases hl
        · cases hl
      case clear =>
        simp only [Option.bind_eq_bind] at hl
        split at hl
        · rename_i x t hargs htys
          have e1 : args = #[x] := Array.ext' (by simpa using hargs)
          have e2 : argTypes = #[t] := Array.ext' (by simpa using htys)
          subst e1 e2
          unfold execOp; rw [hop]
          split at hl
          · rename_i e hu
            simp only [Option.bind_eq_some_iff] at hl
            obtain ⟨i, hi, z, hz, hl⟩ := hl
            split at hl
            · rename_i hc
              simp only [Option.bind_eq_some_iff] at hl
              obtain ⟨x', hx, hl⟩ := hl
              cases hl
              have := clr_sound (ty := o.type) hM hE hu hi hz hc hx h
              unfold Res at this ⊢
              simpa [resolve, invoke, builtin] using this
            · cases hl
          · cases hl
        · cases hl
end
end Go.AM
