import Derived.Test.YtbemknkbegkflaaAmN2
set_option linter.unusedSimpArgs false
set_option linter.unnecessarySimpa false
set_option linter.unusedVariables false
/-! A round of a range over a function, by its body; the range, by its rounds. -/
namespace Go.AM
section
variable {P : Program} {N : Nat} {ρ0 : Rho} {m0 : Mem} {w0 : World}

theorem post_in {K : Ex → St → Prop} : ¬ LetsOut (Post N ρ0 m0 w0 K) := by
  rintro ⟨a, w, ex, st, ρ, he, _⟩
  simp [exOf] at he
theorem noRF_er : ∀ lc : LC, lc.er.noRF = lc.noRF := by
  intro lc
  induction lc <;> simp_all [LC.er, LC.noRF]

/-- one round of a range over a function -/
theorem round_sound {l : Nat} {n0 : Nat} {st : St} {ρ : Rho} {act : Act} {W : World} {fn : FuncId} {rec0 : Loop} {p : Nat} {la lb : LC} {ca cb : Code} {y : ByteArray} {K : Ex → St → Prop}
    (iha : ∀ (ρ0 : Rho) (m0 : Mem) (w0 : World) (K : Ex → St → Prop) (st : St) (ρ : Rho) (a : Act) (w : World), ρ0.n = m0.length → aw P m0.length la K st → Inv 0 ρ0 m0 w0 st ρ a w → ca.wpIn (FR (some l)) 0 P (Post 0 ρ0 m0 w0 K) a w)
    (ihb : ∀ (ρ0 : Rho) (m0 : Mem) (w0 : World) (K : Ex → St → Prop) (st : St) (ρ : Rho) (a : Act) (w : World), ρ0.n = m0.length → aw P m0.length lb K st → Inv 0 ρ0 m0 w0 st ρ a w → cb.wpIn (FR (some l)) 0 P (Post 0 ρ0 m0 w0 K) a w)
    (hr : rec0.state = .ready ∧ rec0.pending = none ∧ rec0.fn = fn ∧ rec0.tmps = act.tmps ∧ rec0.params = #[p] ∧ rec0.assign = ca ∧ rec0.body = cb)
    (hI : Inv N ρ0 m0 w0 st ρ act W) (hl : W.heap[l]? = some (.loop rec0)) (hoff : Off ρ st.mem l) (hl0 : w0.heap.size ≤ l)
    (h : lenK st.mem fun n1 => aw P n1 la (fun ex s2 => match ex with
        | .normal => lenK s2.mem fun n2 => aw P n2 lb K s2
        | _ => False) ⟨setN st.env p (vStr y), st.mem⟩) :
    YldAt P l #[.string y] W fun e W' => ∃ ex st' ρ' jump, K ex st' ∧ Inv N ρ0 m0 w0 ⟨st.env, st'.mem⟩ ρ' act W' ∧ e = .returned (.bool jump.isNone) ∧
      W'.heap[l]? = some (.loop { rec0 with state := if jump.isNone then .ready else .done, pending := jump }) ∧
      ((jump = none ∧ ex = .normal) ∨ (jump = some .ret ∧ ex = .ret) ∨ ∃ id, jump = some (.exit id) ∧ ex = .exit id) ∧
      (∀ b, b < W.heap.size → b ≠ l → Off ρ st.mem b → Off ρ' st'.mem b ∧ W'.heap[b]? = W.heap[b]?) ∧ Off ρ' st'.mem l ∧ W.heap.size ≤ W'.heap.size := by
  obtain ⟨r1, r2, r3, r4, r5, r6, r7⟩ := hr
  have hy := run_yield (P := P) (args := #[.string y]) hl (by rw [r5]; rfl)
  rw [r3, r4, r5, r6, r7] at hy
  refine ⟨_, _, _, _, hy, ?_⟩
  have hlt : l < W.heap.size := (Array.getElem?_eq_some_iff.1 hl).1
  simp only [lenK_eq] at h
  have hRo : RoundIn Fence.wide 0 P l fn (act.tmps.setIfInBounds p (.string y)) ca cb W fun e W' => ∃ ex st' ρ' jump, K ex st' ∧ Inv N ρ0 m0 w0 ⟨st.env, st'.mem⟩ ρ' act W' ∧ e = .returned (.bool jump.isNone) ∧
      W'.heap[l]? = some (.loop { rec0 with state := if jump.isNone then .ready else .done, pending := jump }) ∧
      ((jump = none ∧ ex = .normal) ∨ (jump = some .ret ∧ ex = .ret) ∨ ∃ id, jump = some (.exit id) ∧ ex = .exit id) ∧
      (∀ b, b < W.heap.size → b ≠ l → Off ρ st.mem b → Off ρ' st'.mem b ∧ W'.heap[b]? = W.heap[b]?) ∧ Off ρ' st'.mem l ∧ W.heap.size ≤ W'.heap.size := by
    refine roundIn_of_wpIn trivial ?_
    have hE1 : EnvRel ρ W (setN st.env p (vStr y)) (act.tmps.setIfInBounds p (.string y)) := by
      rw [setN_eq]
      exact hI.env.set (DenD.val _ rfl : DenV ρ W (vStr y) (.string y))
    have hI1 : Inv 0 ρ st.mem W ⟨setN st.env p (vStr y), st.mem⟩ ρ { tmps := act.tmps.setIfInBounds p (.string y), defers := [] } W :=
      ⟨Ext.refl _ _ _, hI.mem, hE1, Dfs.nil, Nat.zero_le _, Nat.le_refl _⟩
    have hwa := iha ρ st.mem W _ _ ρ _ W hI.mem.n h hI1
    rw [FR_some] at hwa
    refine wpIn_mono hwa fun e a1 W1 hp => ?_
    obtain ⟨ex, s2, ρ2, he, hK, hI2⟩ := hp
    cases e <;> simp [exOf] at he <;> subst he <;> simp only at hK
    simp only [Exit.then]
    have hl1 : W1.heap[l]? = some (.loop rec0) := (hI2.ext.frame l hlt hoff.2).trans hl
    have hoff1 : Off ρ2 s2.mem l := hoff.ext hI2.ext hlt
    have hlt1 : l < W1.heap.size := (Array.getElem?_eq_some_iff.1 hl1).1
    refine ⟨_, run_beginRound hl1 r1, ?_⟩
    obtain ⟨W2, hW2⟩ : ∃ W2, W1.putObj l (.loop { rec0 with state := .busy }) = W2 := ⟨_, rfl⟩
    rw [hW2]
    have hlies2 : Lies ρ2 s2.mem W1 W2 := by rw [← hW2]; exact Lies.put hoff1 _
    have hM2 := hI2.mem.lies hlies2
    have hI3 : Inv 0 ρ2 s2.mem W2 s2 ρ2 a1 W2 := ⟨Ext.refl _ _ _, hM2, hI2.env.goes hlies2.goes, hI2.defers.lies hlies2, Nat.zero_le _, Nat.le_refl _⟩
    have hwb := ihb ρ2 s2.mem W2 _ _ ρ2 _ W2 hM2.n hK hI3
    rw [FR_some] at hwb
    refine wpIn_mono hwb fun e a3 W3 hp => ?_
    obtain ⟨ex, s3, ρ3, he, hK3, hI4⟩ := hp
    have hlt2 : l < W2.heap.size := by rw [← hW2]; simpa using hlt1
    have hl3 : W3.heap[l]? = some (.loop { rec0 with state := .busy }) := by
      rw [hI4.ext.frame l hlt2 hoff1.2, ← hW2]
      exact World.putObj_heap_same hlt1
    have hlt3 : l < W3.heap.size := (Array.getElem?_eq_some_iff.1 hl3).1
    have hoff3 : Off ρ3 s3.mem l := hoff1.ext hI4.ext hlt2
    have fin : ∀ (jump : Option Code), ((jump = none ∧ ex = .normal) ∨ (jump = some .ret ∧ ex = .ret) ∨ ∃ id, jump = some (.exit id) ∧ ex = .exit id) →
        ∃ v w', (Instr.endRound l jump).run P W3 = .ok v w' ∧ ∃ ex st' ρ' jump, K ex st' ∧ Inv N ρ0 m0 w0 ⟨st.env, st'.mem⟩ ρ' act w' ∧ Ending.returned v = .returned (.bool jump.isNone) ∧
          w'.heap[l]? = some (.loop { rec0 with state := if jump.isNone then .ready else .done, pending := jump }) ∧
          ((jump = none ∧ ex = .normal) ∨ (jump = some .ret ∧ ex = .ret) ∨ ∃ id, jump = some (.exit id) ∧ ex = .exit id) ∧
          (∀ b, b < W.heap.size → b ≠ l → Off ρ st.mem b → Off ρ' st'.mem b ∧ w'.heap[b]? = W.heap[b]?) ∧ Off ρ' st'.mem l ∧ W.heap.size ≤ w'.heap.size := by
      intro jump hj
      have hend := run_endRound (P := P) jump hl3
      refine ⟨_, _, hend, ex, s3, ρ3, jump, hK3, ?_, rfl, World.putObj_heap_same hlt3, hj, fun b hb hbl ho => ?_, hoff3, ?_⟩
      · have x1 : Ext ρ0 m0 w0 ρ2 s2.mem W1 := hI.ext.trans hI2.ext
        have x2 : Ext ρ0 m0 w0 ρ2 s2.mem W2 := by
          rw [← hW2]
          exact ⟨x1.n, x1.loc, x1.S, x1.S', x1.live, fun b hb hk => (World.putObj_heap_other (by omega)).trans (x1.frame b hb hk), by simpa using x1.size, x1.os, x1.tape, x1.output⟩
        have x3 : Ext ρ0 m0 w0 ρ3 s3.mem W3 := x2.trans hI4.ext
        have e1 : EnvRel ρ2 W1 st.env act.tmps := hI.env.ext hI.mem hI2.ext
        have e3 : EnvRel ρ3 W3 st.env act.tmps := (e1.goes hlies2.goes).ext hM2 hI4.ext
        have d3 : Dfs N ρ3 W3 act.defers := ((hI.defers.ext hI.mem hI2.ext).lies hlies2).ext hM2 hI4.ext
        have hI5 : Inv N ρ0 m0 w0 ⟨st.env, s3.mem⟩ ρ3 act W3 := ⟨x3, hI4.mem, e3, d3, hI.hN, Nat.le_trans hI.n0 (Nat.le_trans hI2.n0 hI4.n0)⟩
        exact hI5.put hoff3 hl0 _
      · have ho2 : Off ρ2 s2.mem b := ho.ext hI2.ext hb
        have hb1 : b < W1.heap.size := Nat.lt_of_lt_of_le hb hI2.ext.size
        have hb2 : b < W2.heap.size := by rw [← hW2]; simpa using hb1
        refine ⟨ho2.ext hI4.ext hb2, ?_⟩
        rw [World.putObj_heap_other hbl, hI4.ext.frame b hb2 ho2.2, ← hW2, World.putObj_heap_other hbl, hI2.ext.frame b hb ho.2]
      · have h1 := hI2.ext.size
        have h2 : W1.heap.size = W2.heap.size := by rw [← hW2]; simp
        have h3 := hI4.ext.size
        simp only [World.putObj_size]
        omega
    cases e <;> simp [exOf] at he <;> subst he
    · exact fin none (.inl ⟨rfl, rfl⟩)
    · rename_i id
      exact fin (some (.exit id)) (.inr (.inr ⟨id, rfl, rfl⟩))
    · exact fin (some .ret) (.inr (.inl ⟨rfl, rfl⟩))
  have hz : (#[p].zip #[Value.string y]).foldl (fun tmps x => tmps.setIfInBounds x.1 x.2) act.tmps = act.tmps.setIfInBounds p (.string y) := by simp
  exact hz ▸ hRo
theorem Inv.lies2 {st : St} {ρ : Rho} {a : Act} {w w' : World} (hI : Inv N ρ0 m0 w0 st ρ a w) (h : Lies ρ st.mem w w')
    (hb : ∀ b, b < w0.heap.size → (∀ k, Live ρ0 m0 k → (ρ0.loc k).b ≠ b) → w'.heap[b]? = w.heap[b]?)
    (ho : w'.os = w.os) (ht : w'.tape = w.tape) (hu : w'.output = w.output) : Inv N ρ0 m0 w0 st ρ a w' :=
  ⟨⟨hI.ext.n, hI.ext.loc, hI.ext.S, hI.ext.S', hI.ext.live, fun b hb' hk => (hb b hb' hk).trans (hI.ext.frame b hb' hk), Nat.le_trans hI.ext.size h.size, ho.trans hI.ext.os, ht.trans hI.ext.tape, hu.trans hI.ext.output⟩,
    hI.mem.lies h, hI.env.goes h.goes, hI.defers.lies h, hI.hN, hI.n0⟩

theorem MemRel.addS {ρ : Rho} {m : Mem} {w : World} {D : Nat} (hM : MemRel ρ m w) (hD : D < w.heap.size) (hl : ∀ k, Live ρ m k → (ρ.loc k).b ≠ D) : MemRel { ρ with S := fun b => ρ.S b ∨ b = D } m w := by
  have g : Goes ρ w { ρ with S := fun b => ρ.S b ∨ b = D } w := ⟨Nat.le_refl _, fun _ _ => rfl, fun _ h => .inl h, fun _ _ => rfl⟩
  have hlv : ∀ k, Live { ρ with S := fun b => ρ.S b ∨ b = D } m k ↔ Live ρ m k := fun k => by cases k <;> rfl
  refine ⟨hM.n, fun b hb => ?_, fun k hk => ⟨(hM.live k ((hlv k).1 hk)).1, ?_⟩, fun k k' hk hk' e => hM.inj k k' ((hlv k).1 hk) ((hlv k').1 hk') e, fun id b hb => ?_, fun id i j esz el ho hcap => ?_⟩
  · rcases hb with hb | rfl
    · exact hM.S b hb
    · exact hD
  · rintro (hs | hs)
    · exact (hM.live k ((hlv k).1 hk)).2 hs
    · exact hl k ((hlv k).1 hk) hs
  · have h1 := hM.bk id b hb
    cases b with
    | dead => trivial
    | var cs =>
      obtain ⟨cur, hcur, h2⟩ := h1
      exact ⟨cur, hcur, fun j c hj => let ⟨u, hu, hd⟩ := h2 j c hj; ⟨u, hu, DenC.goes g (by simp) hd⟩⟩
    | row esz elems =>
      obtain ⟨h2, h3, h4, h5, h6⟩ := h1
      refine ⟨h2, h3, h4, h5, fun hp => ?_⟩
      obtain ⟨cur, hcur, h7, h8⟩ := h6 hp
      exact ⟨cur, hcur, h7, fun i cs j c hi hj => let ⟨u, hu, hd⟩ := h8 i cs j c hi hj; ⟨u, hu, DenC.goes g (by
        intro id' i' j' e'
        cases e'
        rw [hM.n]
        exact (List.getElem?_eq_some_iff.1 hb).1) hd⟩⟩
    | mp es =>
      obtain ⟨es', ck, h2, h3, h4⟩ := h1
      exact ⟨es', ck, h2, h3, fun i e he => let ⟨e', he', hk, hd⟩ := h4 i e he; ⟨e', he', hk, DenR.goes g hd⟩⟩
    | it cur left =>
      obtain ⟨mb, seen, ck, es', h2, h3, h4, h5, h6⟩ := h1
      exact ⟨mb, seen, ck, es', h2, h3, g.S _ h4, (g.heap mb h4).trans h5, h6⟩
  · obtain ⟨cur, hcur, h2, h3, h4⟩ := hM.own id i j esz el ho hcap
    exact ⟨cur, hcur, h2, h3, fun i cs j d hi hj => let ⟨u, hu, hd⟩ := h4 i cs j d hi hj; ⟨u, hu, DenD.mono g.S g.heap hd⟩⟩

theorem Live.kill {ρ : Rho} {m : Mem} {ids : List Nat} {k : Key} (h : Live ρ (killL m ids) k) : Live ρ m k ∧ k.id ∉ ids := by
  cases k with
  | root id =>
    obtain ⟨bk, h1, h2, h3⟩ := h
    rcases killL_get m ids id bk h1 with rfl | ⟨h4, h5⟩
    · exact absurd rfl h2
    · exact ⟨⟨bk, h4, h2, h3⟩, h5⟩
  | sub id i j =>
    obtain ⟨⟨esz, elems, es, rows, cs, h1, h2, h3⟩, h4⟩ := h
    rcases killL_get m ids id _ h1 with h5 | ⟨h5, h6⟩
    · cases h5
    · exact ⟨⟨⟨esz, elems, es, rows, cs, h5, h2, h3⟩, h4⟩, h6⟩
theorem MemRel.kill {ρ : Rho} {m : Mem} {w : World} (hM : MemRel ρ m w) (ids : List Nat) : MemRel ρ (killL m ids) w := by
  refine ⟨by rw [killL_len]; exact hM.n, hM.S, fun k hk => hM.live k hk.kill.1, fun k k' hk hk' => hM.inj k k' hk.kill.1 hk'.kill.1, fun id b hb => ?_, fun id i j esz el ho hcap => ?_⟩
  · rcases killL_get m ids id b hb with rfl | ⟨h, _⟩
    · trivial
    · exact hM.bk id b h
  · obtain ⟨es, rows, cs, h1, h2, h3⟩ := ho
    rcases killL_get m ids id _ h1 with h5 | ⟨h5, _⟩
    · cases h5
    · exact hM.own id i j esz el ⟨es, rows, cs, h5, h2, h3⟩ hcap
theorem Inv.kill {st : St} {ρ : Rho} {a : Act} {w : World} (hI : Inv N ρ0 m0 w0 st ρ a w) (ids : List Nat) : Inv N ρ0 m0 w0 ⟨st.env, killL st.mem ids⟩ ρ a w :=
  ⟨⟨hI.ext.n, hI.ext.loc, hI.ext.S, hI.ext.S', fun k hk => hI.ext.live k hk.kill.1, hI.ext.frame, hI.ext.size, hI.ext.os, hI.ext.tape, hI.ext.output⟩,
    hI.mem.kill ids, hI.env, hI.defers, hI.hN, by rw [killL_len]; exact hI.n0⟩

/-- **A RANGE OVER A FUNCTION** -/
theorem rfun_sound {x : X} {f : Operand} {p : Nat} {ps : Array Tmp} {la lb : LC} {ca cb : Code} {K : Ex → St → Prop} {st : St} {ρ : Rho} {a : Act} {w : World} (hM0 : ρ0.n = m0.length) (hps : ps = #[p]) (hx : lowX f = some x)
    (iha : ∀ (l : Nat) (ρ0 : Rho) (m0 : Mem) (w0 : World) (K : Ex → St → Prop) (st : St) (ρ : Rho) (a : Act) (w : World), ρ0.n = m0.length → aw P m0.length la K st → Inv 0 ρ0 m0 w0 st ρ a w → ca.wpIn (FR (some l)) 0 P (Post 0 ρ0 m0 w0 K) a w)
    (ihb : ∀ (l : Nat) (ρ0 : Rho) (m0 : Mem) (w0 : World) (K : Ex → St → Prop) (st : St) (ρ : Rho) (a : Act) (w : World), ρ0.n = m0.length → aw P m0.length lb K st → Inv 0 ρ0 m0 w0 st ρ a w → cb.wpIn (FR (some l)) 0 P (Post 0 ρ0 m0 w0 K) a w)
    (h : aw P m0.length (.rfun x p la lb) K st) (hI : Inv N ρ0 m0 w0 st ρ a w) : (Code.rangeFunc f ps ca cb).wpIn (FR none) 0 P (Post N ρ0 m0 w0 K) a w := by
  obtain ⟨gf, ids, cs, xs, α, J, S, hxe, hcaps, ⟨hnd, hne⟩, hseq, ⟨x0, hJ0, hv0⟩, hround, hdone⟩ := h
  have hd := lowX_den hI.env hx
  rw [hxe] at hd
  obtain ⟨hcl, hv⟩ := hd
  rw [FR_none]
  refine wpIn_rangeFunc fun fn _ => ?_
  obtain ⟨rec0, hrec⟩ : ∃ rec0 : Loop, rec0 = { state := .ready, pending := none, fn, tmps := a.tmps, params := ps, assign := ca, body := cb, defers := w.heap.size } := ⟨_, rfl⟩
  obtain ⟨W1, hW1⟩ : ∃ W1, (w.alloc (.deferred (some []))).alloc (.loop rec0) = W1 := ⟨_, rfl⟩
  have hsz1 : W1.heap.size = w.heap.size + 2 := by rw [← hW1]; simp
  have hold : ∀ b, b < w.heap.size → W1.heap[b]? = w.heap[b]? := fun b hb => by
    rw [← hW1]
    exact (Go.RowKit.Below.heap_alloc _ _ _ (by simp; omega)).trans (Go.RowKit.Below.heap_alloc _ _ _ hb)
  have hL1 : W1.heap[w.heap.size + 1]? = some (.loop rec0) := by
    rw [← hW1]; have := World.alloc_heap_new (w.alloc (.deferred (some []))) (.loop rec0); rwa [World.size_alloc] at this
  have hK1 : W1.heap[w.heap.size]? = some (.deferred (some [])) := by
    rw [← hW1]; exact (Go.RowKit.Below.heap_alloc _ _ _ (by simp)).trans (World.alloc_heap_new w _)
  have hos : W1.os = w.os ∧ W1.tape = w.tape ∧ W1.output = w.output := by rw [← hW1]; exact ⟨rfl, rfl, rfl⟩
  obtain ⟨⟨gfn, hgf, hgb, hgn⟩, hT⟩ := hseq
  have hgb' : gfn.body ≠ none := by intro e; rw [e] at hgb; cases hgb
  have hgn' : gfn.name ≠ "runtime.NumGoroutine" := by intro e; rw [e] at hgn; simp at hgn
  obtain ⟨as, has⟩ : ∃ as : List (Nat × Nat), as = ids.map fun id => ((ρ.loc (.root id)).b, (ρ.loc (.root id)).base) := ⟨_, rfl⟩
  have hlb : (ids.map fun id => Value.pointer (some ⟨(ρ.loc (.root id)).b, (ρ.loc (.root id)).base, none⟩)) = capPtrs as := by
    rw [has, capPtrs, List.map_map]; rfl
  rw [hlb] at hv
  have hlies : Lies ρ st.mem w W1 := ⟨by omega, fun b hb => hold b (hI.mem.S b hb), fun k hk => hold _ (hI.mem.live k hk).1⟩
  have hIa : Inv N ρ0 m0 w0 st ρ a W1 := hI.lies hlies (fun b hb => hold b (Nat.lt_of_lt_of_le hb hI.ext.size)) hos.1 hos.2.1 hos.2.2
  let ρ1 : Rho := { ρ with S := fun b => ρ.S b ∨ b = w.heap.size }
  let act : Act := { a with defers := [{ target := .collected w.heap.size, args := #[] }] ++ a.defers }
  have hlt : ∀ k, Live ρ st.mem k → (ρ.loc k).b < w.heap.size := fun k hk => (hI.mem.live k hk).1
  have hlv : ∀ (m : Mem) k, Live ρ1 m k ↔ Live ρ m k := fun m k => by cases k <;> rfl
  have g1 : Goes ρ W1 ρ1 W1 := ⟨Nat.le_refl _, fun _ _ => rfl, fun _ h => .inl h, fun _ _ => rfl⟩
  have hIb : Inv N ρ0 m0 w0 st ρ1 act W1 := by
    refine ⟨⟨hIa.ext.n, hIa.ext.loc, fun b hb => .inl (hIa.ext.S b hb), fun b hb => ?_, fun k hk => hIa.ext.live k ((hlv _ k).1 hk), hIa.ext.frame, hIa.ext.size, hIa.ext.os, hIa.ext.tape, hIa.ext.output⟩,
      hIa.mem.addS (by omega) (fun k hk e => by have := hlt k hk; omega), hIa.env.goes g1, ?_, hI.hN, hI.n0⟩
    · rcases hb with hb | rfl
      · exact hIa.ext.S' b hb
      · exact .inr (.inl hI.ext.size)
    · obtain ⟨Ds, h1, h2, h3⟩ := hIa.defers
      refine ⟨w.heap.size :: Ds, by simp [act, h1], List.nodup_cons.2 ⟨fun hm => ?_, h2⟩, fun D hD => ?_⟩
      · have := hI.mem.S _ (h3 _ hm).2.1
        omega
      · rcases List.mem_cons.1 hD with rfl | hD
        · exact ⟨Nat.le_trans hI.hN hI.ext.size, .inr rfl, hK1⟩
        · exact ⟨(h3 D hD).1, .inl (h3 D hD).2.1, (h3 D hD).2.2⟩
  have hIc := hIb.kill ids
  have hoffl : Off ρ1 (killL st.mem ids) (w.heap.size + 1) := by
    refine ⟨?_, fun k hk e => ?_⟩
    · rintro (hs | hs)
      · have := hI.mem.S _ hs; omega
      · omega
    · have := hlt k ((hlv _ k).1 hk).kill.1
      have h2 : (ρ1.loc k).b = (ρ.loc k).b := rfl
      omega
  obtain ⟨hcl1, hcg⟩ := capsAre_get hcaps
  have hlive : ∀ id, id ∈ ids → Live ρ st.mem (.root id) := fun id hid => by
    obtain ⟨i, hi⟩ := List.getElem?_of_mem hid
    have hlt : i < cs.length := by rw [← hcl1]; exact (List.getElem?_eq_some_iff.1 hi).1
    obtain ⟨h1, _⟩ := hcg i id _ hi (List.getElem?_eq_getElem hlt)
    exact ⟨_, h1, by simp, by simp⟩
  have hoffc : ∀ b, b ∈ as.map (·.1) → Off ρ1 (killL st.mem ids) b := by
    intro b hb
    rw [has, List.map_map] at hb
    obtain ⟨id, hid, rfl⟩ := List.mem_map.1 hb
    have hL := hlive id hid
    refine ⟨?_, fun k hk e => ?_⟩
    · rintro (hs | hs)
      · exact (hI.mem.live _ hL).2 hs
      · have := hlt _ hL
        simp only [Function.comp] at hs
        omega
    · have hk1 := (hlv _ k).1 hk
      have := hI.mem.inj k _ hk1.kill.1 hL e
      subst this
      exact hk1.kill.2 hid
  obtain ⟨ρ2, hId, hofft⟩ := hIc.view hM0 hv0
  have hasl : as.length = cs.length := by rw [has, List.length_map, hcl1]
  have hasn : (as.map (·.1)).Nodup := by
    rw [has, List.map_map]
    have key : ∀ l : List Nat, (∀ id, id ∈ l → id ∈ ids) → l.Nodup → (l.map fun id => (ρ.loc (.root id)).b).Nodup := by
      intro l
      induction l with
      | nil => intro _ _; exact List.nodup_nil
      | cons id r ih =>
        intro hm hn
        obtain ⟨hn1, hn2⟩ := List.nodup_cons.1 hn
        refine List.nodup_cons.2 ⟨fun hb => ?_, ih (fun id h => hm id (by simp [h])) hn2⟩
        obtain ⟨id', hid', e⟩ := List.mem_map.1 hb
        have := hI.mem.inj _ _ (hlive id' (hm id' (by simp [hid']))) (hlive id (hm id (by simp))) e
        cases this
        exact hn1 hid'
    exact key ids (fun _ h => h) hnd
  have haslt : ∀ b, b ∈ as.map (·.1) → b < w.heap.size := by
    intro b hb
    rw [has, List.map_map] at hb
    obtain ⟨id, hid, rfl⟩ := List.mem_map.1 hb
    exact hlt _ (hlive id hid)
  have has0 : ∀ b, b ∈ as.map (·.1) → w0.heap.size ≤ b ∨ ∃ k0, Live ρ0 m0 k0 ∧ (ρ0.loc k0).b = b := by
    intro b hb
    rw [has, List.map_map] at hb
    obtain ⟨id, hid, rfl⟩ := List.mem_map.1 hb
    exact hI.ext.live _ (hlive id hid)
  have hfst : ∀ a0, a0 ∈ as → a0.1 ∈ as.map (·.1) := fun a0 h0 => List.mem_map.2 ⟨a0, h0, rfl⟩
  let Jw : Nat → World → Prop := fun k W => ∃ y ρ', J k y ∧ Inv N ρ0 m0 w0 (S y) ρ' act W ∧ Off ρ' (S y).mem (w.heap.size + 1) ∧ (∀ b, b ∈ as.map (·.1) → Off ρ' (S y).mem b) ∧
    W.heap[w.heap.size + 1]? = some (.loop rec0)
  let Jx : World → Prop := fun W => ∃ c ex st' ρ', K ex st' ∧ Inv N ρ0 m0 w0 st' ρ' act W ∧ Off ρ' st'.mem (w.heap.size + 1) ∧ (∀ b, b ∈ as.map (·.1) → Off ρ' st'.mem b) ∧
    ((c = .ret ∧ ex = .ret) ∨ ∃ id, c = .exit id ∧ ex = .exit id) ∧ W.heap[w.heap.size + 1]? = some (.loop { rec0 with state := .done, pending := some c })
  have abide : ∀ (st' : St) (ρ' : Rho) (o : Obj) (W W' : World), Inv N ρ0 m0 w0 st' ρ' act W → (∀ b, b ∈ as.map (·.1) → Off ρ' st'.mem b) → W.heap[w.heap.size + 1]? = some o →
      W.heap.size ≤ W'.heap.size → (∀ b, b < W.heap.size → (∀ a, a ∈ as → b ≠ a.1) → W'.heap[b]? = W.heap[b]?) → W'.os = W.os → W'.tape = W.tape → W'.output = W.output →
      Inv N ρ0 m0 w0 st' ρ' act W' ∧ W'.heap[w.heap.size + 1]? = some o := by
    intro st' ρ' o W W' hI ho hl hs hb h1 h2 h3
    refine ⟨hI.lies2 ⟨hs, fun b hS => hb b (hI.mem.S b hS) fun a ha e => (ho _ (hfst a ha)).1 (e ▸ hS), fun k hk => hb _ (hI.mem.live k hk).1 fun a ha e => (ho _ (hfst a ha)).2 k hk e⟩
      (fun b hb' hk => hb b (Nat.lt_of_lt_of_le hb' hI.ext.size) fun a ha e => ?_) h1 h2 h3, ?_⟩
    · rcases has0 _ (hfst a ha) with h | ⟨k0, h0, e0⟩
      · omega
      · exact hk k0 h0 (e0.trans e.symm)
    · rw [hb _ (Array.getElem?_eq_some_iff.1 hl).1 fun a ha e => ?_]
      · exact hl
      · have := haslt _ (hfst a ha)
        omega
  have main := hT (w.heap.size + 1) as W1 Jw Jx hasl hasn
    (fun i a0 v hi hv => by
      rw [has, List.getElem?_map] at hi
      cases hid : ids[i]? with
      | none => rw [hid] at hi; cases hi
      | some id =>
        rw [hid] at hi
        simp only [Option.map_some, Option.some.injEq] at hi
        subst hi
        obtain ⟨hm, hpl⟩ := hcg i id v hid hv
        obtain ⟨cur, hcur, hcell⟩ := hIa.mem.bk id _ hm
        obtain ⟨u, hu, hdu⟩ := hcell 0 _ rfl
        have hu' : u = v := by
          cases hdu with
          | val _ _ => rfl
          | no _ => simp [plainV] at hpl
        subst hu'
        exact ⟨by rw [hcur.cell]; simpa using hu, hcur.frozen (by have := (Array.getElem?_eq_some_iff.1 hu).1; simpa using this)⟩)
    (fun k W W' ⟨y, ρ', h1, h2, h3, h4, h5⟩ hs hb e1 e2 e3 => by
      obtain ⟨q1, q2⟩ := abide _ _ _ W W' h2 h4 h5 hs hb e1 e2 e3
      exact ⟨y, ρ', h1, q1, h3, h4, q2⟩)
    (fun W W' ⟨c, ex, st', ρ', h0, h2, h3, h4, h6, h5⟩ hs hb e1 e2 e3 => by
      obtain ⟨q1, q2⟩ := abide _ _ _ W W' h2 h4 h5 hs hb e1 e2 e3
      exact ⟨c, ex, st', ρ', h0, q1, h3, h4, h6, q2⟩)
    (fun k y W hk ⟨z, ρ', h1, h2, h3, h4, h5⟩ => by
      have hr := hround k y z hk h1
      have hrs := round_sound (iha _) (ihb _) (l := w.heap.size + 1) (n0 := 0) (rec0 := rec0) (act := act) (fn := fn) (p := p) (by rw [hrec]; exact ⟨rfl, rfl, rfl, rfl, hps, rfl, rfl⟩) h2 h5 h3
        (by have := hI.ext.size; omega) hr
      obtain ⟨f1, t1, a1, b1, hy, hR⟩ := hrs
      refine ⟨f1, t1, a1, b1, hy, hR.mono fun e W' hp => ?_⟩
      obtain ⟨ex, st', ρ3, jump, hK, hIn, he, hl, hj, hoth, hol, hsz⟩ := hp
      have hoc : ∀ b, b ∈ as.map (·.1) → Off ρ3 st'.mem b ∧ W'.heap[b]? = W.heap[b]? := fun b hb => by
        have hlt := haslt b hb
        have hlt2 : w.heap.size + 1 < W.heap.size := (Array.getElem?_eq_some_iff.1 h5).1
        exact hoth b (by omega) (by omega) (h4 b hb)
      rcases hj with ⟨rfl, rfl⟩ | ⟨rfl, rfl⟩ | ⟨id, rfl, rfl⟩
      · left
        obtain ⟨z', hz1, hz2⟩ := hK
        obtain ⟨ρ4, hIv, hov⟩ := hIn.view hM0 hz2
        refine ⟨he, ⟨z', ρ4, hz1, hIv, hov _ hol, fun b hb => hov b (hoc b hb).1, ?_⟩, hsz, fun a ha => (hoc a.1 (List.mem_map.2 ⟨a, ha, rfl⟩)).2⟩
        rw [hl, hrec]
        rfl
      · right
        exact ⟨he, .ret, .ret, _, ρ3, hK, hIn, hol, fun b hb => (hoc b hb).1, .inl ⟨rfl, rfl⟩, hl⟩
      · right
        exact ⟨he, .exit id, .exit id, _, ρ3, hK, hIn, hol, fun b hb => (hoc b hb).1, .inr ⟨id, rfl, rfl⟩, hl⟩)
    ⟨x0, ρ2, hJ0, hId, hofft _ hoffl, fun b hb => hofft b (hoffc b hb), hL1⟩
  refine ⟨w.heap.size + 1, [{ target := .collected w.heap.size, args := #[] }], W1, { target := .fn (.func gf) (capPtrs as).toArray, args := #[.func (.yield (w.heap.size + 1)) #[] #[]] }, W1, gf,
    #[.func (.yield (w.heap.size + 1)) #[] #[]] ++ (capPtrs as).toArray, W1, ?_, ?_, fun _ _ => trivial, ?_, by simp [Fence.wide], ?_⟩
  · rw [← hW1, hrec]; exact run_enterLoop_outer _ _ _ _ _
  · simp only [resolve, hv]
    simp [go_sem]
  · simp [invoke, callFunc, hgf, hgn', hgb']
  · refine main.mono fun e W' hp => ?_
    obtain ⟨⟨v, rfl⟩, hp⟩ := hp
    rcases hp with ⟨y, ρ', h1, h2, h3, h4, h5⟩ | ⟨c, ex, st', ρ', h0, h2, h3, h4, h6, h5⟩
    · refine ⟨none, _, by have := run_endLoop (P := P) h5 (by rw [hrec]; simp); rw [hrec] at this; exact this, ?_⟩
      exact ⟨.normal, S y, ρ', rfl, hdone y h1, h2.put h3 (by have := hI.ext.size; omega) _⟩
    · refine ⟨some c, _, by have := run_endLoop (P := P) h5 (by simp); exact this, ?_⟩
      have hput := h2.put h3 (by have := hI.ext.size; omega) (.loop { rec0 with state := .exhausted, pending := some c })
      rcases h6 with ⟨rfl, rfl⟩ | ⟨id, rfl, rfl⟩
      · exact wpIn_ret ⟨.ret, st', ρ', rfl, h0, hput⟩
      · exact wpIn_exit ⟨.exit id, st', ρ', rfl, h0, hput⟩

end
end Go.AM
