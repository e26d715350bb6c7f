import Derived.Test.YtbemknkbegkflaaAmF
set_option linter.unnecessarySimpa false
set_option linter.unusedVariables false
set_option linter.unusedSimpArgs false
namespace Go.AM
section
variable {P : Program} {ρ : Rho} {m : Mem} {w : World} {env : List CV} {a : Act} {K : CV → Mem → Prop}

theorem fadr_sound (hM : MemRel ρ m w) (hE : EnvRel ρ w env a.tmps) {t : TypeId} {fs : Array Field} {f : Field} {k n : Nat} {x : Operand} {x' : X}
    (hu : P.underlying t = some (.struct fs)) (hf : fs[k]? = some f) (hs : szOf P f.type = some n) (hn : n ≠ 0) (hx : lowX x = some x')
    (h : step P (.fadr f.offset x') env m K) : Res P (do pure (Next.value (← Instr.fieldAt t (a.eval x) k))) ρ m w K := by
  have hd := lowX_den hE hx
  simp only [step] at h
  have run : ∀ b off : Nat, (Instr.fieldAt t (.pointer (some ⟨b, off, none⟩)) k).run P w = .ok (.pointer (some ⟨b, off + f.offset, none⟩)) w := fun b off => by
    simp [Instr.fieldAt, run_underlying hu, hf, Instr.sureAddr, fieldPlace, run_szOf hs, hn, add_mk]
  generalize a.eval x = v at hd ⊢
  generalize x'.ev env = c at hd h
  split at h
  · obtain ⟨hlt, rfl⟩ := hd
    exact Res.pure hM (by rw [Sem.run_bind, run]; rfl) h ⟨hlt, by simp [Nat.add_assoc]⟩
  · obtain ⟨hlt, rfl⟩ := hd
    exact Res.pure hM (by rw [Sem.run_bind, run]; rfl) h ⟨hlt, by simp [Nat.add_assoc]⟩
  · obtain ⟨b, off, rfl, hS, hden⟩ := hd
    refine Res.pure hM (by rw [Sem.run_bind, run]; rfl) h ⟨b, off + f.offset, rfl, hS, fun j d hj => ?_⟩
    rw [List.getElem?_drop] at hj
    rw [Nat.add_assoc]
    exact hden _ d hj
  · exact h.elim

theorem part_run {t : TypeId} {agg : Bool} {off n : Nat} {cs l : List CC} {cells : Array Value} {cv : CV} (ha : aggOf P t = some agg) (hs : szOf P t = some n) (hc : Cells ρ w cs cells)
    (hr : readN cs off n = some l) (hm : mkR agg l = some cv) : ∃ u, (part t cells off).run P w = .ok u w ∧ DenV ρ w cv u := by
  obtain ⟨hl, hget⟩ := readN_spec hr
  unfold part
  rw [Sem.run_bind, run_aggOf ha]
  simp only [Result.andThen_ok]
  cases agg with
  | true =>
    simp [mkR] at hm
    subst hm
    refine ⟨.agg (cells.extract off (off + n)), by simp [run_szOf hs], ?_⟩
    refine den_agg ⟨?_, fun i c hi => ?_⟩
    · simp only [Array.size_extract, hl]
      rcases Nat.eq_zero_or_pos n with h0 | h0
      · omega
      · have := hget (n - 1) (by omega)
        have h1 : off + (n - 1) < cs.length := by
          rcases Nat.lt_or_ge (off + (n - 1)) cs.length with h | h
          · exact h
          · rw [List.getElem?_eq_none h, List.getElem?_eq_getElem (by omega)] at this; cases this
        have := hc.1
        omega
    · have hin : i < n := by rw [← hl]; exact (List.getElem?_eq_some_iff.1 hi).1
      obtain ⟨u, hu, hdu⟩ := hc.2 (off + i) c ((hget i hin).trans hi)
      have hlt := (Array.getElem?_eq_some_iff.1 hu).1
      refine ⟨u, ?_, hdu⟩
      rw [Array.getElem?_extract]
      rw [if_pos (by omega)]
      exact hu
  | false =>
    match l, hm with
    | [c], hm =>
      simp [mkR] at hm
      subst hm
      obtain ⟨u, hu, hdu⟩ := hc.2 off c (by have := hget 0 (by simp at hl; omega); simpa using this)
      exact ⟨u, by simp [hu], hdu⟩

theorem fld_sound (hM : MemRel ρ m w) (hE : EnvRel ρ w env a.tmps) {t : TypeId} {fs : Array Field} {f : Field} {k n : Nat} {agg : Bool} {x : Operand} {x' : X}
    (hu : P.underlying t = some (.struct fs)) (hf : fs[k]? = some f) (ha : aggOf P f.type = some agg) (hs : szOf P f.type = some n) (hx : lowX x = some x')
    (h : step P (.fld agg f.offset n x') env m K) : Res P (do pure (Next.value (← Instr.field t (a.eval x) k))) ρ m w K := by
  have hd := lowX_den hE hx
  simp only [step] at h
  generalize a.eval x = v at hd ⊢
  generalize x'.ev env = c at hd h
  split at h
  · rename_i cs
    obtain ⟨vs, rfl, hl, hc⟩ := hd
    obtain ⟨l, hr, h⟩ := ok_iff.1 h
    obtain ⟨cv, hm, hK⟩ := ok_iff.1 h
    obtain ⟨u, hrun, hdu⟩ := part_run (w := w) ha hs (cells := vs.toArray) ⟨by simpa using hl, fun i c hi => by simpa using hc i c hi⟩ hr hm
    refine Res.pure hM (v := u) ?_ hK hdu
    simp [Instr.field, run_underlying hu, hf, asAgg, hrun]
  · exact h.elim

theorem getZ_some {α : Type} {l : List α} {n : Int} {x : α} (h : getZ l n = some x) : ∃ k : Nat, n = k ∧ l[k]? = some x := by
  cases n with
  | ofNat k => exact ⟨k, rfl, by simpa [getZ, nth_eq] using h⟩
  | negSucc k => simp [getZ] at h
theorem idxZ_some {n : Int} {len k : Nat} (h : idxZ n len = some k) : n = k ∧ k < len := by
  cases n with
  | ofNat j =>
    simp only [idxZ] at h
    split at h
    · rename_i hb
      simp at h
      subst h
      exact ⟨rfl, by simpa [Nat.blt_eq] using hb⟩
    · cases h
  | negSucc j => simp [idxZ] at h
theorem getZ_mk {α : Type} {l : List α} {k : Nat} {x : α} (h : l[k]? = some x) : getZ l (k : Int) = some x := by
  simpa [getZ, nth_eq] using h
theorem idxZ_mk {len k : Nat} (h : k < len) : idxZ (k : Int) len = some k := by
  have hb : Nat.blt k len = true := by rw [Nat.blt_eq]; exact h
  show (match Nat.blt k len with | true => some k | false => none) = some k
  rw [hb]
theorem addN_eq (a b : Nat) : addN a b = a + b := by
  cases a <;> simp [addN]
theorem lenOf_eq (n lo : Nat) (hi : Option Nat) : lenOf n lo hi = hi.getD n - lo := by
  cases lo <;> cases hi <;> simp [lenOf]

theorem int_den {k : IntKind} {n : Int} {v : Value} (h : DenV ρ w (.rv (.one (.dat (.val (.int k n))))) v) : v = .int k n := (den_plain h).1

theorem run_indexAt_slice {t e : TypeId} {esz : Nat} (hu : P.underlying t = some (.slice e)) (hs : szOf P e = some esz) (b off len cap k : Nat) (kd : IntKind) (hk : k < len) :
    (Instr.indexAt t (.slice (some ⟨b, off, none⟩) len cap) (.int kd (k : Int))).run P w = .ok (.pointer (some ⟨b, off + k * esz, none⟩)) w := by
  have h1 : (0 : Int) ≤ (k : Int) ∧ (k : Int) < (len : Int) := ⟨by omega, by omega⟩
  simp [Instr.indexAt, asIntOf, run_underlying hu, run_szOf hs, add_mk]
  omega

theorem idx_sound (hM : MemRel ρ m w) (hE : EnvRel ρ w env a.tmps) {t e : TypeId} {esz : Nat} {x i : Operand} {x' i' : X}
    (hu : P.underlying t = some (.slice e)) (hs : szOf P e = some esz) (hx : lowX x = some x') (hi : lowX i = some i')
    (h : step P (.idx esz x' i') env m K) : Res P (do pure (Next.value (← Instr.indexAt t (a.eval x) (a.eval i)))) ρ m w K := by
  have hd := lowX_den hE hx
  have hdi := lowX_den hE hi
  simp only [step] at h
  generalize a.eval x = v at hd ⊢
  generalize a.eval i = vi at hdi ⊢
  generalize x'.ev env = c at hd h
  generalize i'.ev env = ci at hdi h
  split at h
  · rename_i kd n
    obtain rfl := int_den hdi
    split at h
    · rename_i esz' elems
      rcases bB_iff.1 h with ⟨he, g1⟩ | ⟨_, g1⟩
      case inr => exact g1.elim
      have he : esz = esz' := Nat.eq_of_beq_eq_true he
      subst he
      obtain ⟨ds, hg, hK⟩ := ok_iff.1 g1
      obtain ⟨k, rfl, hk⟩ := getZ_some hg
      have hlt := (List.getElem?_eq_some_iff.1 hk).1
      cases hd with
      | nil => simp at hlt
      | sl _ _ b off cap u hS hl hcap hsz hc hden =>
        refine Res.pure hM (by rw [Sem.run_bind, run_indexAt_slice hu hs b off _ cap k kd hlt]; rfl) hK ⟨b, off + k * esz, rfl, hS, fun j d hj => ?_⟩
        exact ⟨_, hc k ds j d hk hj, hden k ds j d hk hj⟩
    · rename_i id esz' lo hi
      obtain ⟨bk, hb, h⟩ := ok_iff.1 h
      rw [nth_eq] at hb
      cases bk <;> simp only at h
      rename_i esz2 elems
      rcases bB_iff.1 h with ⟨he, g1⟩ | ⟨_, g1⟩
      case inr => exact g1.elim
      rcases bB_iff.1 g1 with ⟨he2, g2⟩ | ⟨_, g2⟩
      case inr => exact g2.elim
      have he : esz = esz' := Nat.eq_of_beq_eq_true he
      subst he
      obtain ⟨k, hg, hK⟩ := ok_iff.1 g2
      obtain ⟨rfl, hk⟩ := idxZ_some hg
      obtain ⟨h2, h3, h4, h5, hcu⟩ := hM.bk id _ hb
      obtain ⟨hlt, d1, d2, d3, d4, ad, rfl, had⟩ := hd
      rw [lenOf_eq, h2] at hk
      rw [had (by clear hcu; omega)]
      refine Res.pure hM (by rw [Sem.run_bind, run_indexAt_slice hu hs _ _ _ _ k kd hk]; rfl) hK ⟨hlt, ?_⟩
      rw [addN_eq, Nat.add_mul]
      simp [Nat.add_assoc]
    · exact h.elim
  · exact h.elim

theorem run_indexAt_array {t e : TypeId} {esz len : Nat} (hu : P.underlying t = some (.array len e)) (hs : szOf P e = some esz) (b off k : Nat) (kd : IntKind) (hk : k < len) :
    (Instr.indexAt t (.pointer (some ⟨b, off, none⟩)) (.int kd (k : Int))).run P w = .ok (.pointer (some ⟨b, off + k * esz, none⟩)) w := by
  have h1 : (0 : Int) ≤ (k : Int) ∧ (k : Int) < (len : Int) := ⟨by omega, by omega⟩
  simp [Instr.indexAt, asIntOf, run_underlying hu, run_szOf hs, add_mk, Instr.sureAddr]
  omega

theorem idxa_sound (hM : MemRel ρ m w) (hE : EnvRel ρ w env a.tmps) {t e : TypeId} {len esz : Nat} {x i : Operand} {x' i' : X}
    (hu : P.underlying t = some (.array len e)) (hs : szOf P e = some esz) (hx : lowX x = some x') (hi : lowX i = some i')
    (h : step P (.idxa len esz x' i') env m K) : Res P (do pure (Next.value (← Instr.indexAt t (a.eval x) (a.eval i)))) ρ m w K := by
  have hd := lowX_den hE hx
  have hdi := lowX_den hE hi
  simp only [step] at h
  generalize a.eval x = v at hd ⊢
  generalize a.eval i = vi at hdi ⊢
  generalize x'.ev env = c at hd h
  generalize i'.ev env = ci at hdi h
  split at h
  · rename_i kd n
    obtain rfl := int_den hdi
    split at h
    · obtain ⟨k, hg, hK⟩ := ok_iff.1 h
      obtain ⟨rfl, hk⟩ := idxZ_some hg
      obtain ⟨hlt, rfl⟩ := hd
      exact Res.pure hM (by rw [Sem.run_bind, run_indexAt_array hu hs _ _ k kd hk]; rfl) hK ⟨hlt, by simp [Nat.add_assoc]⟩
    · obtain ⟨k, hg, hK⟩ := ok_iff.1 h
      obtain ⟨rfl, hk⟩ := idxZ_some hg
      obtain ⟨hlt, rfl⟩ := hd
      exact Res.pure hM (by rw [Sem.run_bind, run_indexAt_array hu hs _ _ k kd hk]; rfl) hK ⟨hlt, by simp [Nat.add_assoc]⟩
    · obtain ⟨k, hg, hK⟩ := ok_iff.1 h
      obtain ⟨rfl, hk⟩ := idxZ_some hg
      obtain ⟨b, off, rfl, hS, hden⟩ := hd
      refine Res.pure hM (by rw [Sem.run_bind, run_indexAt_array hu hs _ _ k kd hk]; rfl) hK ⟨b, off + k * esz, rfl, hS, fun j d hj => ?_⟩
      rw [List.getElem?_drop] at hj
      rw [Nat.add_assoc]
      exact hden _ d hj
    · exact h.elim
  · exact h.elim

theorem sidx_sound (hM : MemRel ρ m w) (hE : EnvRel ρ w env a.tmps) {t : TypeId} {x i : Operand} {x' i' : X}
    (hu : P.underlying t = some .string) (hx : lowX x = some x') (hi : lowX i = some i')
    (h : step P (.sidx x' i') env m K) : Res P (do pure (Next.value (← Instr.index t (a.eval x) (a.eval i)))) ρ m w K := by
  have hd := lowX_den hE hx
  have hdi := lowX_den hE hi
  simp only [step] at h
  generalize a.eval x = v at hd ⊢
  generalize a.eval i = vi at hdi ⊢
  generalize x'.ev env = c at hd h
  generalize i'.ev env = ci at hdi h
  split at h
  · rename_i kd n
    obtain rfl := int_den hdi
    split at h
    · rename_i s
      obtain ⟨rfl, _⟩ := den_plain hd
      obtain ⟨b, hg, hK⟩ := ok_iff.1 h
      obtain ⟨k, rfl, hk⟩ := getZ_some hg
      have hlt : k < s.size := by have := (List.getElem?_eq_some_iff.1 hk).1; simpa using this
      have hs : s[k]? = some b := by
        rw [List.getElem?_eq_getElem (by simpa using hlt)] at hk
        simp at hk
        rw [getElem?_pos s k hlt]
        simp [← hk]
        rfl
      refine Res.pure hM (v := .int .u8 b.toNat) ?_ hK (den_mkPlain rfl)
      simp [Instr.index, asIntOf, run_underlying hu, hs]
    · exact h.elim
  · exact h.elim

theorem bin_sound (hM : MemRel ρ m w) (hE : EnvRel ρ w env a.tmps) {op : BinOp} {t : TypeId} {x y : Operand} {x' y' : X} (hx : lowX x = some x') (hy : lowX y = some y')
    (h : step P (.bin op x' y') env m K) : Res P (do let v ← (do eqGuard op t x y (a.eval x) (a.eval y); binOp op t (a.eval x) (a.eval y)); pure (Next.value v)) ρ m w K := by
  have hd := lowX_den hE hx
  have hdy := lowX_den hE hy
  simp only [step] at h
  generalize a.eval x = v at hd ⊢
  generalize a.eval y = u at hdy ⊢
  generalize x'.ev env = c at hd h
  generalize y'.ev env = d at hdy h
  split at h
  · split at h
    · obtain ⟨r, hr, hK⟩ := ok_iff.1 h
      obtain ⟨rfl, hp⟩ := den_plain hd (fun e => by subst e; simp [binV] at hr)
      obtain ⟨rfl, hq⟩ := den_plain hdy (fun e => by subst e; cases v <;> simp [binV] at hr)
      obtain ⟨h1, h2⟩ := binV_sound (P := P) (w := w) hr (t := t)
      refine Res.pure hM (v := r) ?_ hK (den_mkPlain h2)
      have hg : (eqGuard op t x y v u).run P w = .ok () w := eqGuard_one hp (by rintro rfl; cases u <;> simp [binV] at hr)
      simp only [Sem.run_bind, hg, Result.andThen_ok, h1, Sem.run_pure]
    · exact h.elim
  · exact h.elim

theorem beq_sound (hM : MemRel ρ m w) (hE : EnvRel ρ w env a.tmps) {neg : Bool} {t : TypeId} {x y : Operand} {x' y' : X} (ht : P.underlying t = some .bool) (hx : lowX x = some x') (hy : lowX y = some y')
    (h : step P (.beq neg x' y') env m K) : Res P (do let v ← (do eqGuard (if neg then .neq else .eql) t x y (a.eval x) (a.eval y); binOp (if neg then .neq else .eql) t (a.eval x) (a.eval y)); pure (Next.value v)) ρ m w K := by
  have hd := lowX_den hE hx
  have hdy := lowX_den hE hy
  simp only [step] at h
  generalize a.eval x = v at hd ⊢
  generalize a.eval y = u at hdy ⊢
  generalize x'.ev env = c at hd h
  generalize y'.ev env = d at hdy h
  split at h
  · split at h
    · obtain ⟨rfl, hp⟩ := den_plain hd
      obtain ⟨rfl, hq⟩ := den_plain hdy
      refine Res.pure hM (v := _) ?_ h (den_mkPlain rfl)
      rw [Sem.run_bind, Sem.run_bind, eqGuard_one hp (by simp)]
      simp only [Result.andThen_ok, run_beq ht, Sem.run_pure]
      rfl
    · exact h.elim
  · exact h.elim

theorem un_sound (hM : MemRel ρ m w) (hE : EnvRel ρ w env a.tmps) {op : UnOp} {x : Operand} {x' : X} (hx : lowX x = some x')
    (h : step P (.un op x') env m K) : Res P (do pure (Next.value (← Op.unary op (a.eval x)))) ρ m w K := by
  have hd := lowX_den hE hx
  simp only [step] at h
  generalize a.eval x = v at hd ⊢
  generalize x'.ev env = c at hd h
  split at h
  · obtain ⟨r, hr, hK⟩ := ok_iff.1 h
    obtain ⟨rfl, hp⟩ := den_plain hd (fun e => by subst e; simp [unV] at hr)
    obtain ⟨h1, h2⟩ := unV_sound (P := P) (w := w) hr
    exact Res.pure hM (v := r) (by rw [Sem.run_bind, h1]; rfl) hK (den_mkPlain h2)
  · exact h.elim

theorem conv_sound (hM : MemRel ρ m w) (hE : EnvRel ρ w env a.tmps) {s d : TypeId} {k0 k : IntKind} {x : Operand} {x' : X} (hs : P.underlying s = some (.int k0)) (hk : P.underlying d = some (.int k)) (hx : lowX x = some x')
    (h : step P (.conv k x') env m K) : Res P (do pure (Next.value (← convert s d (a.eval x)))) ρ m w K := by
  have hd := lowX_den hE hx
  simp only [step] at h
  generalize a.eval x = v at hd ⊢
  generalize x'.ev env = c at hd h
  split at h
  · obtain rfl := int_den hd
    refine Res.pure hM (v := _) ?_ h (den_mkPlain rfl)
    simp [convert, run_underlying hs, run_underlying hk, Conv.intToInt]
  · exact h.elim

theorem idc_sound (hM : MemRel ρ m w) (hE : EnvRel ρ w env a.tmps) {s d : TypeId} {x : Operand} {x' : X} (hs : P.underlying s = some .string) (hk : P.underlying d = some .string) (hx : lowX x = some x')
    (h : step P (.idc x') env m K) : Res P (do pure (Next.value (← convert s d (a.eval x)))) ρ m w K := by
  have hd := lowX_den hE hx
  simp only [step] at h
  generalize a.eval x = v at hd ⊢
  generalize x'.ev env = c at hd h
  split at h
  · obtain ⟨rfl, hp⟩ := den_plain hd
    refine Res.pure hM (v := _) ?_ h (den_mkPlain rfl)
    simp [convert, run_underlying hs, run_underlying hk]
  · exact h.elim

theorem lowXs_den (hE : EnvRel ρ w env a.tmps) : ∀ {xs : List Operand} {xs' : List X}, lowXs xs = some xs' → (evs env xs').length = xs.length ∧
    ∀ (i : Nat) c, (evs env xs')[i]? = some c → ∃ v, (xs.map a.eval)[i]? = some v ∧ DenV ρ w c v
  | [], xs', h => by simp [lowXs] at h; subst h; simp [evs]
  | x :: r, xs', h => by
    simp only [lowXs, Option.bind_eq_bind, Option.bind_eq_some_iff] at h
    obtain ⟨x', hx, r', hr, h⟩ := h
    simp at h
    subst h
    obtain ⟨h1, h2⟩ := lowXs_den hE hr
    refine ⟨by simp [evs, h1], fun i c hi => ?_⟩
    cases i with
    | zero => simp [evs] at hi; subst hi; exact ⟨_, by simp, lowX_den hE hx⟩
    | succ i => simpa using h2 i c (by simpa [evs] using hi)

theorem capsOf_spec : ∀ {cs : List CV} {ids : List Nat}, capsOf cs = some ids → cs = ids.map fun id => CV.rv (.one (.ptr id 0))
  | [], ids, h => by simp [capsOf] at h; subst h; rfl
  | c :: r, ids, h => by
    unfold capsOf at h
    split at h
    · rename_i h1; simp at h1
    · rename_i id r' h1
      simp only [List.cons.injEq] at h1
      obtain ⟨rfl, rfl⟩ := h1
      split at h
      · rename_i l hl
        simp at h
        subst h
        rw [capsOf_spec hl]
        rfl
      · cases h
    · cases h

theorem capArgs_eq : ∀ ids : List Nat, capArgs ids = ids.map fun id => CV.rv (.one (.ptr id 0))
  | [] => rfl
  | id :: r => by simp [capArgs, capArgs_eq r]

theorem fn_sound (hM : MemRel ρ m w) (hE : EnvRel ρ w env a.tmps) {f : Nat} {xs : Array Operand} {xs' : List X} (hx : lowXs xs.toList = some xs')
    (h : step P (.fn f xs') env m K) : Res P (do pure (Next.value (← Instr.makeFunc (.func f) ((#[] : Array Operand).map a.eval) (xs.map a.eval)))) ρ m w K := by
  simp only [step] at h
  obtain ⟨ids, hi, hK⟩ := ok_iff.1 h
  obtain ⟨h1, h2⟩ := lowXs_den hE hx
  rw [capsOf_spec hi] at h1 h2
  refine Res.pure hM (v := .func (.func f) #[] (xs.map a.eval)) (by simp [Instr.makeFunc]) hK ⟨fun id hid => ?_, ?_⟩
  · obtain ⟨k, hk, rfl⟩ := List.getElem_of_mem hid
    obtain ⟨v, _, hd⟩ := h2 k _ (by rw [List.getElem?_map, List.getElem?_eq_getElem hk]; rfl)
    exact hd.1
  · congr 1
    apply Array.ext'
    rw [Array.toList_map]
    apply List.ext_getElem?
    intro k
    simp only [List.length_map] at h1
    rcases Nat.lt_or_ge k ids.length with hk | hk
    · obtain ⟨v, hv, hd⟩ := h2 k _ (by rw [List.getElem?_map, List.getElem?_eq_getElem hk]; rfl)
      rw [hv, hd.2]
      simp [List.getElem?_eq_getElem hk]
    · rw [List.getElem?_eq_none (by simp; rw [← Array.length_toList, ← h1]; exact hk), List.getElem?_eq_none (by simpa using hk)]

theorem ext_sound (hM : MemRel ρ m w) (hE : EnvRel ρ w env a.tmps) {i : Nat} {x : Operand} {x' : X} (hx : lowX x = some x')
    (h : step P (.ext x' i) env m K) : Res P (do pure (Next.value (← Instr.extract (a.eval x) i))) ρ m w K := by
  have hd := lowX_den hE hx
  simp only [step] at h
  generalize a.eval x = v at hd ⊢
  generalize x'.ev env = c at hd h
  split at h
  · obtain ⟨r, hr, hK⟩ := ok_iff.1 h
    rw [nth_eq] at hr
    obtain ⟨vs, rfl, hl, hc⟩ := hd
    obtain ⟨u, hu, hdu⟩ := hc i r hr
    refine Res.pure hM (v := u) ?_ hK hdu
    simp [Instr.extract, hu]
  · exact h.elim

theorem len_sound (hM : MemRel ρ m w) (hE : EnvRel ρ w env a.tmps) {t ty : TypeId} {x : Operand} {x' : X} {k : Nat}
    (hu : (k = 0 ∧ P.underlying t = some .string) ∨ (k = 1 ∧ ∃ e, P.underlying t = some (.slice e)) ∨ (k = 2 ∧ ∃ kt e, P.underlying t = some (.map kt e))) (hx : lowX x = some x')
    (h : step P (.len k x') env m K) : Res P (do pure (Next.value (← Builtin.len_ #[t] ty #[a.eval x]))) ρ m w K := by
  have hd := lowX_den hE hx
  generalize a.eval x = v at hd ⊢
  rcases hu with ⟨rfl, hu⟩ | ⟨rfl, e, hu⟩ | ⟨rfl, kt, e, hu⟩
  · simp only [step] at h
    generalize x'.ev env = c at hd h
    split at h
    · obtain ⟨rfl, hp⟩ := den_plain hd
      refine Res.pure hM (v := _) ?_ h (den_mkPlain rfl)
      simp [Builtin.len_, run_underlying hu, goInt]
    · exact h.elim
  · simp only [step] at h
    generalize x'.ev env = c at hd h
    split at h
    · rename_i esz elems
      refine Res.pure hM (v := .int .i64 (elems.length : Int)) ?_ h (den_mkPlain rfl)
      cases hd <;> simp [Builtin.len_, run_underlying hu, goInt]
    · rename_i id esz lo hi
      obtain ⟨bk, hb, h⟩ := ok_iff.1 h
      rw [nth_eq] at hb
      cases bk <;> simp only at h
      rename_i esz' elems
      obtain ⟨h2, h3, h4, h5, hcu⟩ := hM.bk id _ hb
      obtain ⟨hlt, d1, d2, d3, d4, ad, rfl, had⟩ := hd
      rw [lenOf_eq, h2] at h
      refine Res.pure hM (v := _) ?_ h (den_mkPlain rfl)
      simp [Builtin.len_, run_underlying hu, goInt]
    · obtain ⟨ad, rfl⟩ := hd
      refine Res.pure hM (v := _) ?_ h (den_mkPlain rfl)
      simp [Builtin.len_, run_underlying hu, goInt]
    · exact h.elim
  · simp only [step] at h
    generalize x'.ev env = c at hd h
    split at h
    · rename_i id
      obtain ⟨bk, hb, h⟩ := ok_iff.1 h
      rw [nth_eq] at hb
      cases bk <;> simp only at h
      rename_i es
      obtain ⟨es', clock, hheap, hsz, hent⟩ := hM.bk id _ hb
      obtain ⟨hlt, rfl⟩ := hd
      refine Res.pure hM (v := .int .i64 (es.length : Int)) ?_ h (den_mkPlain rfl)
      simp [Builtin.len_, run_underlying hu, goInt, getObj, Sem.run, hheap, hsz]
    · exact h.elim

theorem nilc_sound (hM : MemRel ρ m w) (hE : EnvRel ρ w env a.tmps) {x : Operand} {x' : X} {o : Oper} (ho : o.op = .nilCheck x) (hx : lowX x = some x')
    (h : step P (.nilc x') env m K) : Res P (execOp a.eval o) ρ m w K := by
  have hd := lowX_den hE hx
  simp only [step] at h
  unfold execOp
  rw [ho]
  simp only
  generalize a.eval x = v at hd ⊢
  generalize x'.ev env = c at hd h
  split at h
  · have hd0 := hd
    obtain ⟨hlt, rfl⟩ := hd
    exact Res.pure hM rfl h hd0
  · have hd0 := hd
    obtain ⟨hlt, rfl⟩ := hd
    exact Res.pure hM rfl h hd0
  · have hd0 := hd
    obtain ⟨b, off, rfl, _⟩ := hd
    exact Res.pure hM rfl h hd0
  · exact h.elim

theorem pick_sound (hM : MemRel ρ m w) (hE : EnvRel ρ w env a.tmps) {c x y : Operand} {c' x' y' : X} (hc : lowX c = some c') (hx : lowX x = some x') (hy : lowX y = some y')
    (h : step P (.pick c' x' y') env m K) : Res P (do pure (Next.value (if ← asBool (a.eval c) then a.eval x else a.eval y))) ρ m w K := by
  have hd := lowX_den hE hc
  simp only [step] at h
  generalize a.eval c = v at hd ⊢
  generalize c'.ev env = cc at hd h
  split at h
  · obtain ⟨rfl, hp⟩ := den_plain hd
    rcases bB_iff.1 h with ⟨rfl, h⟩ | ⟨rfl, h⟩
    · exact Res.pure hM (v := a.eval x) (by simp [asBool]) h (lowX_den hE hx)
    · exact Res.pure hM (v := a.eval y) (by simp [asBool]) h (lowX_den hE hy)
  · exact h.elim

theorem repl_get {α : Type} {n i : Nat} {x y : α} (h : (repl n x)[i]? = some y) : y = x ∧ i < n := by
  rw [repl_eq, List.getElem?_replicate] at h
  split at h
  · exact ⟨by simpa using h.symm, by assumption⟩
  · cases h

/-- rows laid one behind the other -/
def RowsAt (ρ : Rho) (w : World) (esz : Nat) (rows : List (List CC)) (cells : Array Value) : Prop :=
  cells.size = rows.length * esz ∧ (∀ cs, cs ∈ rows → cs.length = esz) ∧
    ∀ (i : Nat) cs (j : Nat) c, rows[i]? = some cs → cs[j]? = some c → ∃ u, cells[i * esz + j]? = some u ∧ DenC ρ w .none c u

theorem fillR_sound (hE : EnvRel ρ w env a.tmps) {esz : Nat} :
    ∀ {ps : List (Nat × Operand)} {ps' : List (Nat × X)} {rows rows' : List (List CC)} {cells : Array Value}, lowPartsS ps = some ps' → fillR env esz rows ps' = some rows' → RowsAt ρ w esz rows cells →
      ∃ cells', Instr.fill (fun i => some (i * esz, esz)) cells (ps.map fun p => (p.1, a.eval p.2)) = some cells' ∧ RowsAt ρ w esz rows' cells' ∧ rows'.length = rows.length
  | [], ps', z, z', cells, hp, hf, hz => by
    simp [lowPartsS] at hp; subst hp
    simp [fillR] at hf; subst hf
    exact ⟨cells, rfl, hz, rfl⟩
  | (i, x) :: r, ps', z, z', cells, hp, hf, hz => by
    simp only [lowPartsS, Option.bind_eq_bind, Option.bind_eq_some_iff] at hp
    obtain ⟨x', hx, r', hr, hp⟩ := hp
    simp at hp
    subst hp
    simp only [fillR] at hf
    split at hf
    · rename_i cs hcs
      split at hf
      · rename_i hlen
        simp only [Bool.and_eq_true, Nat.blt_eq] at hlen
        have hl : cs.length = esz := Nat.eq_of_beq_eq_true hlen.1
        obtain ⟨h1, h2, _⟩ := cellsOf_den hcs (lowX_den hE hx)
        have hsz : i * esz + esz ≤ cells.size := by
          rw [hz.1]
          have : (i + 1) * esz ≤ z.length * esz := Nat.mul_le_mul_right _ hlen.2
          rwa [Nat.add_mul, Nat.one_mul] at this
        have hff := foldl_set (i * esz) (a.eval x).cells.toList 0 cells
        simp only [Nat.add_zero] at hff
        have he : (a.eval x).cells.zipIdx.foldl (fun cs (p : Value × Nat) => cs.setIfInBounds (i * esz + p.2) p.1) cells = ((a.eval x).cells.toList.zipIdx 0).foldl (fun (cs : Array Value) (p : Value × Nat) => cs.setIfInBounds (i * esz + p.2) p.1) cells := by
          rw [← Array.foldl_toList]; simp
        have hfill : Instr.fill (fun i => some (i * esz, esz)) cells ((i, a.eval x) :: r.map fun p => (p.1, a.eval p.2)) =
            Instr.fill (fun i => some (i * esz, esz)) ((a.eval x).cells.zipIdx.foldl (fun cs (p : Value × Nat) => cs.setIfInBounds (i * esz + p.2) p.1) cells) (r.map fun p => (p.1, a.eval p.2)) := by
          rw [Instr.fill]
          simp only
          rw [if_neg (by rw [h1, hl]; simp; omega)]
        have hrows : RowsAt ρ w esz (setN z i cs) ((a.eval x).cells.zipIdx.foldl (fun cs (p : Value × Nat) => cs.setIfInBounds (i * esz + p.2) p.1) cells) := by
          rw [he, setN_eq]
          refine ⟨by rw [hff.1, hz.1]; simp, fun cs' hcs' => ?_, fun i' cs' j c hi' hj => ?_⟩
          · rcases List.mem_or_eq_of_mem_set hcs' with hm | rfl
            · exact hz.2.1 cs' hm
            · exact hl
          · have hlen2 : (a.eval x).cells.toList.length = esz := by simp [h1, hl]
            rw [hff.2 (by rw [hlen2]; exact hsz), hlen2]
            by_cases hii : i = i'
            · subst hii
              rw [List.getElem?_set_self hlen.2] at hi'
              simp only [Option.some.injEq] at hi'
              subst hi'
              have hj2 : j < esz := by rw [← hl]; exact (List.getElem?_eq_some_iff.1 hj).1
              rw [if_pos (by omega)]
              obtain ⟨u, hu, hdu⟩ := h2 j c hj
              exact ⟨u, by rw [show i * esz + j - i * esz = j by omega]; simpa using hu, hdu⟩
            · rw [List.getElem?_set_ne hii] at hi'
              have hj2 : j < esz := by rw [← hz.2.1 _ (List.mem_of_getElem? hi')]; exact (List.getElem?_eq_some_iff.1 hj).1
              rw [if_neg]
              · exact hz.2.2 i' cs' j c hi' hj
              · rcases Nat.lt_or_gt_of_ne hii with hlt' | hlt'
                · have : (i + 1) * esz ≤ i' * esz := Nat.mul_le_mul_right _ hlt'
                  rw [Nat.add_mul, Nat.one_mul] at this
                  omega
                · have : (i' + 1) * esz ≤ i * esz := Nat.mul_le_mul_right _ hlt'
                  rw [Nat.add_mul, Nat.one_mul] at this
                  omega
        obtain ⟨cells', h3, h4, h5⟩ := fillR_sound hE hr hf hrows
        exact ⟨cells', by rw [List.map_cons, hfill, h3], h4, by rw [h5, setN_eq]; simp⟩
      · cases hf
    · cases hf

theorem range_zero (zero : Array Value) (n : Nat) (k : Nat) (hk : k < n) (hz : 0 < zero.size) : ((Array.range n).map (zero[· % zero.size]!))[k]? = zero[k % zero.size]? := by
  have : k % zero.size < zero.size := Nat.mod_lt _ hz
  simp [hk, this]

theorem bsl_sound (hM : MemRel ρ m w) (hE : EnvRel ρ w env a.tmps) {t e : TypeId} {n : Nat} {ps : Array (Nat × Operand)} {z : List CC} {ps' : List (Nat × X)}
    (hu : P.underlying t = some (.slice e)) (hz : zeroOf P e = some z) (hs : szOf P e = some z.length) (hpos : 0 < z.length) (hn : n * z.length ≤ 2 ^ 24) (hp : lowPartsS ps.toList = some ps')
    (h : step P (.bsl z.length z n ps') env m K) : Res P (do pure (Next.value (← Instr.buildSlice t n (ps.map fun (i, x) => (i, a.eval x))))) ρ m w K := by
  simp only [step] at h
  obtain ⟨rows, hf, hK⟩ := ok_iff.1 h
  rw [force_eq, lenK_eq, app2_eq] at hK
  obtain ⟨zv, hzr, hzc⟩ := zeroOf_run (ρ := ρ) (w := w) hz
  have hzsz : zv.cells.size = z.length := hzc.1
  have h0 : RowsAt ρ w z.length (repl n z) ((Array.range (n * z.length)).map (zv.cells[· % zv.cells.size]!)) := by
    refine ⟨by simp [repl_eq], fun cs hcs => ?_, fun i cs j c hi hj => ?_⟩
    · rw [repl_eq] at hcs; rw [List.eq_of_mem_replicate hcs]
    · obtain ⟨rfl, hin⟩ := repl_get hi
      have hj2 := (List.getElem?_eq_some_iff.1 hj).1
      have hlt : i * cs.length + j < n * cs.length := by
        have : (i + 1) * cs.length ≤ n * cs.length := Nat.mul_le_mul_right _ hin
        rw [Nat.add_mul, Nat.one_mul] at this
        omega
      rw [range_zero _ _ _ hlt (by omega), hzsz, Nat.mul_comm i, Nat.mul_add_mod, Nat.mod_eq_of_lt hj2]
      exact hzc.2 j c hj
  obtain ⟨cells, h1, h2, h3⟩ := fillR_sound hE hp hf h0
  have hlen : rows.length = n := by rw [h3, repl_eq]; simp
  obtain ⟨ρ', g1, g2, g3⟩ := push_row hM (ty := e) (cap := n) (cells := cells) (elems := rows) (w' := w.alloc (.cells cells e)) (.inl rfl) (by rw [h2.1, hlen]; exact Nat.le_refl _) (by omega) (by
    unfold maxLen
    have : n * 1 ≤ n * z.length := Nat.mul_le_mul_left _ hpos
    omega) h2.2.1 h2.2.2
  rw [hlen] at g3
  refine ⟨_, _, _, _, _, ρ', ?_, .inl rfl, hK, g1, g3, g2⟩
  have hfill : Instr.fill (fun i => some (i * z.length, z.length)) ((Array.range (n * z.length)).map (zv.cells[· % zv.cells.size]!)) (ps.map fun (i, x) => (i, a.eval x)).toList = some cells := by simpa using h1
  rcases Nat.eq_zero_or_pos n with hn0 | hn0
  · subst hn0
    have e0 : ∀ zz : Array Value, ((Array.range (0 * z.length)).map (zz[· % zz.size]!)) = #[] := by intro zz; simp
    rw [e0] at hfill
    simp only [Instr.buildSlice, Sem.run_bind, run_underlying hu, Result.andThen_ok, run_szOf hs]
    rw [if_neg (by omega), if_pos (by simp)]
    simp only [Sem.run_pure, Result.andThen_ok, e0, hfill]
    simp [newRow]
  · have hne : n * z.length ≠ 0 := Nat.ne_of_gt (Nat.mul_pos hn0 hpos)
    simp only [Instr.buildSlice, Sem.run_bind, run_underlying hu, Result.andThen_ok, run_szOf hs]
    rw [if_neg (by omega), if_neg hne]
    simp only [Sem.run_bind, hzr, Result.andThen_ok, Sem.run_pure, hfill]
    simp [newRow]
end
end Go.AM
