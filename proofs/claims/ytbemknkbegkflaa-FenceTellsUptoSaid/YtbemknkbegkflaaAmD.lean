import Derived.Test.YtbemknkbegkflaaAmC
set_option linter.unusedSimpArgs false
set_option linter.unnecessarySimpa false
set_option linter.unusedVariables false
/-! What an instruction does in the abstract it does in the world: the readers. -/
namespace Go.AM

structure EnvRel (ρ : Rho) (w : World) (env : List CV) (tmps : Array Value) : Prop where
  size : tmps.size = env.length
  den : ∀ (i : Nat) c, env[i]? = some c → ∃ v, tmps[i]? = some v ∧ DenV ρ w c v

section
variable {P : Program} {ρ : Rho} {m : Mem} {w : World} {env : List CV} {a : Act}

theorem EnvRel.get (hE : EnvRel ρ w env a.tmps) (t : Nat) : DenV ρ w (getE env t) (a.tmps.getD t Go.undef) := by
  rw [getE_eq]
  cases h : env[t]? with
  | none => trivial
  | some c =>
    obtain ⟨v, hv, hd⟩ := hE.den t c h
    simpa [Array.getD_eq_getD_getElem?, hv] using hd

theorem constC_den {v : Value} {c : CC} (h : constC v = some c) : DenC ρ w .none c v := by
  unfold constC at h
  split at h
  · simp at h; subst h; exact ⟨none, rfl⟩
  · split at h
    · rename_i hp
      simp at h; subst h
      exact DenD.val _ hp
    · cases h

theorem lowX_den (hE : EnvRel ρ w env a.tmps) {x : Operand} {x' : X} (h : lowX x = some x') : DenV ρ w (x'.ev env) (a.eval x) := by
  cases x with
  | tmp t => simp [lowX] at h; subst h; exact hE.get t
  | const v =>
    simp only [lowX, Option.map_eq_some_iff] at h
    obtain ⟨c, hc, rfl⟩ := h
    exact constC_den hc
  | func f => simp [lowX] at h; subst h; exact ⟨by simp, rfl⟩
  | global g => simp [lowX] at h

theorem run_szOf {t : TypeId} {n : Nat} (h : szOf P t = some n) : (sizeOf t).run P w = .ok n w := by
  simp only [szOf, Option.map_eq_some_iff] at h
  obtain ⟨i, hi, rfl⟩ := h
  simp [sizeOf, typeInfo, hi]
theorem run_aggOf {t : TypeId} {b : Bool} (h : aggOf P t = some b) : (isAgg t).run P w = .ok b w := by
  simp only [aggOf, Option.map_eq_some_iff] at h
  obtain ⟨d, hd, rfl⟩ := h
  simp only [isAgg, Sem.run_bind, run_underlying hd, Result.andThen_ok]
  cases d <;> rfl

theorem add_mk (b off j : Nat) : (⟨b, off, none⟩ : Addr).add j = ⟨b, off + j, none⟩ := by
  unfold Addr.add; split <;> simp_all

/-- cells that stand one behind the other -/
def CellsAt (ρ : Rho) (w : World) (b off : Nat) (l : List CC) : Prop :=
  ∀ (i : Nat) c, l[i]? = some c → ∃ u, w.cell? ⟨b, off + i, none⟩ = some u ∧ DenC ρ w .none c u

theorem CellsAt.list : ∀ {l : List CC} {b off : Nat}, CellsAt ρ w b off l →
    ∃ vs : List Value, vs.length = l.length ∧ (∀ j v, vs[j]? = some v → w.cell? ((⟨b, off, none⟩ : Addr).add j) = some v) ∧ (∀ (i : Nat) c, l[i]? = some c → ∃ u, vs[i]? = some u ∧ DenC ρ w .none c u)
  | [], b, off, h => ⟨[], rfl, by simp, by simp⟩
  | c :: l, b, off, h => by
    obtain ⟨u, hu, hd⟩ := h 0 c (by simp)
    obtain ⟨vs, h1, h2, h3⟩ := CellsAt.list (l := l) (b := b) (off := off + 1) (fun i c hi => by
      have := h (i + 1) c (by simpa using hi)
      rwa [show off + (i + 1) = off + 1 + i by omega] at this)
    refine ⟨u :: vs, by simp [h1], fun j v hj => ?_, fun i c' hi => ?_⟩
    · rw [add_mk]
      cases j with
      | zero => simp at hj; subst hj; simpa using hu
      | succ j =>
        have := h2 j v (by simpa using hj)
        rw [add_mk] at this
        rwa [show off + (j + 1) = off + 1 + j by omega]
    · cases i with
      | zero => simp at hi; subst hi; exact ⟨u, by simp, hd⟩
      | succ i => simpa using h3 i c' (by simpa using hi)

theorem load_cells {t : TypeId} {agg : Bool} {n : Nat} {b off : Nat} {l : List CC} {cv : CV} (ha : aggOf P t = some agg) (hs : szOf P t = some n)
    (hl : l.length = n) (hc : CellsAt ρ w b off l) (hm : mkR agg l = some cv) : ∃ v, (loadVar t ⟨b, off, none⟩).run P w = .ok v w ∧ DenV ρ w cv v := by
  obtain ⟨vs, h1, h2, h3⟩ := hc.list
  unfold loadVar
  simp only [Sem.run_bind, run_aggOf ha, Result.andThen_ok]
  cases agg with
  | true =>
    simp [mkR] at hm
    subst hm
    have hr := run_loadCells_list (P := P) w ⟨b, off, none⟩ vs h2
    refine ⟨.agg vs.toArray, ?_, vs, rfl, h1, h3⟩
    simp only [if_true, Sem.run_bind, run_szOf hs, Result.andThen_ok, ← hl, ← h1, hr, Sem.run_pure]
  | false =>
    match l, hm with
    | [c], hm =>
      simp [mkR] at hm
      subst hm
      obtain ⟨u, hu, hd⟩ := h3 0 c (by simp)
      have := h2 0 u hu
      rw [add_mk] at this
      refine ⟨u, ?_, hd⟩
      simp only [Bool.false_eq_true, if_false, run_load]
      rw [show (⟨b, off, none⟩ : Addr) = ⟨b, off + 0, none⟩ by simp, this]

theorem mkR_rv {agg : Bool} {l : List CC} {cv : CV} (h : mkR agg l = some cv) : ∃ r, cv = .rv r := by
  unfold mkR at h
  split at h <;> simp at h <;> subst h <;> exact ⟨_, rfl⟩

theorem loadA_sound (hM : MemRel ρ m w) {t : TypeId} {agg : Bool} {n : Nat} (ha : aggOf P t = some agg) (hs : szOf P t = some n) {av : CV} {v : Value} {K : CV → Prop}
    (h : loadA env m agg n av K) (hd : DenV ρ w av v) : ∃ ad u cv, v = .pointer (some ad) ∧ (loadVar t ad).run P w = .ok u w ∧ K cv ∧ DenV ρ w cv u := by
  unfold loadA at h
  split at h
  · rename_i id j
    obtain ⟨hlt, rfl⟩ := hd
    obtain ⟨bk, hb, h⟩ := ok_iff.1 h
    rw [nth_eq] at hb
    cases bk <;> simp only at h
    rename_i cs
    obtain ⟨l, hr, h⟩ := ok_iff.1 h
    obtain ⟨cv, hm, hK⟩ := ok_iff.1 h
    obtain ⟨hl, hget⟩ := readN_spec hr
    obtain ⟨cur, hcur, hden⟩ := hM.bk id _ hb
    have hc : CellsAt ρ w (ρ.loc (.root id)).b ((ρ.loc (.root id)).base + j) l := by
      intro i c hi
      have hin : i < n := by rw [← hl]; exact (List.getElem?_eq_some_iff.1 hi).1
      obtain ⟨u, hu, hdu⟩ := hden (j + i) c ((hget i hin).trans hi)
      exact ⟨u, by rw [hcur.cell, ← hu, Nat.add_assoc], hdu⟩
    obtain ⟨u, hrun, hdu⟩ := load_cells ha hs hl hc hm
    exact ⟨_, u, cv, rfl, hrun, hK, hdu⟩
  · rename_i id esz i j
    obtain ⟨hlt, rfl⟩ := hd
    obtain ⟨bk, hb, h⟩ := ok_iff.1 h
    rw [nth_eq] at hb
    cases bk <;> simp only at h
    rename_i esz' elems
    rcases bB_iff.1 h with ⟨he, g1⟩ | ⟨_, g1⟩
    case inr => exact g1.elim
    have he : esz = esz' := Nat.eq_of_beq_eq_true he
    subst he
    obtain ⟨cells, hcells, g2⟩ := ok_iff.1 g1
    rw [nth_eq] at hcells
    obtain ⟨l, hr, g3⟩ := ok_iff.1 g2
    rcases bB_iff.1 g3 with ⟨hno, g4⟩ | ⟨_, g4⟩
    case inr => exact g4.elim
    obtain ⟨cv, hm, hK⟩ := ok_iff.1 g4
    obtain ⟨hl, hget⟩ := readN_spec hr
    obtain ⟨h2, h3, h4, h5, hcu⟩ := hM.bk id _ hb
    have hi0 := (List.getElem?_eq_some_iff.1 hcells).1
    obtain ⟨cur, hcur, h1, hden⟩ := hcu (by omega)
    have hc : CellsAt ρ w (ρ.loc (.root id)).b ((ρ.loc (.root id)).base + i * esz + j) l := by
      intro k c hi
      have hin : k < n := by rw [← hl]; exact (List.getElem?_eq_some_iff.1 hi).1
      obtain ⟨u, hu, hdu⟩ := hden i cells (j + k) c hcells ((hget k hin).trans hi)
      exact ⟨u, by rw [hcur.cell, ← hu, Nat.add_assoc _ j k], hdu.noPos (noOwn_spec hno c (List.mem_of_getElem? hi))⟩
    obtain ⟨u, hrun, hdu⟩ := load_cells ha hs hl hc hm
    exact ⟨_, u, cv, rfl, hrun, hK, hdu⟩
  · rename_i ds
    obtain ⟨b, off, rfl, hS, hden⟩ := hd
    obtain ⟨l, hr, h⟩ := ok_iff.1 h
    obtain ⟨cv, hm, hK⟩ := ok_iff.1 h
    obtain ⟨hl, hget⟩ := readD_spec hr
    have hc : CellsAt ρ w b off l := by
      intro i c hi
      have hin : i < n := by rw [← hl]; exact (List.getElem?_eq_some_iff.1 hi).1
      obtain ⟨d, hd1, hd2⟩ := hget i hin
      rw [hi] at hd2
      simp at hd2
      subst hd2
      exact hden i d hd1
    obtain ⟨u, hrun, hdu⟩ := load_cells ha hs hl hc hm
    exact ⟨_, u, cv, rfl, hrun, hK, hdu⟩
  · exact h.elim

/-- an operation that comes to a value -/
def Res (P : Program) (s : Sem Next) (ρ : Rho) (m : Mem) (w : World) (K : CV → Mem → Prop) : Prop :=
  ∃ nx v w' cv m' ρ', s.run P w = .ok nx w' ∧ (nx = .value v ∨ (nx = .skip ∧ v = Go.undef)) ∧ K cv m' ∧ MemRel ρ' m' w' ∧ DenV ρ' w' cv v ∧ Ext ρ m w ρ' m' w'

theorem Res.pure {s : Sem Next} {v : Value} {cv : CV} {K : CV → Mem → Prop} (hM : MemRel ρ m w) (hr : s.run P w = .ok (.value v) w) (hK : K cv m) (hd : DenV ρ w cv v) : Res P s ρ m w K :=
  ⟨_, v, w, cv, m, ρ, hr, .inl rfl, hK, hM, hd, Ext.refl _ _ _⟩

theorem den_plain {v x : Value} (h : DenV ρ w (.rv (.one (.dat (.val x)))) v) (hx : x ≠ .slice none 0 0 := by first | (intro hh; cases hh; done) | assumption | simp) : v = x ∧ plainV x = true := by
  cases h with
  | val v h => exact ⟨rfl, h⟩
  | no a => exact absurd rfl hx

theorem den_mkPlain {v : Value} (h : plainV v = true) : DenV ρ w (.rv (.one (.dat (.val v)))) v := DenD.val v h

theorem run_beq {t : TypeId} (ht : P.underlying t = some .bool) (neg : Bool) (a b : Bool) :
    (binOp (if neg then .neq else .eql) t (.bool a) (.bool b)).run P w = .ok (.bool (match neg with | true => !(a == b) | false => a == b)) w := by
  have h : ∀ d, (Op.equalIn (d + 1) t (.bool a) (.bool b)).run P w = .ok (a == b) w := fun d => by
    rw [Op.equalIn]
    simp [run_underlying ht]
  have h2 : (Op.equal t (.bool a) (.bool b)).run P w = .ok (a == b) w := h 9999
  cases neg <;> simp [binOp, h2]

theorem binV_sound {op : BinOp} {x y v : Value} (h : binV op x y = some v) {t : TypeId} : (binOp op t x y).run P w = .ok v w ∧ plainV v = true := by
  cases x <;> cases y <;> simp only [binV] at h <;> try (cases h; done)
  case int.int k a k' b =>
    by_cases hk : k = k'
    · subst hk
      cases op <;> simp only [decide_true] at h
      case shl =>
        by_cases hb : b < 0
        · simp [hb] at h
        · simp [hb] at h; subst h; simp [binOp, Op.shift, hb, plainV]
      case shr =>
        by_cases hb : b < 0
        · simp [hb] at h
        · simp [hb] at h; subst h; simp [binOp, Op.shift, hb, plainV]
      case quo =>
        by_cases hb : b = 0
        · simp [hb] at h
        · simp [hb] at h; subst h; simp [binOp, Op.intDiv, hb, plainV]
      case rem =>
        by_cases hb : b = 0
        · simp [hb] at h
        · simp [hb] at h; subst h; simp [binOp, Op.intDiv, hb, plainV]
      all_goals first
        | (cases h; done)
        | (simp only [Option.some.injEq] at h; subst h; simp [binOp, Op.intArith, Op.intBits, Op.intCmp, plainV])
    · cases op <;> simp only [hk, decide_false] at h
      case shl =>
        by_cases hb : b < 0
        · simp [hb] at h
        · simp [hb] at h; subst h; simp [binOp, Op.shift, hb, plainV]
      case shr =>
        by_cases hb : b < 0
        · simp [hb] at h
        · simp [hb] at h; subst h; simp [binOp, Op.shift, hb, plainV]
      all_goals (cases h; done)
  case string.string a b =>
    cases op <;> simp only at h <;> try (cases h; done)
    case add =>
      by_cases hb : ((a.size + b.size : Nat) : Int) > IntKind.i64.max
      · rw [decide_eq_true hb] at h; cases h
      · rw [decide_eq_false hb] at h; simp only [Option.some.injEq] at h; subst h
        refine ⟨?_, rfl⟩
        simp only [binOp, Op.stringOp]
        rw [if_neg hb]
        rfl
    all_goals (simp only [Option.some.injEq] at h; subst h; simp [binOp, Op.stringOp, plainV])

theorem unV_sound {op : UnOp} {x v : Value} (h : unV op x = some v) : (Op.unary op x).run P w = .ok v w ∧ plainV v = true := by
  cases x <;> simp only [unV] at h <;> try (cases h; done)
  all_goals cases op <;> simp only at h <;> try (cases h; done)
  all_goals (simp only [Option.some.injEq] at h; subst h; simp [Op.unary, Op.intArith, plainV])

theorem eqGuard_one {op : BinOp} {t : TypeId} {x y : Operand} {a b : Value} (ha : plainV a = true) (hn : a ≠ .nilIface) : (eqGuard op t x y a b).run P w = .ok () w := by
  unfold eqGuard
  cases op <;> simp
  all_goals (cases a <;> simp_all [plainV])

end
end Go.AM
