import Derived.Test.YtbemknkbegkflaaAmD
set_option linter.unusedSimpArgs false
set_option linter.unnecessarySimpa false
set_option linter.unusedVariables false
/-! What an instruction does in the abstract it does in the world: one by one. -/
namespace Go.AM
section
variable {P : Program} {ρ : Rho} {m : Mem} {w : World} {env : List CV} {a : Act} {K : CV → Mem → Prop}

theorem cellsOf_den {cv : CV} {v : Value} {cs : List CC} (h : cellsOf cv = some cs) (hd : DenV ρ w cv v) :
    v.cells.size = cs.length ∧ (∀ (i : Nat) c, cs[i]? = some c → ∃ u, v.cells[i]? = some u ∧ DenC ρ w .none c u) ∧ (∀ u ∈ v.cells.toList, u.oneCell' = true) := by
  unfold cellsOf at h
  split at h
  · rename_i c
    simp at h
    subst h
    have h1 : v.oneCell' = true := DenC.one hd
    have hc : v.cells = #[v] := by cases v <;> first | rfl | simp [Value.oneCell'] at h1
    refine ⟨by simp [hc], fun i c' hi => ?_, by rw [hc]; simpa using h1⟩
    cases i with
    | zero => simp at hi; subst hi; exact ⟨v, by simp [hc], hd⟩
    | succ i => simp at hi
  · rename_i cs'
    simp at h
    subst h
    obtain ⟨vs, rfl, hl, hc⟩ := hd
    refine ⟨by simp [Value.cells, hl], fun i c hi => ?_, fun u hu => ?_⟩
    · obtain ⟨u, hu, hdu⟩ := hc i c hi
      exact ⟨u, by simpa [Value.cells] using hu, hdu⟩
    · simp only [Value.cells] at hu
      obtain ⟨i, hi, rfl⟩ := List.getElem_of_mem hu
      have hi' : i < vs.length := by simpa using hi
      obtain ⟨u, hu2, hdu⟩ := hc i (cs'[i]'(by omega)) (List.getElem?_eq_getElem (by omega))
      rw [List.getElem?_eq_getElem hi'] at hu2
      simp at hu2
      simpa [hu2] using hdu.one
  · cases h

theorem lowCells_den : ∀ {vs : List Value} {cs : List CC}, lowCells vs = some cs → vs.length = cs.length ∧ ∀ (i : Nat) c, cs[i]? = some c → ∃ u, vs[i]? = some u ∧ DenC ρ w .none c u
  | [], cs, h => by simp [lowCells] at h; subst h; simp
  | v :: r, cs, h => by
    simp only [lowCells, Option.bind_eq_bind, Option.bind_eq_some_iff] at h
    obtain ⟨c, hc, l, hl, h⟩ := h
    simp at h
    subst h
    obtain ⟨h1, h2⟩ := lowCells_den hl
    refine ⟨by simp [h1], fun i c' hi => ?_⟩
    cases i with
    | zero => simp at hi; subst hi; exact ⟨v, by simp, constC_den hc⟩
    | succ i => simpa using h2 i c' (by simpa using hi)

/-- a new block: a variable -/
theorem push_var (hM : MemRel ρ m w) {cs : List CC} {cells : Array Value} {ty : TypeId} {w' : World} (hw : w' = w.alloc (.cells cells ty) ∨ w' = w.drew.alloc (.cells cells ty))
    (hd : ∀ (i : Nat) c, cs[i]? = some c → ∃ u, cells[i]? = some u ∧ DenC ρ w .none c u) :
    ∃ ρ', MemRel ρ' (m ++ [.var cs]) w' ∧ Ext ρ m w ρ' (m ++ [.var cs]) w' ∧ DenV ρ' w' (.rv (.one (.ptr m.length 0))) (.pointer (some ⟨w.heap.size, 0, none⟩)) := by
  have hwd : Wider w w' := by
    rcases hw with rfl | rfl
    · exact Wider.alloc w _
    · exact (Wider.drew w).trans (Wider.alloc w.drew _)
  have hcur : Cur True w' w.heap.size cells := by
    rcases hw with rfl | rfl
    · exact Cur.new w cells ty
    · exact Cur.new w.drew cells ty
  have hsz : w.heap.size < w'.heap.size := hcur.lt
  let l : Loc := ⟨w.heap.size, 0, 0, 0⟩
  have hn := hM.n
  have hloc : (ρ.push l).loc (.root m.length) = l := by rw [← hn]; exact ρ.push_new l
  have g : Goes ρ w (ρ.push l) w' := ⟨by simp [Rho.push], fun k hk => ρ.push_old l hk, fun b hb => hb, fun b hb => hwd.heap b (hM.S b hb)⟩
  have hb : BkRel (ρ.push l) w' m.length (.var cs) := by
    refine ⟨cells, by rw [hloc]; exact hcur, fun j c hj => ?_⟩
    obtain ⟨u, hu, hdu⟩ := hd j c hj
    exact ⟨u, by rw [hloc]; simpa [l] using hu, hdu.goes g (by simp)⟩
  obtain ⟨h1, h2⟩ := hM.push (l := l) hwd (Nat.le_refl _) hsz hb trivial
  refine ⟨_, h1, h2, by simp [Rho.push, hn], ?_⟩
  rw [hloc]

/-- a new block: a row of elements -/
theorem push_row (hM : MemRel ρ m w) {esz cap : Nat} {elems : List (List CC)} {cells : Array Value} {ty : TypeId} {w' : World} (hw : w' = w.alloc (.cells cells ty) ∨ w' = w.drew.alloc (.cells cells ty))
    (hsz : cap * esz ≤ cells.size) (hlen : elems.length ≤ cap) (hcap : cap ≤ maxLen) (hes : ∀ cs, cs ∈ elems → cs.length = esz)
    (hd : ∀ (i : Nat) cs (j : Nat) c, elems[i]? = some cs → cs[j]? = some c → ∃ u, cells[i * esz + j]? = some u ∧ DenC ρ w .none c u) :
    ∃ ρ', MemRel ρ' (m ++ [.row esz elems]) w' ∧ Ext ρ m w ρ' (m ++ [.row esz elems]) w' ∧
      DenV ρ' w' (.rv (.one (.row m.length esz 0 none))) (.slice (some ⟨w.heap.size, 0, none⟩) elems.length cap) := by
  have hwd : Wider w w' := by
    rcases hw with rfl | rfl
    · exact Wider.alloc w _
    · exact (Wider.drew w).trans (Wider.alloc w.drew _)
  have hcur : Cur (esz = 1) w' w.heap.size cells := by
    rcases hw with rfl | rfl
    · exact Cur.new w cells ty
    · exact Cur.new w.drew cells ty
  have hlt : w.heap.size < w'.heap.size := hcur.lt
  let l : Loc := ⟨w.heap.size, 0, elems.length, cap⟩
  have hn := hM.n
  have hloc : (ρ.push l).loc (.root m.length) = l := by rw [← hn]; exact ρ.push_new l
  have g : Goes ρ w (ρ.push l) w' := ⟨by simp [Rho.push], fun k hk => ρ.push_old l hk, fun b hb => hb, fun b hb => hwd.heap b (hM.S b hb)⟩
  have hb : BkRel (ρ.push l) w' m.length (.row esz elems) := by
    refine ⟨by rw [hloc], by rw [hloc]; exact hlen, by rw [hloc]; exact hcap, hes, fun _ => ⟨cells, by rw [hloc]; exact hcur, by rw [hloc]; simpa [l] using hsz, fun i cs j c hi hj => ?_⟩⟩
    obtain ⟨u, hu, hdu⟩ := hd i cs j c hi hj
    exact ⟨u, by rw [hloc]; simpa [l] using hu, (hdu.goes g (by simp)).anyPos _⟩
  obtain ⟨h1, h2⟩ := hM.push (l := l) hwd (Nat.le_refl _) hlt hb (fun i cs j c hi hj => by
    obtain ⟨u, hu, hdu⟩ := hd i cs j c hi hj
    exact hdu.notOwn)
  refine ⟨_, h1, h2, by simp [Rho.push, hn], ?_⟩
  rw [hloc]
  refine ⟨by simp, by simp, hlen, hcap, _, rfl, fun _ => ?_⟩
  simp [l]

theorem alloc_sound (hM : MemRel ρ m w) {t : TypeId} {z : List CC} (hz : zeroOf P t = some z) (h : step P (.alloc z) env m K) :
    Res P (do pure (Next.value (← Instr.alloc t true (.tuple #[])))) ρ m w K := by
  simp only [zeroOf, Option.bind_eq_bind, Option.bind_eq_some_iff] at hz
  obtain ⟨i, hi, v, hv, hc⟩ := hz
  obtain ⟨hl, hd⟩ := lowCells_den (ρ := ρ) (w := w) hc
  obtain ⟨ρ', h1, h2, h3⟩ := push_var hM (ty := t) (cells := v.cells) (.inl rfl) (fun i c hi => by
    obtain ⟨u, hu, hdu⟩ := hd i c hi
    exact ⟨u, by simpa using hu, hdu⟩)
  simp only [step, lenK_eq, app2_eq] at h
  refine ⟨_, _, _, _, _, ρ', ?_, .inl rfl, h, h1, h3, h2⟩
  simp [Instr.alloc, zeroValue, typeInfo, hi, hv, newVar, newRow]

theorem box_sound (hM : MemRel ρ m w) (hE : EnvRel ρ w env a.tmps) {t : TypeId} {x : Operand} {x' : X} (hx : lowX x = some x') (h : step P (.box x') env m K) :
    Res P (do pure (Next.value (← Instr.box t (a.eval x)))) ρ m w K := by
  simp only [step] at h
  obtain ⟨cs, hcs, h⟩ := ok_iff.1 h
  obtain ⟨hl, hd, _⟩ := cellsOf_den hcs (lowX_den hE hx)
  obtain ⟨ρ', h1, h2, h3⟩ := push_var hM (ty := t) (cells := (a.eval x).cells) (.inl rfl) hd
  simp only [lenK_eq, app2_eq] at h
  refine ⟨_, _, _, _, _, ρ', ?_, .inl rfl, h, h1, h3, h2⟩
  simp [Instr.box, newVar, newRow]

/-- the model's filling of one part -/
theorem foldl_set (off : Nat) : ∀ (vs : List Value) (k : Nat) (cells : Array Value), 
    let r := (vs.zipIdx k).foldl (fun (cs : Array Value) (p : Value × Nat) => cs.setIfInBounds (off + p.2) p.1) cells
    r.size = cells.size ∧ (off + k + vs.length ≤ cells.size → ∀ i, r[i]? = if off + k ≤ i ∧ i < off + k + vs.length then vs[i - (off + k)]? else cells[i]?)
  | [], k, cells => by simp; intro _ i h1 h2; omega
  | v :: r, k, cells => by
    simp only [List.zipIdx_cons, List.foldl_cons]
    obtain ⟨h1, h2⟩ := foldl_set off r (k + 1) (cells.setIfInBounds (off + k) v)
    refine ⟨by rw [h1]; simp, fun hle i => ?_⟩
    simp only [List.length_cons] at hle
    rw [h2 (by simp; omega) i]
    by_cases hc : off + (k + 1) ≤ i ∧ i < off + (k + 1) + r.length
    · rw [if_pos hc, if_pos (by simp; omega)]
      rw [show i - (off + k) = (i - (off + (k + 1))) + 1 by omega]
      simp
    · rw [if_neg hc]
      by_cases he : i = off + k
      · subst he
        rw [if_pos (by simp)]
        simp only [Nat.sub_self, List.getElem?_cons_zero]
        rw [Array.getElem?_setIfInBounds]
        simp
        omega
      · rw [if_neg (by simp; omega), Array.getElem?_setIfInBounds, if_neg (by omega)]

/-- cells as an array stand for a list -/
def Cells (ρ : Rho) (w : World) (cs : List CC) (cells : Array Value) : Prop :=
  cells.size = cs.length ∧ ∀ (i : Nat) c, cs[i]? = some c → ∃ u, cells[i]? = some u ∧ DenC ρ w .none c u

theorem fill_one {place : Nat → Option (Nat × Nat)} {i off sz : Nat} {v : Value} {rest : List (Nat × Value)} {z z' cs : List CC} {cells : Array Value}
    (hp : place i = some (off, sz)) (hz : Cells ρ w z cells) (hv : v.cells.size = sz) (hcl : cs.length = sz) (hd : ∀ (i : Nat) c, cs[i]? = some c → ∃ u, v.cells[i]? = some u ∧ DenC ρ w .none c u)
    (hw : writeN z off cs = some z') : ∃ cells', Instr.fill place cells ((i, v) :: rest) = Instr.fill place cells' rest ∧ Cells ρ w z' cells' := by
  obtain ⟨h1, h2, h3⟩ := writeN_spec hw
  refine ⟨(v.cells.zipIdx.foldl (fun cs (p : Value × Nat) => cs.setIfInBounds (off + p.2) p.1) cells), ?_, ?_⟩
  · rw [Instr.fill, hp]
    simp only
    rw [if_neg (by rw [hz.1]; simp; omega)]
  · have hf := foldl_set off v.cells.toList 0 cells
    simp only [Nat.add_zero] at hf
    have he : v.cells.zipIdx.foldl (fun cs (p : Value × Nat) => cs.setIfInBounds (off + p.2) p.1) cells = (v.cells.toList.zipIdx 0).foldl (fun (cs : Array Value) (p : Value × Nat) => cs.setIfInBounds (off + p.2) p.1) cells := by
      rw [← Array.foldl_toList]; simp
    rw [he]
    refine ⟨by rw [hf.1, hz.1, h1], fun k c hk => ?_⟩
    rw [hf.2 (by rw [hz.1]; simp; omega) k]
    rw [h3 k] at hk
    have hlen : v.cells.toList.length = cs.length := by simp [hv, hcl]
    rw [hlen]
    by_cases hc : off ≤ k ∧ k < off + cs.length
    · rw [if_pos hc] at hk ⊢
      obtain ⟨u, hu, hdu⟩ := hd _ c hk
      exact ⟨u, by simpa using hu, hdu⟩
    · rw [if_neg hc] at hk ⊢
      exact hz.2 k c hk

theorem fillC_sound (hE : EnvRel ρ w env a.tmps) {fs : Array Field} {place : Nat → Option (Nat × Nat)}
    (hpl : ∀ i f, fs[i]? = some f → ∀ n, szOf P f.type = some n → place i = some (f.offset, n)) :
    ∀ {ps : List (Nat × Operand)} {ps' : List (Nat × Nat × X)} {z z' : List CC} {cells : Array Value}, lowParts P fs ps = some ps' → fillC env z ps' = some z' → Cells ρ w z cells →
      ∃ cells', Instr.fill place cells (ps.map fun p => (p.1, a.eval p.2)) = some cells' ∧ Cells ρ w z' cells'
  | [], ps', z, z', cells, hp, hf, hz => by
    simp [lowParts] at hp; subst hp
    simp [fillC] at hf; subst hf
    exact ⟨cells, rfl, hz⟩
  | (i, x) :: r, ps', z, z', cells, hp, hf, hz => by
    simp only [lowParts, Option.bind_eq_bind, Option.bind_eq_some_iff] at hp
    obtain ⟨f, hfi, n, hn, x', hx, r', hr, hp⟩ := hp
    simp at hp
    subst hp
    simp only [fillC] at hf
    split at hf
    · rename_i cs hcs
      split at hf
      · rename_i hlen
        have hlen : cs.length = n := Nat.eq_of_beq_eq_true hlen
        split at hf
        · rename_i z1 hz1
          obtain ⟨h1, h2, _⟩ := cellsOf_den hcs (lowX_den hE hx)
          obtain ⟨cells1, he, hc1⟩ := fill_one (rest := r.map fun p => (p.1, a.eval p.2)) (hpl i f hfi n hn) hz (h1.trans hlen) hlen h2 hz1
          obtain ⟨cells', he', hc'⟩ := fillC_sound hE hpl hr hf hc1
          exact ⟨cells', by rw [List.map_cons, he, he'], hc'⟩
        · cases hf
      · cases hf
    · cases hf

theorem fillA_sound (hE : EnvRel ρ w env a.tmps) {sz : Nat} {place : Nat → Option (Nat × Nat)} (hpl : ∀ i, place i = some (i * sz, sz)) :
    ∀ {ps : List (Nat × Operand)} {ps' : List (Nat × Nat × X)} {z z' : List CC} {cells : Array Value}, lowPartsA sz ps = some ps' → fillC env z ps' = some z' → Cells ρ w z cells →
      ∃ cells', Instr.fill place cells (ps.map fun p => (p.1, a.eval p.2)) = some cells' ∧ Cells ρ w z' cells'
  | [], ps', z, z', cells, hp, hf, hz => by
    simp [lowPartsA] at hp; subst hp
    simp [fillC] at hf; subst hf
    exact ⟨cells, rfl, hz⟩
  | (i, x) :: r, ps', z, z', cells, hp, hf, hz => by
    simp only [lowPartsA, Option.bind_eq_bind, Option.bind_eq_some_iff] at hp
    obtain ⟨x', hx, r', hr, hp⟩ := hp
    simp at hp
    subst hp
    simp only [fillC] at hf
    split at hf
    · rename_i cs hcs
      split at hf
      · rename_i hlen
        have hlen : cs.length = sz := Nat.eq_of_beq_eq_true hlen
        split at hf
        · rename_i z1 hz1
          obtain ⟨h1, h2, _⟩ := cellsOf_den hcs (lowX_den hE hx)
          obtain ⟨cells1, he, hc1⟩ := fill_one (rest := r.map fun p => (p.1, a.eval p.2)) (hpl i) hz (h1.trans hlen) hlen h2 hz1
          obtain ⟨cells', he', hc'⟩ := fillA_sound hE hpl hr hf hc1
          exact ⟨cells', by rw [List.map_cons, he, he'], hc'⟩
        · cases hf
      · cases hf
    · cases hf

theorem zeroOf_run {t : TypeId} {z : List CC} (hz : zeroOf P t = some z) : ∃ v, (zeroValue t).run P w = .ok v w ∧ Cells ρ w z v.cells := by
  simp only [zeroOf, Option.bind_eq_bind, Option.bind_eq_some_iff] at hz
  obtain ⟨i, hi, v, hv, hc⟩ := hz
  obtain ⟨hl, hd⟩ := lowCells_den (ρ := ρ) (w := w) hc
  refine ⟨v, by simp [zeroValue, typeInfo, hi, hv], by simpa using hl, fun i c hi => ?_⟩
  obtain ⟨u, hu, hdu⟩ := hd i c hi
  exact ⟨u, by simpa using hu, hdu⟩

theorem den_agg {cs : List CC} {cells : Array Value} (h : Cells ρ w cs cells) : DenV ρ w (.rv (.agg cs)) (.agg cells) :=
  ⟨cells.toList, by simp, by simpa using h.1, fun i c hi => let ⟨u, hu, hd⟩ := h.2 i c hi; ⟨u, by simpa using hu, hd⟩⟩

end
end Go.AM
