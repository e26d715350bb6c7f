import Derived.Test.YtbemknkbegkflaaAmG
set_option linter.unnecessarySimpa false
set_option linter.unusedVariables false
set_option linter.unusedSimpArgs false
/-! append -/
namespace Go.AM
section
variable {P : Program} {ρ : Rho} {m : Mem} {w : World} {env : List CV} {a : Act} {K : CV → Mem → Prop}

def Rho.move (ρ : Rho) (l : Loc) (src : Nat → Nat → Key) : Rho :=
  { n := ρ.n + 1
    loc := fun k => match k with
      | .root id => if id = ρ.n then l else ρ.loc (.root id)
      | .sub id i j => if id = ρ.n then ρ.loc (src i j) else ρ.loc (.sub id i j)
    S := ρ.S }

/-- a new row out of what there was: some old rows are dead then -/
theorem MemRel.move {w' : World} (hM : MemRel ρ m w) {m1 : Mem} {D : Nat → Prop} {esz : Nat} {E : List (List CC)} {l : Loc} {src : Nat → Nat → Key}
    (hlen : m1.length = m.length) (hm1 : ∀ (id : Nat) b, m1[id]? = some b → b = .dead ∨ (m[id]? = some b ∧ ¬ D id))
    (hsz : w.heap.size ≤ w'.heap.size) (hos : w'.os = w.os) (htape : w'.tape = w.tape) (hout : w'.output = w.output)
    (hheap : ∀ b, b < w.heap.size → (∀ id, D id → Live ρ m (.root id) → (ρ.loc (.root id)).b ≠ b) → w'.heap[b]? = w.heap[b]?)
    (hl : 0 < l.cap → l.b < w'.heap.size ∧ (w.heap.size ≤ l.b ∨ ∃ id, D id ∧ Live ρ m (.root id) ∧ (ρ.loc (.root id)).b = l.b))
    (hE : E.length = l.len) (hlc : l.len ≤ l.cap) (hcap : l.cap ≤ maxLen) (hes : ∀ cs, cs ∈ E → cs.length = esz)
    (hcells : Goes ρ w (ρ.move l src) w' → 0 < l.cap → ∃ cur, Cur (esz = 1) w' l.b cur ∧ l.base + l.cap * esz ≤ cur.size ∧
      ∀ (i : Nat) cs (j : Nat) c, E[i]? = some cs → cs[j]? = some c → ∃ u, cur[l.base + i * esz + j]? = some u ∧ DenC (ρ.move l src) w' (some (ρ.n, i, j)) c u)
    (hown : ∀ (i : Nat) cs (j : Nat) s e, E[i]? = some cs → cs[j]? = some (.own s e) → ∃ id' i' j', src i j = .sub id' i' j' ∧ D id' ∧ OwnAt m id' i' j' s e)
    (hinj : ∀ i j i' j', src i j = src i' j' → (∃ cs s e, E[i]? = some cs ∧ cs[j]? = some (.own s e)) → (∃ cs s e, E[i']? = some cs ∧ cs[j']? = some (.own s e)) → i = i' ∧ j = j') :
    MemRel (ρ.move l src) (m1 ++ [.row esz E]) w' ∧ Ext ρ m w (ρ.move l src) (m1 ++ [.row esz E]) w' := by
  have hn := hM.n
  have old : ∀ k : Key, k.id < ρ.n → (ρ.move l src).loc k = ρ.loc k := by
    intro k hk
    cases k with
    | root id => simp only [Rho.move]; rw [if_neg (by simp only [Key.id] at hk; omega)]
    | sub id i j => simp only [Rho.move]; rw [if_neg (by simp only [Key.id] at hk; omega)]
  have newR : (ρ.move l src).loc (.root ρ.n) = l := by simp [Rho.move]
  have newS : ∀ i j, (ρ.move l src).loc (.sub ρ.n i j) = ρ.loc (src i j) := by intro i j; simp [Rho.move]
  have hSheap : ∀ b, ρ.S b → w'.heap[b]? = w.heap[b]? := fun b hb => hheap b (hM.S b hb) fun id _ hlv e => (hM.live _ hlv).2 (e ▸ hb)
  have g : Goes ρ w (ρ.move l src) w' := ⟨by simp [Rho.move], old, fun b hb => hb, hSheap⟩
  have get : ∀ {id : Nat} {b : Bk}, (m1 ++ [.row esz E])[id]? = some b → (id < ρ.n ∧ (b = .dead ∨ (m[id]? = some b ∧ ¬ D id))) ∨ (id = ρ.n ∧ b = .row esz E) := by
    intro id b hb
    rcases Nat.lt_or_ge id m1.length with h | h
    · rw [List.getElem?_append_left h] at hb
      exact .inl ⟨by omega, hm1 id b hb⟩
    · rw [List.getElem?_append_right h] at hb
      have : id - m1.length = 0 := by
        rcases Nat.eq_zero_or_pos (id - m1.length) with h0 | h0
        · exact h0
        · rw [List.getElem?_eq_none (by simp; omega)] at hb; cases hb
      rw [this] at hb
      exact .inr ⟨by omega, by simpa using hb.symm⟩
  have ownOld : ∀ {id i j s e}, OwnAt (m1 ++ [.row esz E]) id i j s e → (id < ρ.n ∧ ¬ D id ∧ OwnAt m id i j s e) ∨
      (id = ρ.n ∧ (∃ cs s e, E[i]? = some cs ∧ cs[j]? = some (.own s e)) ∧ ∃ id' i' j', src i j = .sub id' i' j' ∧ D id' ∧ OwnAt m id' i' j' s e) := by
    rintro id i j s e ⟨es, rows, cs, hb0, hi, hj⟩
    rcases get hb0 with ⟨hlt, hb | ⟨hb, hD⟩⟩ | ⟨rfl, hb⟩
    · cases hb
    · exact .inl ⟨hlt, hD, es, rows, cs, hb, hi, hj⟩
    · injection hb with hb1 hb2
      subst hb1 hb2
      exact .inr ⟨rfl, ⟨cs, _, _, hi, hj⟩, hown i cs j s e hi hj⟩
  -- each live key comes of a live key
  have liveOld : ∀ k, Live (ρ.move l src) (m1 ++ [.row esz E]) k →
      (k.id < ρ.n ∧ ¬ D k.id ∧ Live ρ m k) ∨ (k = .root ρ.n ∧ 0 < l.cap) ∨
      (∃ i j, k = .sub ρ.n i j ∧ (∃ cs s e, E[i]? = some cs ∧ cs[j]? = some (.own s e)) ∧ Live ρ m (src i j) ∧ D (src i j).id ∧ ∃ a b c, src i j = .sub a b c) := by
    intro k hk
    cases k with
    | root id =>
      obtain ⟨b, hb, hne, hcp⟩ := hk
      rcases get hb with ⟨hlt, rfl | ⟨hb, hD⟩⟩ | ⟨rfl, rfl⟩
      · exact absurd rfl hne
      · rw [old (.root id) hlt] at hcp
        exact .inl ⟨hlt, hD, b, hb, hne, hcp⟩
      · rw [newR] at hcp
        exact .inr (.inl ⟨rfl, hcp ⟨_, _, rfl⟩⟩)
    | sub id i j =>
      obtain ⟨⟨s, e, ho⟩, hcp⟩ := hk
      rcases ownOld ho with ⟨hlt, hD, ho⟩ | ⟨rfl, hcell, id', i', j', hs, hD, ho⟩
      · rw [old (.sub id i j) hlt] at hcp
        exact .inl ⟨hlt, hD, ⟨s, e, ho⟩, hcp⟩
      · rw [newS] at hcp
        exact .inr (.inr ⟨i, j, rfl, hcell, by rw [hs] at hcp ⊢; exact ⟨⟨s, e, ho⟩, hcp⟩, by rw [hs]; exact hD, _, _, _, hs⟩)
  have keep : ∀ k, Live ρ m k → (k.id < ρ.n ∧ ¬ D k.id) ∨ (∃ a b c, k = .sub a b c) → w'.heap[(ρ.loc k).b]? = w.heap[(ρ.loc k).b]? := by
    intro k hk hor
    refine hheap _ (hM.live k hk).1 fun id hD hlv e => ?_
    have := hM.inj _ _ hlv hk e
    rcases hor with ⟨_, hnD⟩ | ⟨_, _, _, rfl⟩
    · exact hnD (by rw [← this]; exact hD)
    · cases this
  refine ⟨⟨by simp [Rho.move, hn, hlen], fun b hb => Nat.lt_of_lt_of_le (hM.S b hb) hsz, ?_, ?_, ?_, ?_⟩,
    ⟨by simp [Rho.move], fun id hid => old (.root id) hid, fun b hb => hb, fun b hb => .inl hb, ?_, ?_, hsz, hos, htape, hout⟩⟩
  · intro k hk
    rcases liveOld k hk with ⟨hlt, _, hk⟩ | ⟨rfl, hc⟩ | ⟨i, j, rfl, _, hk, _⟩
    · rw [old k hlt]
      exact ⟨Nat.lt_of_lt_of_le (hM.live k hk).1 hsz, (hM.live k hk).2⟩
    · rw [newR]
      obtain ⟨h1, h2⟩ := hl hc
      refine ⟨h1, fun hs => ?_⟩
      rcases h2 with h2 | ⟨id, hD, hlv, e⟩
      · have := hM.S _ hs; omega
      · exact (hM.live _ hlv).2 (e ▸ hs)
    · rw [newS]
      exact ⟨Nat.lt_of_lt_of_le (hM.live _ hk).1 hsz, (hM.live _ hk).2⟩
  · -- no two live keys share a block
    have rootNe : 0 < l.cap → ∀ k, Live ρ m k → (k.id < ρ.n ∧ ¬ D k.id) ∨ (∃ a b c, k = .sub a b c) → (ρ.loc k).b ≠ l.b := by
      intro hc k hk hor e
      obtain ⟨h1, h2⟩ := hl hc
      rcases h2 with h2 | ⟨id, hD, hlv, e2⟩
      · have := (hM.live k hk).1; omega
      · have := hM.inj _ _ hlv hk (e2.trans e.symm)
        rcases hor with ⟨_, hnD⟩ | ⟨_, _, _, rfl⟩
        · exact hnD (by rw [← this]; exact hD)
        · cases this
    intro k k' hk hk' he
    rcases liveOld k hk with ⟨hlt, hD, hk⟩ | ⟨rfl, hc⟩ | ⟨i, j, rfl, hx, hk, hDs, hsub⟩ <;> rcases liveOld k' hk' with ⟨hlt', hD', hk'⟩ | ⟨rfl, hc'⟩ | ⟨i', j', rfl, hx', hk', hDs', hsub'⟩
    · rw [old k hlt, old k' hlt'] at he
      exact hM.inj k k' hk hk' he
    · rw [old k hlt, newR] at he
      exact absurd he (rootNe hc' k hk (.inl ⟨hlt, hD⟩))
    · rw [old k hlt, newS] at he
      have := hM.inj _ _ hk hk' he
      exact absurd (by rw [this]; exact hDs') hD
    · rw [old k' hlt', newR] at he
      exact absurd he.symm (rootNe hc k' hk' (.inl ⟨hlt', hD'⟩))
    · rfl
    · rw [newR, newS] at he
      exact absurd he.symm (rootNe hc _ hk' (.inr hsub'))
    · rw [old k' hlt', newS] at he
      have := hM.inj _ _ hk hk' he
      exact absurd (by rw [← this]; exact hDs) hD'
    · rw [newR, newS] at he
      exact absurd he (rootNe hc' _ hk (.inr hsub))
    · rw [newS, newS] at he
      obtain ⟨rfl, rfl⟩ := hinj i j i' j' (hM.inj _ _ hk hk' he) hx hx'
      rfl
  · intro id b hb
    rcases get hb with ⟨hlt, rfl | ⟨hb, hD⟩⟩ | ⟨rfl, rfl⟩
    · trivial
    · exact (hM.bk id b hb).goes g hlt fun hne hcp => keep (.root id) ⟨b, hb, hne, hcp⟩ (.inl ⟨hlt, hD⟩)
    · exact ⟨by rw [newR]; exact hE, by rw [newR]; exact hlc, by rw [newR]; exact hcap, hes, fun hc => by rw [newR] at hc ⊢; exact hcells g hc⟩
  · intro id i j s e ho hcp
    rcases ownOld ho with ⟨hlt, hD, ho⟩ | ⟨rfl, _, id', i', j', hs, hD, ho⟩
    · rw [old (.sub id i j) hlt] at hcp ⊢
      exact (hM.own id i j s e ho hcp).goes g (keep (.sub id i j) ⟨⟨s, e, ho⟩, hcp⟩ (.inr ⟨_, _, _, rfl⟩))
    · rw [newS, hs] at hcp ⊢
      exact (hM.own id' i' j' s e ho hcp).goes g (keep (.sub id' i' j') ⟨⟨s, e, ho⟩, hcp⟩ (.inr ⟨_, _, _, rfl⟩))
  · intro k hk
    rcases liveOld k hk with ⟨hlt, _, hk⟩ | ⟨rfl, hc⟩ | ⟨i, j, rfl, _, hk, _⟩
    · exact .inr ⟨k, hk, by rw [old k hlt]⟩
    · rw [newR]
      obtain ⟨h1, h2⟩ := hl hc
      rcases h2 with h2 | ⟨id, hD, hlv, e⟩
      · exact .inl h2
      · exact .inr ⟨_, hlv, e⟩
    · exact .inr ⟨_, hk, by rw [newS]⟩
  · intro b hb hk
    exact hheap b hb fun id hD hlv e => hk _ hlv e

def stoAt (ad : Option Addr) (k : Nat) (vs : List Value) : Sem Unit :=
  match ad with
  | some a => storeCells (a.add k) vs
  | none => pure ()

theorem run_append_gen {t t2 ty e e2 : TypeId} {i : TypeInfo} {z : Value} (ht : P.underlying t = some (.slice e)) (ht2 : P.underlying t2 = some (.slice e2)) (hi : P.info? e = some i) (hz : i.zero = some z)
    {a0 : Option Addr} {n1 c1 n2 : Nat} {src : Value} {olds news : List Value} (hlen : (Builtin.lenOf src).run P w = .ok n2 w)
    (hnews : ∀ k, (Builtin.firstCells i.size n2 src).run P (w.drewN k) = .ok news.toArray (w.drewN k)) (holds : ∀ k, (Builtin.firstCells i.size n1 (.slice a0 n1 c1)).run P (w.drewN k) = .ok olds.toArray (w.drewN k))
    (hb : 0 < i.bytes) (hfit : (n1 + n2) * i.bytes ≤ 140737488355328) :
    (Builtin.append_ #[t, t2] ty #[.slice a0 n1 c1, src]).run P w = if n1 + n2 ≤ c1 then
        ((stoAt a0 (n1 * i.size) news).run P w).andThen fun _ w' => .ok (.slice a0 (n1 + n2) c1) w'
      else .ok (.slice (some ⟨w.heap.size, 0, none⟩) (n1 + n2) (grownCap w (n1 + n2) c1 e)) (w.drew.alloc (.cells (olds.toArray ++ news.toArray ++ Builtin.zeroCells z.cells (grownCap w (n1 + n2) c1 e - (n1 + n2))) e)) := by
  have hn0 := hnews 0
  have hn1 := hnews 1
  have ho1 := holds 1
  have e0 : w.drewN 0 = w := rfl
  have e1 : w.drewN 1 = w.drew := rfl
  rw [e0] at hn0
  rw [e1] at hn1 ho1
  have hsm : n1 + n2 ≤ 140737488355328 := Nat.le_trans (Nat.le_mul_of_pos_right _ hb) hfit
  unfold Builtin.append_
  by_cases hc : n1 + n2 ≤ c1
  · simp [run_underlying ht, run_underlying ht2, sizeOf, typeInfo, hi, hlen, hc, hn0]
    cases a0 <;> simp [stoAt]
  · have h63' : ¬ (9223372036854775807 < ((n1 : Int) + (n2 : Int))) := by omega
    have h48' : ¬ (281474976710656 < Builtin.nextslicecap (n1 + n2) c1 * i.bytes) := by
      have := growslice_fits (need := n1 + n2) (old := c1) (by omega) hfit
      omega
    have hb' : ¬ i.bytes = 0 := by omega
    simp [run_underlying ht, run_underlying ht2, sizeOf, typeInfo, zeroValue, hi, hz, hlen, hc, h63', h48', Question.forced, hn1, ho1, newRow, grownCap]
    congr 2
    apply Array.ext'
    simp [List.append_assoc]

/-- the place of a slice's cell, where it is a row of its own -/
def posOf (v : CV) (i j : Nat) : Option (Nat × Nat × Nat) :=
  match v with
  | .rv (.one (.row id _ lo _)) => some (id, lo + i, j)
  | _ => none

theorem subL_eq {α : Type} (l : List α) (lo : Nat) (hi : Option Nat) : subL l lo hi = (match hi with | none => l | some h => l.take h).drop lo := by
  cases lo <;> cases hi <;> simp [subL]

structure FlatOf (ρ : Rho) (w : World) (esz : Nat) (pos : Nat → Nat → Option (Nat × Nat × Nat)) (E : List (List CC)) (ad : Option Addr) (vs : List Value) : Prop where
  len : vs.length = E.length * esz
  each : ∀ cs, cs ∈ E → cs.length = esz
  at_ : 0 < E.length → ∃ b off, ad = some ⟨b, off, none⟩ ∧ ∀ k u, vs[k]? = some u → w.cell? ⟨b, off + k, none⟩ = some u
  den : ∀ (i : Nat) cs (j : Nat) c, E[i]? = some cs → cs[j]? = some c → ∃ u, vs[i * esz + j]? = some u ∧ DenC ρ w (pos i j) c u
  one : ∀ u, u ∈ vs → u.oneCell' = true

/-- cells of a block, read off -/
theorem flat_read {esz : Nat} {pos : Nat → Nat → Option (Nat × Nat × Nat)} {E : List (List CC)} {b off : Nat}
    (each : ∀ cs, cs ∈ E → cs.length = esz) (h : ∀ (i : Nat) cs (j : Nat) c, E[i]? = some cs → cs[j]? = some c → ∃ u, w.cell? ⟨b, off + i * esz + j, none⟩ = some u ∧ DenC ρ w (pos i j) c u) :
    ∃ vs, FlatOf ρ w esz pos E (some ⟨b, off, none⟩) vs := by
  have all : ∀ k, k < E.length * esz → ∃ u p c, w.cell? ⟨b, off + k, none⟩ = some u ∧ DenC ρ w p c u := by
    intro k hk
    have hpos : 0 < esz := by
      rcases Nat.eq_zero_or_pos esz with h0 | h0
      · subst h0; simp at hk
      · exact h0
    have hi : k / esz < E.length := Nat.div_lt_of_lt_mul (by rwa [Nat.mul_comm])
    have hj : k % esz < esz := Nat.mod_lt _ hpos
    have hcs := each _ (List.getElem_mem hi)
    obtain ⟨u, hu, hd⟩ := h (k / esz) _ (k % esz) _ (List.getElem?_eq_getElem hi) (List.getElem?_eq_getElem (by rw [hcs]; exact hj))
    have e : off + k / esz * esz + k % esz = off + k := by
      have := Nat.div_add_mod k esz
      rw [Nat.mul_comm] at this
      omega
    rw [e] at hu
    exact ⟨u, _, _, hu, hd⟩
  let vs := (List.range (E.length * esz)).map fun k => (w.cell? ⟨b, off + k, none⟩).getD Go.undef
  have hget : ∀ k u, vs[k]? = some u → k < E.length * esz ∧ w.cell? ⟨b, off + k, none⟩ = some u := by
    intro k u hu
    have hk : k < E.length * esz := by have := (List.getElem?_eq_some_iff.1 hu).1; simpa [vs] using this
    obtain ⟨u', p, c, hu', _⟩ := all k hk
    simp only [vs, List.getElem?_map, List.getElem?_range hk, Option.map_some, hu', Option.getD_some, Option.some.injEq] at hu
    exact ⟨hk, by rw [hu', hu]⟩
  refine ⟨vs, by simp [vs], each, fun _ => ⟨b, off, rfl, fun k u hu => (hget k u hu).2⟩, fun i cs j c hi hj => ?_, fun u hu => ?_⟩
  · obtain ⟨u, hu, hd⟩ := h i cs j c hi hj
    refine ⟨u, ?_, hd⟩
    have hil := (List.getElem?_eq_some_iff.1 hi).1
    have hjl : j < esz := by rw [← each _ (List.mem_of_getElem? hi)]; exact (List.getElem?_eq_some_iff.1 hj).1
    have hlt : i * esz + j < E.length * esz := by
      have : (i + 1) * esz ≤ E.length * esz := Nat.mul_le_mul_right _ hil
      rw [Nat.add_mul, Nat.one_mul] at this
      omega
    simp only [vs, List.getElem?_map, List.getElem?_range hlt, Option.map_some, ← Nat.add_assoc, hu, Option.getD_some]
  · obtain ⟨k, hk, rfl⟩ := List.getElem_of_mem hu
    obtain ⟨hk2, hc⟩ := hget k _ (List.getElem?_eq_getElem hk)
    obtain ⟨u', p, c, hu', hd⟩ := all k hk2
    rw [hc] at hu'
    cases hu'
    exact hd.one

theorem sl_flat (hM : MemRel ρ m w) {esz : Nat} {c : CV} {v : Value} {E : List (List CC)} (h : slElems m esz c = some E) (hd : DenV ρ w c v) :
    ∃ ad cap vs, v = .slice ad E.length cap ∧ E.length ≤ cap ∧ cap ≤ maxLen ∧ FlatOf ρ w esz (posOf c) E ad vs := by
  unfold slElems at h
  split at h
  · rename_i e elems
    split at h
    · rename_i he
      have he : e = esz := Nat.eq_of_beq_eq_true he
      subst he
      cases h
      cases hd with
      | nil _ a cap hc => exact ⟨_, _, [], rfl, by simp, hc, by simp, by simp, by simp, by simp, by simp⟩
      | sl _ _ b off cap u hS hl hcap hsz hc hden =>
        obtain ⟨vs, hvs⟩ := flat_read (ρ := ρ) (w := w) (esz := e) (pos := fun _ _ => none) (E := elems.map fun ds => ds.map .dat) (b := b) (off := off) (fun cs hcs => by
          obtain ⟨ds, hds, rfl⟩ := List.mem_map.1 hcs
          simpa using hsz ds hds) (fun i cs j c hi hj => by
          rw [List.getElem?_map] at hi
          cases hi2 : elems[i]? with
          | none => rw [hi2] at hi; cases hi
          | some ds =>
            rw [hi2] at hi
            cases hi
            rw [List.getElem?_map] at hj
            cases hj2 : ds[j]? with
            | none => rw [hj2] at hj; cases hj
            | some d =>
              rw [hj2] at hj
              cases hj
              exact ⟨_, hc i ds j d hi2 hj2, hden i ds j d hi2 hj2⟩)
        exact ⟨_, cap, vs, by simp, by simpa using hl, hcap, hvs⟩
    · cases h
  · rename_i id e lo hi
    split at h
    · rename_i e2 rows hb
      rw [nth_eq] at hb
      split at h
      · rename_i he he2
        have he : e = esz := Nat.eq_of_beq_eq_true he
        have he2 : e2 = esz := Nat.eq_of_beq_eq_true he2
        subst he
        subst he2
        cases h
        obtain ⟨h2, h3, h4, h5, hcu⟩ := hM.bk id _ hb
        obtain ⟨hlt, d1, d2, d3, d4, ad, rfl, had⟩ := hd
        have hlen : (subL rows lo hi).length = hi.getD (ρ.loc (.root id)).len - lo := by
          rw [subL_eq]
          cases hi with
          | none => simp [h2]
          | some h => simp [h2]; simp at d2; omega
        have hget : ∀ i cs, (subL rows lo hi)[i]? = some cs → rows[lo + i]? = some cs := by
          intro i cs hics
          rw [subL_eq] at hics
          rw [List.getElem?_drop] at hics
          cases hi with
          | none => exact hics
          | some h =>
            rw [List.getElem?_take] at hics
            split at hics
            · exact hics
            · cases hics
        rw [← hlen]
        rcases Nat.eq_zero_or_pos (subL rows lo hi).length with h0 | h0
        · have hnil := List.eq_nil_of_length_eq_zero h0
          refine ⟨ad, _, [], rfl, by omega, by omega, ?_⟩
          rw [hnil]
          exact ⟨by simp, by simp, by simp, by simp, by simp⟩
        · have hpos : 0 < (ρ.loc (.root id)).cap := by clear hcu; omega
          obtain ⟨cur, hcur, h1, hden⟩ := hcu hpos
          rw [had (by clear hcu; omega)]
          obtain ⟨vs, hvs⟩ := flat_read (ρ := ρ) (w := w) (esz := e2) (pos := posOf (.rv (.one (.row id e2 lo hi)))) (E := subL rows lo hi) (b := (ρ.loc (.root id)).b) (off := (ρ.loc (.root id)).base + lo * e2) (fun cs hcs => by
            obtain ⟨i, hi', hget'⟩ := List.getElem_of_mem hcs
            have := hget i cs (by rw [List.getElem?_eq_getElem hi', hget'])
            exact h5 cs (List.mem_of_getElem? this)) (fun i cs j c hi' hj' => by
            obtain ⟨u, hu, hdu⟩ := hden (lo + i) cs j c (hget i cs hi') hj'
            refine ⟨u, ?_, hdu⟩
            rw [hcur.cell, ← hu]
            congr 1
            rw [Nat.add_mul]
            omega)
          exact ⟨_, _, vs, rfl, by clear hcu; omega, by clear hcu; omega, hvs⟩
      · cases h
    · cases h
  · cases h
    obtain ⟨ad, rfl⟩ := hd
    exact ⟨ad, 0, [], rfl, by simp, by unfold maxLen; omega, by simp, by simp, by simp, by simp, by simp⟩
  · cases h

theorem FlatOf.firstCells {esz : Nat} {pos : Nat → Nat → Option (Nat × Nat × Nat)} {E : List (List CC)} {ad : Option Addr} {vs : List Value} (h : FlatOf ρ w esz pos E ad vs) (cap k : Nat) :
    (Builtin.firstCells esz E.length (.slice ad E.length cap)).run P (w.drewN k) = .ok vs.toArray (w.drewN k) := by
  rcases Nat.eq_zero_or_pos E.length with h0 | h0
  · have hv : vs = [] := List.eq_nil_of_length_eq_zero (by rw [h.len, h0]; simp)
    subst hv
    rw [h0]
    cases ad <;> simp [Builtin.firstCells, loadCells, loadCellsFrom]
  · obtain ⟨b, off, rfl, hc⟩ := h.at_ h0
    exact run_firstCells_some (P := P) (w.drewN k) esz E.length ⟨b, off, none⟩ E.length cap vs h.len fun j v hj => by
      rw [add_mk]
      exact hc j v hj

theorem kill_spec (m : Mem) (c : CV) : (kill m c).length = m.length ∧ ∀ (id : Nat) b, (kill m c)[id]? = some b → b = .dead ∨ (m[id]? = some b ∧ ¬ ∃ e lo hi, c = .rv (.one (.row id e lo hi))) := by
  unfold kill
  split
  · rename_i id e lo hi
    rw [setN_eq]
    refine ⟨by simp, fun k b hb => ?_⟩
    by_cases hk : id = k
    · subst hk
      have hlt : id < m.length := by
        rcases Nat.lt_or_ge id m.length with h | h
        · exact h
        · rw [List.getElem?_eq_none (by simpa using h)] at hb; cases hb
      rw [List.getElem?_set_self hlt] at hb
      cases hb
      exact .inl rfl
    · rw [List.getElem?_set_ne hk] at hb
      refine .inr ⟨hb, ?_⟩
      rintro ⟨_, _, _, h⟩
      cases h
      exact hk rfl
  · rename_i hno
    refine ⟨rfl, fun k b hb => .inr ⟨hb, ?_⟩⟩
    rintro ⟨e, lo, hi, rfl⟩
    exact hno _ _ _ _ rfl

/-- the keys of a new row's cells -/
def srcKey (c1 c2 : CV) (n1 : Nat) (i j : Nat) : Key :=
  if i < n1 then (match posOf c1 i j with | some (a, b, c) => .sub a b c | none => .root 0)
  else (match posOf c2 (i - n1) j with | some (a, b, c) => .sub a b c | none => .root 0)

theorem slElems_own {esz : Nat} {c : CV} {E : List (List CC)} (h : slElems m esz c = some E) {i j : Nat} {cs : List CC} {s : Nat} {e : List (List Dt)} (hi : E[i]? = some cs) (hj : cs[j]? = some (.own s e)) :
    ∃ id e0 lo hi', c = .rv (.one (.row id e0 lo hi')) ∧ OwnAt m id (lo + i) j s e := by
  unfold slElems at h
  split at h
  · split at h
    · cases h
      rw [List.getElem?_map] at hi
      cases hi2 : (_ : List (List Dt))[i]? with
      | none => rw [hi2] at hi; cases hi
      | some ds =>
        rw [hi2] at hi
        cases hi
        rw [List.getElem?_map] at hj
        cases hj2 : ds[j]? with
        | none => rw [hj2] at hj; cases hj
        | some d => rw [hj2] at hj; cases hj
    · cases h
  · rename_i id e0 lo hi'
    split at h
    · rename_i e2 rows hb
      rw [nth_eq] at hb
      split at h
      · cases h
        refine ⟨id, e0, lo, hi', rfl, _, rows, cs, hb, ?_, hj⟩
        rw [subL_eq, List.getElem?_drop] at hi
        cases hi' with
        | none => exact hi
        | some h =>
          rw [List.getElem?_take] at hi
          split at hi
          · exact hi
          · cases hi
      · cases h
    · cases h
  · cases h; simp at hi
  · cases h

theorem posOf_row {c : CV} {id e lo : Nat} {hi : Option Nat} (h : c = .rv (.one (.row id e lo hi))) (i j : Nat) : posOf c i j = some (id, lo + i, j) := by subst h; rfl

theorem app_sound0 (hM : MemRel ρ m w) (hE : EnvRel ρ w env a.tmps) {t t2 ty e e2 : TypeId} {i : TypeInfo} {z : List CC} {x y : Operand} {x' y' : X}
    (ht : P.underlying t = some (.slice e)) (ht2 : P.underlying t2 = some (.slice e2)) (hi : P.info? e = some i) (hz : zeroOf P e = some z) (hsz : i.size = z.length) (hpos : 0 < z.length) (hb : 0 < i.bytes)
    (hx : lowX x = some x') (hy : lowX y = some y') (hcond : (isOwnRow (x'.ev env) && neRow (x'.ev env) (y'.ev env)) = true)
    (g1 : ok (slElems m i.size (x'.ev env)) fun E1 => ok (slElems m i.size (y'.ev env)) fun E2 => (E1.length + E2.length) * i.bytes ≤ 140737488355328 ∧ lenK m fun n => K (.rv (.one (.row n i.size 0 none))) (app2 (kill (kill m (x'.ev env)) (y'.ev env)) [.row i.size (E1 ++ E2)])) :
    Res P (do pure (Next.value (← Builtin.append_ #[t, t2] ty #[a.eval x, a.eval y]))) ρ m w K := by
  have hd := lowX_den hE hx
  have hdy := lowX_den hE hy
  generalize a.eval x = v at hd ⊢
  generalize a.eval y = v2 at hdy ⊢
  generalize x'.ev env = c1 at hd hcond g1
  generalize y'.ev env = c2 at hdy hcond g1
  rw [Bool.and_eq_true] at hcond
  obtain ⟨hown, hne⟩ := hcond
  obtain ⟨E1, hE1, g2⟩ := ok_iff.1 g1
  obtain ⟨E2, hE2, hfit, g3⟩ := ok_iff.1 g2
  rw [lenK_eq, app2_eq] at g3
  obtain ⟨ad1, cap1, vs1, hv1, hle1, hcm1, F1⟩ := sl_flat hM hE1 hd
  obtain ⟨ad2, cap2, vs2, hv2, hle2, hcm2, F2⟩ := sl_flat hM hE2 hdy
  have hz0 := hz
  simp only [zeroOf, Option.bind_eq_bind, Option.bind_eq_some_iff] at hz0
  obtain ⟨i', hi', zv, hzv, hzc⟩ := hz0
  rw [hi] at hi'
  cases hi'
  have hzlen : zv.cells.size = i.size := by
    have := (lowCells_den (ρ := ρ) (w := w) hzc).1
    rw [hsz]; simpa using this
  have hsm : E1.length + E2.length ≤ 140737488355328 := Nat.le_trans (Nat.le_mul_of_pos_right _ hb) hfit
  have hrun := run_append_gen (P := P) (w := w) (ty := ty) ht ht2 hi hzv (a0 := ad1) (n1 := E1.length) (c1 := cap1) (n2 := E2.length) (src := v2) (olds := vs1) (news := vs2)
    (by rw [hv2]; rfl) (fun k => by rw [hv2]; exact F2.firstCells cap2 k) (fun k => F1.firstCells cap1 k) hb hfit
  rw [← hv1] at hrun
  -- the dead, and the keys
  let D : Nat → Prop := fun id => (∃ e lo hi, c1 = .rv (.one (.row id e lo hi))) ∨ (∃ e lo hi, c2 = .rv (.one (.row id e lo hi)))
  obtain ⟨k1, k2⟩ := kill_spec m c1
  obtain ⟨k3, k4⟩ := kill_spec (kill m c1) c2
  have hm1 : ∀ (id : Nat) b, (kill (kill m c1) c2)[id]? = some b → b = .dead ∨ (m[id]? = some b ∧ ¬ D id) := fun id b hb => by
    rcases k4 id b hb with h | ⟨h, hn⟩
    · exact .inl h
    · rcases k2 id b h with h | ⟨h, hn'⟩
      · exact .inl h
      · exact .inr ⟨h, fun hD => hD.elim hn' hn⟩
  let src := srcKey c1 c2 E1.length
  have each : ∀ cs, cs ∈ E1 ++ E2 → cs.length = i.size := fun cs hcs => (List.mem_append.1 hcs).elim (F1.each cs) (F2.each cs)
  have hcell : ∀ {ρ' : Rho} {w' : World}, Goes ρ w ρ' w' → (∀ i j, ρ'.loc (.sub ρ.n i j) = ρ.loc (src i j)) →
      ∀ (k : Nat) cs (j : Nat) c, (E1 ++ E2)[k]? = some cs → cs[j]? = some c → ∃ u, (vs1 ++ vs2)[k * i.size + j]? = some u ∧ DenC ρ' w' (some (ρ.n, k, j)) c u := by
    intro ρ' w' g hloc k cs j c hk hj
    have hjl : j < i.size := by rw [← each cs (List.mem_of_getElem? hk)]; exact (List.getElem?_eq_some_iff.1 hj).1
    have conv : ∀ (p : Option (Nat × Nat × Nat)) u, DenC ρ w p c u → (∀ a b d, p = some (a, b, d) → a < ρ.n ∧ src k j = .sub a b d) → DenC ρ' w' (some (ρ.n, k, j)) c u := by
      intro p u hdu hp
      have h1 := hdu.goes g (fun a b d hpe => (hp a b d hpe).1)
      cases c <;> try exact h1
      obtain ⟨a, b, d, hpe, hrest⟩ := hdu
      obtain ⟨_, hs⟩ := hp a b d hpe
      exact ⟨ρ.n, k, j, rfl, by rw [hloc, hs]; exact hrest⟩
    have posn : ∀ {cc : CV} {vv : Value} {i j a b d : Nat}, DenV ρ w cc vv → posOf cc i j = some (a, b, d) → a < ρ.n := by
      intro cc vv i j a b d hdd hp
      unfold posOf at hp
      split at hp
      · cases hp
        exact hdd.1
      · cases hp
    rcases Nat.lt_or_ge k E1.length with hlt | hge
    · rw [List.getElem?_append_left hlt] at hk
      obtain ⟨u, hu, hdu⟩ := F1.den k cs j c hk hj
      refine ⟨u, ?_, conv _ u hdu fun a b d hp => ⟨posn hd hp, by simp only [src, srcKey, if_pos hlt, hp]⟩⟩
      rw [List.getElem?_append_left]
      · exact hu
      · exact (List.getElem?_eq_some_iff.1 hu).1
    · rw [List.getElem?_append_right hge] at hk
      obtain ⟨u, hu, hdu⟩ := F2.den (k - E1.length) cs j c hk hj
      refine ⟨u, ?_, conv _ u hdu fun a b d hp => ⟨posn hdy hp, by simp only [src, srcKey, if_neg (show ¬ k < E1.length by omega), hp]⟩⟩
      rw [List.getElem?_append_right]
      · rw [← hu]
        congr 1
        rw [F1.len, Nat.sub_mul]
        have : E1.length * i.size ≤ k * i.size := Nat.mul_le_mul_right _ hge
        omega
      · rw [F1.len]
        have : E1.length * i.size ≤ k * i.size := Nat.mul_le_mul_right _ hge
        omega
  have hownk : ∀ (k : Nat) cs (j : Nat) s e, (E1 ++ E2)[k]? = some cs → cs[j]? = some (.own s e) → ∃ id' i' j', src k j = .sub id' i' j' ∧ D id' ∧ OwnAt m id' i' j' s e := by
    intro k cs j s e hk hj
    rcases Nat.lt_or_ge k E1.length with hlt | hge
    · rw [List.getElem?_append_left hlt] at hk
      obtain ⟨id, e0, lo, hi', hc, ho⟩ := slElems_own hE1 hk hj
      exact ⟨id, lo + k, j, by simp only [src, srcKey, if_pos hlt, posOf_row hc], .inl ⟨_, _, _, hc⟩, ho⟩
    · rw [List.getElem?_append_right hge] at hk
      obtain ⟨id, e0, lo, hi', hc, ho⟩ := slElems_own hE2 hk hj
      exact ⟨id, lo + (k - E1.length), j, by simp only [src, srcKey, if_neg (show ¬ k < E1.length by omega), posOf_row hc], .inr ⟨_, _, _, hc⟩, ho⟩
  have hinj : ∀ i j i' j', src i j = src i' j' → (∃ cs s e, (E1 ++ E2)[i]? = some cs ∧ cs[j]? = some (.own s e)) → (∃ cs s e, (E1 ++ E2)[i']? = some cs ∧ cs[j']? = some (.own s e)) → i = i' ∧ j = j' := by
    have side : ∀ k j, (∃ cs s e, (E1 ++ E2)[k]? = some cs ∧ cs[j]? = some (.own s e)) →
        (k < E1.length ∧ ∃ id e0 lo hi', c1 = .rv (.one (.row id e0 lo hi')) ∧ src k j = .sub id (lo + k) j) ∨ (E1.length ≤ k ∧ ∃ id e0 lo hi', c2 = .rv (.one (.row id e0 lo hi')) ∧ src k j = .sub id (lo + (k - E1.length)) j) := by
      rintro k j ⟨cs, s, e, hk, hj⟩
      rcases Nat.lt_or_ge k E1.length with hlt | hge
      · rw [List.getElem?_append_left hlt] at hk
        obtain ⟨id, e0, lo, hi', hc, ho⟩ := slElems_own hE1 hk hj
        exact .inl ⟨hlt, id, e0, lo, hi', hc, by simp only [src, srcKey, if_pos hlt, posOf_row hc]⟩
      · rw [List.getElem?_append_right hge] at hk
        obtain ⟨id, e0, lo, hi', hc, ho⟩ := slElems_own hE2 hk hj
        exact .inr ⟨hge, id, e0, lo, hi', hc, by simp only [src, srcKey, if_neg (show ¬ k < E1.length by omega), posOf_row hc]⟩
    intro k j k' j' hs hk hk'
    rcases side k j hk with ⟨h1, id, e0, lo, hi0, hc, hsk⟩ | ⟨h1, id, e0, lo, hi0, hc, hsk⟩ <;> rcases side k' j' hk' with ⟨h2, id2, e02, lo2, hi02, hc2, hsk2⟩ | ⟨h2, id2, e02, lo2, hi02, hc2, hsk2⟩
    · rw [hc] at hc2
      injection hc2 with hc2; injection hc2 with hc2; injection hc2 with q1 q2 q3 q4
      subst q3
      rw [hsk, hsk2] at hs
      injection hs with q5 q6 q7
      exact ⟨by omega, q7⟩
    · rw [hsk, hsk2] at hs
      injection hs with q5 q6 q7
      rw [hc, hc2] at hne
      simp only [neRow, Bool.not_eq_true'] at hne
      exact absurd q5 (Nat.ne_of_beq_eq_false hne)
    · rw [hsk, hsk2] at hs
      injection hs with q5 q6 q7
      rw [hc, hc2] at hne
      simp only [neRow, Bool.not_eq_true'] at hne
      exact absurd q5.symm (Nat.ne_of_beq_eq_false hne)
    · rw [hc] at hc2
      injection hc2 with hc2; injection hc2 with hc2; injection hc2 with q1 q2 q3 q4
      subst q3
      rw [hsk, hsk2] at hs
      injection hs with q5 q6 q7
      exact ⟨by omega, q7⟩
  have moveLoc : ∀ (l : Loc) i j, (ρ.move l src).loc (.sub ρ.n i j) = ρ.loc (src i j) := by intro l i j; simp [Rho.move]
  have moveRoot : ∀ (l : Loc), (ρ.move l src).loc (.root m.length) = l := by intro l; rw [← hM.n]; simp [Rho.move]
  have hfl : ∀ (l : Loc), l.len = E1.length + E2.length → l.cap ≤ maxLen → l.len ≤ l.cap → ∀ ad, (0 < l.cap → ad = some ⟨l.b, l.base, none⟩) → ∀ w', DenV (ρ.move l src) w' (.rv (.one (.row m.length i.size 0 none))) (.slice ad (E1.length + E2.length) l.cap) := by
    intro l hl hc hlc ad had w'
    refine ⟨by simp [Rho.move, hM.n], by simp, by simp, by rw [moveRoot]; exact hlc, by rw [moveRoot]; exact hc, ad, ?_, ?_⟩
    · rw [moveRoot]; simp [hl]
    · rw [moveRoot]; intro h0; rw [had h0]; simp
  by_cases hroom : E1.length + E2.length ≤ cap1
  · rw [if_pos hroom] at hrun
    rcases Nat.eq_zero_or_pos cap1 with hc0 | hc0
    · -- nothing is there, nothing comes
      have n1 : E1.length = 0 := by omega
      have n2 : E2.length = 0 := by omega
      have hv20 : vs2 = [] := List.eq_nil_of_length_eq_zero (by rw [F2.len, n2]; simp)
      subst hv20
      have hst : ((stoAt ad1 (E1.length * i.size) []).run P w) = .ok () w := by
        cases ad1 <;> simp [stoAt, storeCells]
      rw [hst] at hrun
      simp only [Result.andThen_ok] at hrun
      let l : Loc := ⟨0, 0, 0, 0⟩
      obtain ⟨hM', hX'⟩ := hM.move (m1 := kill (kill m c1) c2) (D := D) (esz := i.size) (E := E1 ++ E2) (l := l) (src := src) (w' := w) (by rw [k3, k1]) hm1 (Nat.le_refl _) rfl rfl rfl (fun _ _ _ => rfl)
        (by simp [l]) (by simp [l, n1, n2]) (Nat.le_refl _) (by simp [l]) each (by simp [l]) hownk hinj
      refine ⟨_, _, w, _, _, _, by rw [Sem.run_bind, hrun]; rfl, .inl rfl, g3, hM', ?_, hX'⟩
      have := hfl l (by simp [l, n1, n2]) (by simp [l]) (Nat.le_refl _) ad1 (by simp [l]) w
      rw [hc0]
      exact this
    · -- there is room
      have hrow : ∃ id lo hi', c1 = .rv (.one (.row id i.size lo hi')) ∧ Live ρ m (.root id) ∧ ad1 = some ⟨(ρ.loc (.root id)).b, (ρ.loc (.root id)).base + lo * i.size, none⟩ ∧ cap1 = (ρ.loc (.root id)).cap - lo ∧
          ∃ cur, Cur (i.size = 1) w (ρ.loc (.root id)).b cur ∧ (ρ.loc (.root id)).base + (ρ.loc (.root id)).cap * i.size ≤ cur.size := by
        unfold slElems at hE1
        split at hE1
        · simp [isOwnRow] at hown
        · rename_i id e0 lo hi'
          split at hE1
          · rename_i e2' rows hbk
            rw [nth_eq] at hbk
            split at hE1
            · rename_i q1 q2
              have q1 : e0 = i.size := Nat.eq_of_beq_eq_true q1
              have q2 : e2' = i.size := Nat.eq_of_beq_eq_true q2
              subst q1
              rw [q2] at hbk
              obtain ⟨r2, r3, r4, r5, rcu⟩ := hM.bk id _ hbk
              obtain ⟨hlt, d1, d2, d3, d4, ad, hve, had⟩ := hd
              rw [hve] at hv1
              injection hv1 with hv1a hv1b hv1c
              have hcp : 0 < (ρ.loc (.root id)).cap := by clear rcu; omega
              obtain ⟨cur, hcur, h1, _⟩ := rcu hcp
              exact ⟨id, lo, hi', rfl, ⟨_, hbk, by simp, fun _ => hcp⟩, by rw [← hv1a]; exact had (by clear rcu; omega), hv1c.symm, cur, hcur, h1⟩
            · cases hE1
          · cases hE1
        · cases hE1
          obtain ⟨ad, hve⟩ := hd
          rw [hve] at hv1
          injection hv1 with _ _ hv1c
          omega
        · cases hE1
      obtain ⟨id, lo, hi', rfl, hlv, rfl, hcap1, cur, hcur, hcs⟩ := hrow
      have hlo : lo + cap1 = (ρ.loc (.root id)).cap := by omega
      have hbound : (ρ.loc (.root id)).base + lo * i.size + cap1 * i.size ≤ cur.size := by
        have : (lo + cap1) * i.size = lo * i.size + cap1 * i.size := Nat.add_mul ..
        rw [← hlo, this] at hcs
        omega
      have hroom2 : E1.length * i.size + E2.length * i.size ≤ cap1 * i.size := by
        rw [← Nat.add_mul]; exact Nat.mul_le_mul_right _ hroom
      obtain ⟨w', cur', hst, hc', ht', hsz', hk'⟩ := run_stores (P := P) (ρ.loc (.root id)).b ((ρ.loc (.root id)).base + lo * i.size + E1.length * i.size) vs2 0 cur w hcur (by rw [F2.len]; omega) F2.one
      have hrun2 : (Builtin.append_ #[t, t2] ty #[v, v2]).run P w = .ok (.slice (some ⟨(ρ.loc (.root id)).b, (ρ.loc (.root id)).base + lo * i.size, none⟩) (E1.length + E2.length) cap1) w' := by
        rw [hrun]
        simp only [stoAt, add_mk]
        rw [hst]
        rfl
      let l : Loc := ⟨(ρ.loc (.root id)).b, (ρ.loc (.root id)).base + lo * i.size, E1.length + E2.length, cap1⟩
      have hlive := hM.live _ hlv
      obtain ⟨hM', hX'⟩ := hM.move (m1 := kill (kill m (.rv (.one (.row id i.size lo hi')))) c2) (D := D) (esz := i.size) (E := E1 ++ E2) (l := l) (src := src) (w' := w') (by rw [k3, k1]) hm1 (Nat.le_of_eq ht'.size.symm) ht'.os ht'.tape ht'.output
        (fun b hb hn => ht'.heap b fun e => hn id (.inl ⟨_, _, _, rfl⟩) hlv e.symm) (fun _ => ⟨by rw [ht'.size]; exact hlive.1, .inr ⟨id, .inl ⟨_, _, _, rfl⟩, hlv, rfl⟩⟩) (by simp [l]) hroom hcm1 each
        (fun g _ => ⟨cur', hc', by rw [hsz']; exact hbound, fun k cs j c hk hj => by
          obtain ⟨u, hu, hdu⟩ := hcell g (moveLoc l) k cs j c hk hj
          refine ⟨u, ?_, hdu⟩
          rw [hk']
          simp only [l, Nat.add_zero]
          have hlt := (List.getElem?_eq_some_iff.1 hu).1
          rw [List.length_append, F1.len, F2.len] at hlt
          rcases Nat.lt_or_ge (k * i.size + j) (E1.length * i.size) with hl1 | hl1
          · rw [if_neg (by omega)]
            rw [List.getElem?_append_left (by rw [F1.len]; exact hl1)] at hu
            obtain ⟨b', off', hade, hrd⟩ := F1.at_ (by
              rcases Nat.eq_zero_or_pos E1.length with h0 | h0
              · rw [h0] at hl1; simp at hl1
              · exact h0)
            injection hade with hade
            injection hade with hb1 hb2
            have hh := hrd _ u hu
            rw [← hb1, ← hb2, hcur.cell] at hh
            rw [← hh]
            congr 1
            omega
          · rw [if_pos (by rw [F2.len]; omega)]
            rw [List.getElem?_append_right (by rw [F1.len]; exact hl1)] at hu
            rw [← hu]
            congr 1
            rw [F1.len]
            omega⟩) hownk hinj
      refine ⟨_, _, w', _, _, _, by rw [Sem.run_bind, hrun2]; rfl, .inl rfl, g3, hM', ?_, hX'⟩
      exact hfl l rfl hcm1 hroom _ (fun _ => rfl) w'
  · -- a new block
    rw [if_neg hroom] at hrun
    have hge := grownCap_ge w (E1.length + E2.length) cap1 e
    have hgm : grownCap w (E1.length + E2.length) cap1 e ≤ maxLen := grownCap_le_maxLen w _ cap1 e (by unfold maxLen; omega)
    let cells : Array Value := vs1.toArray ++ vs2.toArray ++ Builtin.zeroCells zv.cells (grownCap w (E1.length + E2.length) cap1 e - (E1.length + E2.length))
    let l : Loc := ⟨w.heap.size, 0, E1.length + E2.length, grownCap w (E1.length + E2.length) cap1 e⟩
    have hcsz : cells.size = grownCap w (E1.length + E2.length) cap1 e * i.size := by
      simp only [cells, Array.size_append, List.size_toArray, F1.len, F2.len, size_zeroCells, hzlen, ← Nat.add_mul]
      congr 1
      omega
    have hnew : Cur (i.size = 1) (w.drew.alloc (.cells cells e)) w.heap.size cells := Cur.new w.drew cells e
    obtain ⟨hM', hX'⟩ := hM.move (m1 := kill (kill m c1) c2) (D := D) (esz := i.size) (E := E1 ++ E2) (l := l) (src := src) (w' := w.drew.alloc (.cells cells e)) (by rw [k3, k1]) hm1 (by simp) rfl rfl rfl
      (fun b hb _ => heap_alloc_old w.drew _ b hb) (fun _ => ⟨hnew.lt, .inl (Nat.le_refl _)⟩) (by simp [l]) hge hgm each
      (fun g _ => ⟨cells, hnew, by simp only [l, Nat.zero_add]; rw [hcsz]; exact Nat.le_refl _, fun k cs j c hk hj => by
        obtain ⟨u, hu, hdu⟩ := hcell g (moveLoc l) k cs j c hk hj
        refine ⟨u, ?_, hdu⟩
        have hlt := (List.getElem?_eq_some_iff.1 hu).1
        simp only [l, Nat.zero_add, cells]
        rw [Array.getElem?_append_left (by simpa using hlt)]
        simpa using hu⟩) hownk hinj
    refine ⟨_, _, _, _, _, _, by rw [Sem.run_bind, hrun]; rfl, .inl rfl, g3, hM', ?_, hX'⟩
    exact hfl l rfl hgm hge _ (fun _ => rfl) _

end
end Go.AM
