import Derived.Test.YtbemknkbegkflaaAmB
set_option linter.unusedSimpArgs false
set_option linter.unnecessarySimpa false
set_option linter.unusedVariables false
/-! What an instruction does in the abstract it does in the world: memory. -/
namespace Go.AM

theorem nth_eq {α : Type} : ∀ (l : List α) (i : Nat), nth l i = l[i]?
  | [], _ => by simp [nth]
  | _ :: _, 0 => rfl
  | _ :: r, k + 1 => by simpa [nth] using nth_eq r k
theorem setN_eq {α : Type} : ∀ (l : List α) (i : Nat) (x : α), setN l i x = l.set i x
  | [], _, _ => rfl
  | _ :: _, 0, _ => rfl
  | a :: r, k + 1, x => by simp [setN, setN_eq r k x]
theorem app2_eq {α : Type} : ∀ (a b : List α), app2 a b = a ++ b
  | [], _ => rfl
  | x :: r, b => by simp [app2, app2_eq r b]
theorem repl_eq {α : Type} : ∀ (n : Nat) (x : α), repl n x = List.replicate n x
  | 0, _ => rfl
  | n + 1, x => by simp [repl, repl_eq n x, List.replicate_succ]
theorem force_eq {α : Type} {β : Sort _} : ∀ (l : List α) (k : List α → β), force l k = k l
  | [], _ => rfl
  | x :: r, k => force_eq r fun r' => k (x :: r')
theorem fV_eq {β : Sort _} (v : CV) (k : CV → β) : fV v k = k v := by
  cases v with
  | rv r =>
    cases r with
    | one c => rfl
    | agg cs => exact force_eq cs _
  | _ => rfl
theorem getE_eq : ∀ (e : List CV) (i : Nat), getE e i = (e[i]?).getD .junk
  | [], _ => by simp [getE]
  | _ :: _, 0 => rfl
  | _ :: r, k + 1 => by simpa [getE] using getE_eq r k
theorem ok_iff {α : Type} {o : Option α} {K : α → Prop} : ok o K ↔ ∃ x, o = some x ∧ K x := by
  cases o <;> simp [ok]
theorem bB_iff {t : Bool} {A B : Prop} : bB t A B ↔ (t = true ∧ A) ∨ (t = false ∧ B) := by
  cases t <;> simp [bB]
theorem lenGo_eq {β : Sort _} (m0 : Mem) : ∀ (m : Mem) (c n : Nat) (k : Nat → β), m0.length = c + m.length → lenGo m0 m (List.range' c n) k = k m0.length
  | [], c, 0, k, _ => by simp [lenGo]
  | [], c, n + 1, k, h => by simp [lenGo, List.range'_succ, h]
  | _ :: r, c, 0, k, h => by simp [lenGo]
  | _ :: r, c, n + 1, k, h => by
    rw [List.range'_succ, lenGo]
    exact lenGo_eq m0 r (c + 1) n k (by simp at h; omega)
theorem lenK_eq {β : Sort _} (m : Mem) (k : Nat → β) : lenK m k = k m.length := by
  have := lenGo_eq m m 0 64 k (by simp)
  exact this

theorem readN_spec : ∀ {cs : List CC} {j n : Nat} {l : List CC}, readN cs j n = some l → l.length = n ∧ ∀ i, i < n → cs[j + i]? = l[i]?
  | cs, 0, 0, l, h => by cases cs <;> simp [readN] at h <;> subst h <;> simp
  | [], 0, n + 1, l, h => by simp [readN] at h
  | [], j + 1, n, l, h => by cases n <;> simp [readN] at h
  | c :: cs, 0, n + 1, l, h => by
    simp only [readN] at h
    cases hr : readN cs 0 n with
    | none => simp [hr] at h
    | some l' =>
      simp [hr] at h
      subst h
      obtain ⟨h1, h2⟩ := readN_spec hr
      refine ⟨by simp [h1], fun i hi => ?_⟩
      cases i with
      | zero => simp
      | succ i => have := h2 i (by omega); simpa using this
  | c :: cs, j + 1, n, l, h => by
    have h' : readN cs j n = some l := by cases n <;> simpa [readN] using h
    obtain ⟨h1, h2⟩ := readN_spec h'
    refine ⟨h1, fun i hi => ?_⟩
    have := h2 i hi
    rw [show j + 1 + i = (j + i) + 1 by omega]
    simpa using this
theorem writeN_spec : ∀ {cs : List CC} {j : Nat} {xs l : List CC}, writeN cs j xs = some l →
    l.length = cs.length ∧ j + xs.length ≤ cs.length ∧ ∀ i, l[i]? = if j ≤ i ∧ i < j + xs.length then xs[i - j]? else cs[i]?
  | cs, 0, [], l, h => by
    cases cs <;> simp [writeN] at h <;> subst h
    · simp
    · refine ⟨rfl, by simp, fun i => ?_⟩
      rw [if_neg (by simp)]
  | [], 0, x :: xs, l, h => by simp [writeN] at h
  | [], j + 1, xs, l, h => by cases xs <;> simp [writeN] at h
  | c :: cs, 0, x :: xs, l, h => by
    simp only [writeN] at h
    cases hr : writeN cs 0 xs with
    | none => simp [hr] at h
    | some l' =>
      simp [hr] at h
      subst h
      obtain ⟨h1, h2, h3⟩ := writeN_spec hr
      refine ⟨by simp [h1], by simp at h2 ⊢; omega, fun i => ?_⟩
      cases i with
      | zero => simp
      | succ i =>
        have := h3 i
        simp only [Nat.zero_le, true_and, Nat.zero_add, Nat.sub_zero, List.length_cons, List.getElem?_cons_succ] at this ⊢
        rw [this]
        simp
  | c :: cs, j + 1, xs, l, h => by
    have h' : (writeN cs j xs).map (c :: ·) = some l := by
      rw [← h]
      cases hr : writeN cs j xs <;> cases xs <;> simp [writeN, hr]
    cases hr : writeN cs j xs with
    | none => simp [hr] at h'
    | some l' =>
      simp [hr] at h'
      subst h'
      obtain ⟨h1, h2, h3⟩ := writeN_spec hr
      refine ⟨by simp [h1], by simp; omega, fun i => ?_⟩
      cases i with
      | zero => rw [if_neg (by omega)]; simp
      | succ i =>
        have := h3 i
        simp only [List.getElem?_cons_succ, this]
        by_cases hc : j ≤ i ∧ i < j + xs.length
        · rw [if_pos hc, if_pos (by omega), show i + 1 - (j + 1) = i - j by omega]
        · rw [if_neg hc, if_neg (by omega)]
theorem readD_spec : ∀ {ds : List Dt} {n : Nat} {l : List CC}, readD ds n = some l → l.length = n ∧ ∀ i, i < n → ∃ d, ds[i]? = some d ∧ l[i]? = some (.dat d)
  | ds, 0, l, h => by cases ds <;> simp [readD] at h <;> subst h <;> simp
  | [], n + 1, l, h => by simp [readD] at h
  | d :: ds, n + 1, l, h => by
    simp only [readD] at h
    cases hr : readD ds n with
    | none => simp [hr] at h
    | some l' =>
      simp [hr] at h
      subst h
      obtain ⟨h1, h2⟩ := readD_spec hr
      refine ⟨by simp [h1], fun i hi => ?_⟩
      cases i with
      | zero => exact ⟨d, by simp, by simp⟩
      | succ i => simpa using h2 i (by omega)
theorem noOwn_spec : ∀ {l : List CC}, noOwn l = true → ∀ c, c ∈ l → ∀ esz e, c ≠ .own esz e
  | [], _, c, hc, _, _ => by simp at hc
  | x :: r, h, c, hc, esz, e => by
    cases x with
    | own a b => simp [noOwn] at h
    | _ =>
      rcases List.mem_cons.1 hc with rfl | hc
      · simp
      · exact noOwn_spec (l := r) (by simpa [noOwn] using h) c hc esz e
/-- no cell of the block owns -/
def Bk.free : Bk → Prop
  | .row _ elems => ∀ (i : Nat) cs (j : Nat) c, elems[i]? = some cs → cs[j]? = some c → ∀ esz e, c ≠ .own esz e
  | _ => True

/-- cells that are in the environment do not own -/
theorem DenC.notOwn {ρ : Rho} {w : World} {c : CC} {v : Value} (h : DenC ρ w .none c v) (esz : Nat) (e : List (List Dt)) : c ≠ .own esz e := by
  rintro rfl
  obtain ⟨_, _, _, e, _⟩ := h
  cases e
theorem DenC.anyPos {ρ : Rho} {w : World} {c : CC} {v : Value} (h : DenC ρ w .none c v) (pos : Option (Nat × Nat × Nat)) : DenC ρ w pos c v := by
  cases c <;> first | exact h | (obtain ⟨_, _, _, e, _⟩ := h; cases e)
theorem DenC.noPos {ρ : Rho} {w : World} {pos : Option (Nat × Nat × Nat)} {c : CC} {v : Value} (hn : ∀ esz e, c ≠ .own esz e) (h : DenC ρ w pos c v) : DenC ρ w .none c v := by
  cases c <;> first | exact h | exact absurd rfl (hn _ _)

def Rho.push (ρ : Rho) (l : Loc) : Rho :=
  { n := ρ.n + 1, loc := fun k => if k.id = ρ.n then l else ρ.loc k, S := ρ.S }
theorem Rho.push_old (ρ : Rho) (l : Loc) {k : Key} (h : k.id < ρ.n) : (ρ.push l).loc k = ρ.loc k := by
  simp only [Rho.push]; rw [if_neg (by omega)]
theorem Rho.push_new (ρ : Rho) (l : Loc) : (ρ.push l).loc (.root ρ.n) = l := by
  simp [Rho.push, Key.id]

/-- one block more, and what is ahead of it as it was -/
structure Wider (w w' : World) : Prop where
  heap : ∀ b, b < w.heap.size → w'.heap[b]? = w.heap[b]?
  size : w.heap.size ≤ w'.heap.size
  os : w'.os = w.os
  tape : w'.tape = w.tape
  output : w'.output = w.output
theorem Wider.refl (w : World) : Wider w w := ⟨fun _ _ => rfl, Nat.le_refl _, rfl, rfl, rfl⟩
theorem Wider.alloc (w : World) (o : Obj) : Wider w (w.alloc o) := ⟨fun b h => heap_alloc_old w o b h, by simp, rfl, rfl, rfl⟩
theorem Wider.drew (w : World) : Wider w w.drew := ⟨fun _ _ => rfl, Nat.le_refl _, rfl, rfl, rfl⟩
theorem Wider.trans {a b c : World} (h : Wider a b) (k : Wider b c) : Wider a c :=
  ⟨fun x hx => (k.heap x (Nat.lt_of_lt_of_le hx h.size)).trans (h.heap x hx), Nat.le_trans h.size k.size, k.os.trans h.os, k.tape.trans h.tape, k.output.trans h.output⟩

theorem BkRel.goes {ρ ρ' : Rho} {w w' : World} {id : Nat} {bk : Bk} (g : Goes ρ w ρ' w') (hid : id < ρ.n) (hb : bk ≠ .dead → ((∃ esz elems, bk = .row esz elems) → 0 < (ρ.loc (.root id)).cap) → w'.heap[(ρ.loc (.root id)).b]? = w.heap[(ρ.loc (.root id)).b]?)
    (h : BkRel ρ w id bk) : BkRel ρ' w' id bk := by
  have hl : ρ'.loc (.root id) = ρ.loc (.root id) := g.loc (.root id) hid
  cases bk with
  | dead => trivial
  | var cs =>
    obtain ⟨cur, hc, hd⟩ := h
    refine ⟨cur, by rw [hl]; exact hc.same (hb (by simp) (by rintro ⟨_, _, e⟩; cases e)), fun j c hj => ?_⟩
    obtain ⟨u, hu, hdu⟩ := hd j c hj
    exact ⟨u, by rw [hl]; exact hu, hdu.goes g (by simp)⟩
  | row esz elems =>
    obtain ⟨h2, h3, h4, h5, hcur⟩ := h
    refine ⟨by rw [hl]; exact h2, by rw [hl]; exact h3, by rw [hl]; exact h4, h5, fun hpos => ?_⟩
    rw [hl] at hpos
    obtain ⟨cur, hc, h1, h6⟩ := hcur hpos
    refine ⟨cur, by rw [hl]; exact hc.same (hb (by simp) fun _ => hpos), by rw [hl]; exact h1, fun i cs j c hi hj => ?_⟩
    obtain ⟨u, hu, hdu⟩ := h6 i cs j c hi hj
    exact ⟨u, by rw [hl]; exact hu, hdu.goes g (by rintro id' i' j' e; cases e; exact hid)⟩
  | mp es =>
    obtain ⟨es', clock, hc, h1, h2⟩ := h
    refine ⟨es', clock, ⟨by rw [hl, hb (by simp) (by rintro ⟨_, _, e⟩; cases e)]; exact hc.1, hc.2⟩, h1, fun i e hi => ?_⟩
    obtain ⟨e', he', hk, hd⟩ := h2 i e hi
    exact ⟨e', he', hk, hd.goes g⟩
  | it cur left =>
    obtain ⟨mb, seen, ck, es', h2, h3, h4, h5, h6⟩ := h
    exact ⟨mb, seen, ck, es', by rw [hl, hb (by simp) (by rintro ⟨_, _, e⟩; cases e)]; exact h2, by rw [hl]; exact h3, g.S _ h4, by rw [g.heap mb h4]; exact h5, h6⟩

theorem OwnRel.goes {ρ ρ' : Rho} {w w' : World} (g : Goes ρ w ρ' w') {l : Loc} {esz : Nat} {elems : List (List Dt)} (hb : w'.heap[l.b]? = w.heap[l.b]?)
    (h : OwnRel ρ w l esz elems) : OwnRel ρ' w' l esz elems := by
  obtain ⟨cur, hc, h1, h2, h3⟩ := h
  refine ⟨cur, hc.same hb, h1, h2, fun i cs j d hi hj => ?_⟩
  obtain ⟨u, hu, hd⟩ := h3 i cs j d hi hj
  exact ⟨u, hu, hd.mono g.S g.heap⟩

theorem MemRel.id_lt {ρ : Rho} {m : Mem} {w : World} (hM : MemRel ρ m w) {id : Nat} {bk : Bk} (h : m[id]? = some bk) : id < ρ.n := by
  rw [hM.n]; exact (List.getElem?_eq_some_iff.1 h).1

theorem MemRel.pushL {ρ : Rho} {m : Mem} {w w' : World} {bk : Bk} {l : Loc} (hM : MemRel ρ m w) (hw : Wider w w') (h12 : Live (ρ.push l) (m ++ [bk]) (.root ρ.n) → w.heap.size ≤ l.b ∧ l.b < w'.heap.size)
    (hbk : BkRel (ρ.push l) w' m.length bk) (hf : bk.free) : MemRel (ρ.push l) (m ++ [bk]) w' ∧ Ext ρ m w (ρ.push l) (m ++ [bk]) w' := by
  have hn := hM.n
  have g : Goes ρ w (ρ.push l) w' := ⟨by simp [Rho.push], fun k hk => ρ.push_old l hk, fun b hb => hb, fun b hb => hw.heap b (hM.S b hb)⟩
  have get : ∀ {id : Nat} {b : Bk}, (m ++ [bk])[id]? = some b → (id < ρ.n ∧ m[id]? = some b) ∨ (id = ρ.n ∧ b = bk) := by
    intro id b hb
    rcases Nat.lt_or_ge id m.length with h | h
    · exact .inl ⟨by omega, by rwa [List.getElem?_append_left h] at hb⟩
    · rw [List.getElem?_append_right h] at hb
      have : id - m.length = 0 := by
        rcases Nat.eq_zero_or_pos (id - m.length) with h0 | h0
        · exact h0
        · rw [List.getElem?_eq_none (by simp; omega)] at hb; cases hb
      rw [this] at hb
      exact .inr ⟨by omega, by simpa using hb.symm⟩
  have ownOld : ∀ {id i j esz elems}, OwnAt (m ++ [bk]) id i j esz elems → id < ρ.n ∧ OwnAt m id i j esz elems := by
    rintro id i j esz elems ⟨es, rows, cs, hb, hi, hj⟩
    rcases get hb with ⟨hlt, hb⟩ | ⟨_, rfl⟩
    · exact ⟨hlt, es, rows, cs, hb, hi, hj⟩
    · exact absurd rfl (hf i cs j _ hi hj esz elems)
  have liveOld : ∀ k, Live (ρ.push l) (m ++ [bk]) k → (k.id < ρ.n ∧ Live ρ m k) ∨ k = .root ρ.n := by
    intro k hk
    cases k with
    | root id =>
      obtain ⟨b, hb, hne, hcap⟩ := hk
      rcases get hb with ⟨hlt, hb⟩ | ⟨rfl, _⟩
      · rw [ρ.push_old l (k := .root id) hlt] at hcap
        exact .inl ⟨hlt, b, hb, hne, hcap⟩
      · exact .inr rfl
    | sub id i j =>
      obtain ⟨⟨esz, elems, ho⟩, hcap⟩ := hk
      obtain ⟨hlt, ho⟩ := ownOld ho
      rw [ρ.push_old l (k := .sub id i j) hlt] at hcap
      exact .inl ⟨hlt, ⟨esz, elems, ho⟩, hcap⟩
  have locNew : (ρ.push l).loc (.root ρ.n) = l := ρ.push_new l
  refine ⟨⟨by simp [Rho.push, hn], fun b hb => Nat.lt_of_lt_of_le (hM.S b hb) hw.size, ?_, ?_, ?_, ?_⟩, ⟨by simp [Rho.push], fun id hid => ρ.push_old l hid, fun b hb => hb, fun b hb => .inl hb, ?_, ?_, hw.size, hw.os, hw.tape, hw.output⟩⟩
  · intro k hk
    rcases liveOld k hk with ⟨hlt, hk⟩ | rfl
    · rw [ρ.push_old l hlt]
      exact ⟨Nat.lt_of_lt_of_le (hM.live k hk).1 hw.size, (hM.live k hk).2⟩
    · rw [locNew]
      exact ⟨(h12 hk).2, fun hs => by have := hM.S _ hs; have := (h12 hk).1; omega⟩
  · intro k k' hk hk' he
    rcases liveOld k hk with ⟨hlt, hk⟩ | rfl <;> rcases liveOld k' hk' with ⟨hlt', hk'⟩ | rfl
    · rw [ρ.push_old l hlt, ρ.push_old l hlt'] at he
      exact hM.inj k k' hk hk' he
    · rw [ρ.push_old l hlt, locNew] at he
      have := (hM.live k hk).1
      have := (h12 hk').1
      omega
    · rw [ρ.push_old l hlt', locNew] at he
      have := (hM.live k' hk').1
      have := (h12 hk).1
      omega
    · rfl
  · intro id b hb
    rcases get hb with ⟨hlt, hb⟩ | ⟨rfl, rfl⟩
    · exact (hM.bk id b hb).goes g hlt fun hne hcap => hw.heap _ (hM.live (.root id) ⟨b, hb, hne, hcap⟩).1
    · rw [hn]; exact hbk
  · intro id i j esz elems ho hcap
    obtain ⟨hlt, ho⟩ := ownOld ho
    rw [ρ.push_old l (k := .sub id i j) hlt] at hcap ⊢
    exact (hM.own id i j esz elems ho hcap).goes g (hw.heap _ (hM.live (.sub id i j) ⟨⟨esz, elems, ho⟩, hcap⟩).1)
  · intro k hk
    rcases liveOld k hk with ⟨hlt, hk⟩ | rfl
    · exact .inr ⟨k, hk, (by rw [ρ.push_old l hlt])⟩
    · exact .inl (by rw [locNew]; exact (h12 hk).1)
  · intro b hb _
    exact hw.heap b hb

theorem MemRel.push {ρ : Rho} {m : Mem} {w w' : World} {bk : Bk} {l : Loc} (hM : MemRel ρ m w) (hw : Wider w w') (h1 : w.heap.size ≤ l.b) (h2 : l.b < w'.heap.size)
    (hbk : BkRel (ρ.push l) w' m.length bk) (hf : bk.free) : MemRel (ρ.push l) (m ++ [bk]) w' ∧ Ext ρ m w (ρ.push l) (m ++ [bk]) w' :=
  hM.pushL hw (fun _ => ⟨h1, h2⟩) hbk hf

/-- a world in which one block is another -/
structure Turned (w w' : World) (g : Nat) : Prop where
  heap : ∀ b, b ≠ g → w'.heap[b]? = w.heap[b]?
  size : w'.heap.size = w.heap.size
  os : w'.os = w.os
  tape : w'.tape = w.tape
  output : w'.output = w.output

theorem MemRel.upd {ρ : Rho} {m : Mem} {w w' : World} {id : Nat} {bk bk' : Bk} (hM : MemRel ρ m w) (hid : m[id]? = some bk) (hlive : Live ρ m (.root id))
    (hw : Turned w w' (ρ.loc (.root id)).b) (hbk : Goes ρ w ρ w' → BkRel ρ w' id bk')
    (hown : ∀ i j esz e, OwnAt (m.set id bk') id i j esz e → OwnAt m id i j esz e) : MemRel ρ (m.set id bk') w' ∧ Ext ρ m w ρ (m.set id bk') w' := by
  have hlt : id < m.length := (List.getElem?_eq_some_iff.1 hid).1
  have hS := (hM.live _ hlive).2
  have g : Goes ρ w ρ w' := ⟨Nat.le_refl _, fun _ _ => rfl, fun _ h => h, fun b hb => hw.heap b fun e => hS (e ▸ hb)⟩
  have get : ∀ {k : Nat} {b : Bk}, (m.set id bk')[k]? = some b → (k ≠ id ∧ m[k]? = some b) ∨ (k = id ∧ b = bk') := by
    intro k b hb
    by_cases hk : k = id
    · subst hk
      rw [List.getElem?_set_self hlt] at hb
      exact .inr ⟨rfl, by simpa using hb.symm⟩
    · rw [List.getElem?_set_ne (Ne.symm hk)] at hb
      exact .inl ⟨hk, hb⟩
  have ownOld : ∀ {k i j esz e}, OwnAt (m.set id bk') k i j esz e → OwnAt m k i j esz e := by
    intro k i j esz e ho
    by_cases hk : k = id
    · subst hk; exact hown i j esz e ho
    · obtain ⟨es, rows, cs, hb, hi, hj⟩ := ho
      rw [List.getElem?_set_ne (Ne.symm hk)] at hb
      exact ⟨es, rows, cs, hb, hi, hj⟩
  have liveOld : ∀ k, Live ρ (m.set id bk') k → Live ρ m k := by
    intro k hk
    cases k with
    | root k =>
      obtain ⟨b, hb, hn, hcap⟩ := hk
      rcases get hb with ⟨_, hb⟩ | ⟨rfl, _⟩
      · exact ⟨b, hb, hn, hcap⟩
      · exact hlive
    | sub k i j =>
      obtain ⟨⟨esz, e, ho⟩, hcap⟩ := hk
      exact ⟨⟨esz, e, ownOld ho⟩, hcap⟩
  refine ⟨⟨by simp [hM.n], fun b hb => by rw [hw.size]; exact hM.S b hb, fun k hk => by rw [hw.size]; exact hM.live k (liveOld k hk), fun k k' hk hk' => hM.inj k k' (liveOld k hk) (liveOld k' hk'), ?_, ?_⟩,
    ⟨Nat.le_refl _, fun _ _ => rfl, fun _ h => h, fun _ h => .inl h, fun k hk => .inr ⟨k, liveOld k hk, rfl⟩, fun b _ hk => hw.heap b fun e => hk _ hlive e.symm, by rw [hw.size]; exact Nat.le_refl _, hw.os, hw.tape, hw.output⟩⟩
  · intro k b hb
    rcases get hb with ⟨hne', hb⟩ | ⟨rfl, rfl⟩
    · refine (hM.bk k b hb).goes g (hM.id_lt hb) fun hn hcap => hw.heap _ fun e => ?_
      have := hM.inj (.root k) (.root id) ⟨b, hb, hn, hcap⟩ hlive e
      injection this with this
      exact hne' this
    · exact hbk g
  · intro k i j esz e ho hcap
    have ho' := ownOld ho
    refine (hM.own k i j esz e ho' hcap).goes g (hw.heap _ fun he => ?_)
    have := hM.inj (.sub k i j) (.root id) ⟨⟨esz, e, ho'⟩, hcap⟩ hlive he
    cases this

theorem DenC.cut {ρ : Rho} {w : World} {pos : Option (Nat × Nat × Nat)} {c : CC} {v : Value} {n : Nat} (h : DenC ρ w pos c v) (hi : c.idsLt n) : DenC { ρ with n := n } w pos c v := by
  cases c <;> simp only [DenC, CC.idsLt] at h hi ⊢
  case ptr => exact ⟨hi, h.2⟩
  case eptr => exact ⟨hi, h.2⟩
  case row => exact ⟨hi, h.2⟩
  case map => exact ⟨hi, h.2⟩
  case fn => exact ⟨hi, h.2⟩
  all_goals exact h
theorem DenR.cut {ρ : Rho} {w : World} {r : RV} {v : Value} {n : Nat} (h : DenR ρ w r v) (hi : r.idsLt n) : DenR { ρ with n := n } w r v := by
  cases r with
  | one c => exact DenC.cut h hi
  | agg cs =>
    obtain ⟨vs, hv, hl, hc⟩ := h
    exact ⟨vs, hv, hl, fun i c hj => let ⟨u, hu, hd⟩ := hc i c hj; ⟨u, hu, hd.cut (hi c (List.mem_of_getElem? hj))⟩⟩
theorem DenV.cut {ρ : Rho} {w : World} {c : CV} {v : Value} {n : Nat} (h : DenV ρ w c v) (hi : c.idsLt n) : DenV { ρ with n := n } w c v := by
  cases c with
  | junk => trivial
  | undef => exact h
  | rv r => exact DenR.cut h hi
  | tup rs =>
    obtain ⟨vs, hv, hl, hc⟩ := h
    exact ⟨vs, hv, hl, fun i c hj => let ⟨u, hu, hd⟩ := hc i c hj; ⟨u, hu, hd.cut (hi c (List.mem_of_getElem? hj))⟩⟩
theorem BkRel.cut {ρ : Rho} {w : World} {id : Nat} {bk : Bk} {n : Nat} (h : BkRel ρ w id bk) (hi : bk.idsLt n) : BkRel { ρ with n := n } w id bk := by
  cases bk with
  | dead => trivial
  | var cs =>
    obtain ⟨cur, hc, hd⟩ := h
    exact ⟨cur, hc, fun j c hj => let ⟨u, hu, hdu⟩ := hd j c hj; ⟨u, hu, hdu.cut (hi c (List.mem_of_getElem? hj))⟩⟩
  | row esz elems =>
    obtain ⟨h2, h3, h4, h5, hcur⟩ := h
    refine ⟨h2, h3, h4, h5, fun hpos => ?_⟩
    obtain ⟨cur, hc, h1, h6⟩ := hcur hpos
    exact ⟨cur, hc, h1, fun i cs j c h7 h8 => let ⟨u, hu, hdu⟩ := h6 i cs j c h7 h8; ⟨u, hu, hdu.cut (hi cs (List.mem_of_getElem? h7) c (List.mem_of_getElem? h8))⟩⟩
  | mp es =>
    obtain ⟨es', clock, hc, h1, h2⟩ := h
    exact ⟨es', clock, hc, h1, fun i e h7 => let ⟨e', he', hk, hd⟩ := h2 i e h7; ⟨e', he', hk, hd.cut (hi e (List.mem_of_getElem? h7))⟩⟩
  | it cur left => exact h
theorem MemLe.spec {m m' : Mem} (h : MemLe m m') : m'.length ≤ m.length ∧ ∀ (i : Nat) b, m'[i]? = some b → ∃ b0, m[i]? = some b0 ∧ (b = b0 ∨ b = .dead) := by
  induction h with
  | nil m => exact ⟨by simp, fun i b hb => by simp at hb⟩
  | cons h hm ih =>
    refine ⟨by simp [ih.1], fun i b hb => ?_⟩
    cases i with
    | zero => simp at hb; subst hb; exact ⟨_, by simp, h⟩
    | succ i => simpa using ih.2 i b (by simpa using hb)

/-- less is said of memory -/
theorem MemRel.weak {ρ : Rho} {m m' : Mem} {w : World} (hM : MemRel ρ m w) (h : MemLe m m') (hids : ∀ b, b ∈ m' → b.idsLt m'.length) :
    MemRel { ρ with n := m'.length } m' w ∧ (∀ k, Live { ρ with n := m'.length } m' k → Live ρ m k) := by
  have hs := h.spec.2
  have ownOld : ∀ {k i j esz e}, OwnAt m' k i j esz e → OwnAt m k i j esz e := by
    rintro k i j esz e ⟨es, rows, cs, hb, hi, hj⟩
    obtain ⟨b0, hb0, rfl | h0⟩ := hs k _ hb
    · exact ⟨es, rows, cs, hb0, hi, hj⟩
    · cases h0
  have liveOld : ∀ k, Live { ρ with n := m'.length } m' k → Live ρ m k := by
    intro k hk
    cases k with
    | root k =>
      obtain ⟨b, hb, hn, hcap⟩ := hk
      obtain ⟨b0, hb0, rfl | h0⟩ := hs k _ hb
      · exact ⟨_, hb0, hn, hcap⟩
      · exact absurd h0 hn
    | sub k i j =>
      obtain ⟨⟨esz, e, ho⟩, hcap⟩ := hk
      exact ⟨⟨esz, e, ownOld ho⟩, hcap⟩
  refine ⟨⟨rfl, hM.S, fun k hk => hM.live k (liveOld k hk), fun k k' hk hk' => hM.inj k k' (liveOld k hk) (liveOld k' hk'), fun id b hb => ?_, fun id i j esz e ho hcap => hM.own id i j esz e (ownOld ho) hcap⟩, liveOld⟩
  obtain ⟨b0, hb0, rfl | h0⟩ := hs id b hb
  · exact (hM.bk id _ hb0).cut (hids _ (List.mem_of_getElem? hb))
  · subst h0; trivial

end Go.AM
