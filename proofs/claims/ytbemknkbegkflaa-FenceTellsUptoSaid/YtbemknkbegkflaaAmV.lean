import Derived.Test.YtbemknkbegkflaaAmP
set_option linter.unusedVariables false
set_option linter.unusedSimpArgs false
set_option linter.unnecessarySimpa false
/-! The same memory, said in another way: blocks under other numbers, rows that have become data. -/
namespace Go.AM

theorem View.refl {n0 : Nat} {s : St} (hn : n0 ≤ s.mem.length) : View n0 s s :=
  ⟨hn, rfl, fun ρ w hM => ⟨ρ, hM, ⟨fun _ _ => rfl, fun _ h => h, fun _ h => .inl h, fun k hk => ⟨k, hk, rfl⟩⟩, fun i c hi => ⟨c, hi, fun _ h => h⟩⟩⟩
theorem Chg.trans {n0 : Nat} {ρ ρ1 ρ2 : Rho} {m m1 m2 : Mem} (a : Chg n0 ρ m ρ1 m1) (b : Chg n0 ρ1 m1 ρ2 m2) : Chg n0 ρ m ρ2 m2 where
  loc id h := (b.loc id h).trans (a.loc id h)
  S x h := b.S x (a.S x h)
  S' x h := by
    rcases b.S' x h with h | ⟨k, hk, he⟩
    · exact a.S' x h
    · obtain ⟨k0, h0, e0⟩ := a.live k hk
      exact .inr ⟨k0, h0, e0.trans he⟩
  live k h := by
    obtain ⟨k1, h1, e1⟩ := b.live k h
    obtain ⟨k0, h0, e0⟩ := a.live k1 h1
    exact ⟨k0, h0, e0.trans e1⟩
theorem View.trans {n0 : Nat} {s s1 s2 : St} (a : View n0 s s1) (b : View n0 s1 s2) : View n0 s s2 := by
  refine ⟨b.hn, b.len.trans a.len, fun ρ w hM => ?_⟩
  obtain ⟨ρ1, hM1, hc1, hd1⟩ := a.go ρ w hM
  obtain ⟨ρ2, hM2, hc2, hd2⟩ := b.go ρ1 w hM1
  refine ⟨ρ2, hM2, hc1.trans hc2, fun i c' hi => ?_⟩
  obtain ⟨c1, hi1, h1⟩ := hd2 i c' hi
  obtain ⟨c0, hi0, h0⟩ := hd1 i c1 hi1
  exact ⟨c0, hi0, fun v hv => h1 v (h0 v hv)⟩

/-! ### under other numbers -/
def CC.ren (σ : Nat → Nat) : CC → CC
  | .ptr id j => .ptr (σ id) j
  | .eptr id e i j => .eptr (σ id) e i j
  | .row id e lo hi => .row (σ id) e lo hi
  | .map id => .map (σ id)
  | .fn f caps => .fn f (caps.map σ)
  | c => c
def Key.ren (σ : Nat → Nat) : Key → Key
  | .root id => .root (σ id)
  | .sub id i j => .sub (σ id) i j

/-- less is said of data: of a slice of no room that it has nothing -/
inductive DtLe : Dt → Dt → Prop
  | refl (d : Dt) : DtLe d d
  | no (s : Nat) : DtLe (.val (.slice none 0 0)) (.sl s [])
  | sl (s : Nat) {es es' : List (List Dt)} (hl : es.length = es'.length) (hs : ∀ (i : Nat) cs cs', es[i]? = some cs → es'[i]? = some cs' → cs.length = cs'.length)
      (h : ∀ (i : Nat) cs cs' (j : Nat) d d', es[i]? = some cs → es'[i]? = some cs' → cs[j]? = some d → cs'[j]? = some d' → DtLe d d') : DtLe (.sl s es) (.sl s es')
theorem DtLe.den {S : Nat → Prop} {w : World} {d d' : Dt} (h : DtLe d d') : ∀ {v : Value}, DenD S w d v → DenD S w d' v := by
  induction h with
  | refl d => exact fun h => h
  | no s =>
    intro v h
    cases h with
    | val _ h => simp [plainV] at h
    | no a => exact .nil s a 0 (Nat.zero_le _)
  | @sl s es es' hl hs h ih =>
    intro v hd
    cases hd with
    | nil _ a cap hc =>
      have : es' = [] := List.eq_nil_of_length_eq_zero hl.symm
      subst this
      exact .nil s a cap hc
    | sl _ _ b off cap u hS hlc hcap hsz hc hd =>
      have get : ∀ (i : Nat) cs', es'[i]? = some cs' → ∃ cs, es[i]? = some cs := fun i cs' hi => by
        have := (List.getElem?_eq_some_iff.1 hi).1
        exact ⟨_, List.getElem?_eq_getElem (by omega)⟩
      have getj : ∀ (i : Nat) cs cs' (j : Nat) d', es[i]? = some cs → es'[i]? = some cs' → cs'[j]? = some d' → ∃ d, cs[j]? = some d := fun i cs cs' j d' hi hi' hj => by
        have h1 := (List.getElem?_eq_some_iff.1 hj).1
        have h2 := hs i cs cs' hi hi'
        exact ⟨_, List.getElem?_eq_getElem (by omega)⟩
      rw [hl]
      refine .sl s es' b off cap u hS (by omega) hcap (fun cs' hm => ?_) (fun i cs' j d' hi hj => ?_) (fun i cs' j d' hi hj => ?_)
      · obtain ⟨i, hi⟩ := List.getElem?_of_mem hm
        obtain ⟨cs, hcs⟩ := get i cs' hi
        rw [← hs i cs cs' hcs hi]
        exact hsz cs (List.mem_of_getElem? hcs)
      · obtain ⟨cs, hcs⟩ := get i cs' hi
        obtain ⟨d, hdj⟩ := getj i cs cs' j d' hcs hi hj
        exact hc i cs j d hcs hdj
      · obtain ⟨cs, hcs⟩ := get i cs' hi
        obtain ⟨d, hdj⟩ := getj i cs cs' j d' hcs hi hj
        exact ih i cs cs' j d d' hcs hi hdj hj (hd i cs j d hcs hdj)
/-- a cell of a block that is frozen -/
inductive FrzD (m : Mem) (Z : Nat → Prop) : Option Nat → CC → Dt → Prop
  | dat {p : Option Nat} (d : Dt) : FrzD m Z p (.dat d) d
  | own {id : Nat} (s : Nat) (e : List (List Dt)) (hz : Z id) : FrzD m Z (some id) (.own s e) (.sl s e)
  | esl {p : Option Nat} (s : Nat) : FrzD m Z p .esl (.sl s [])
  | no {p : Option Nat} : FrzD m Z p .esl (.val (.slice none 0 0))
  | le {p : Option Nat} {d d' : Dt} (h : DtLe d d') : FrzD m Z p (.dat d) d'
  | row {p : Option Nat} (id esz lo : Nat) (hi : Option Nat) (elems : List (List CC)) (ds : List (List Dt)) (hz : Z id) (h : m[id]? = some (.row esz elems)) (hl : elems.length = ds.length)
      (hs : ∀ (i : Nat) cs es, elems[i]? = some cs → ds[i]? = some es → cs.length = es.length)
      (hd : ∀ (i : Nat) cs es (j : Nat) c d, elems[i]? = some cs → ds[i]? = some es → cs[j]? = some c → es[j]? = some d → FrzD m Z (some id) c d) : FrzD m Z p (.row id esz lo hi) (.sl esz (subL ds lo hi))

/-- a cell, as it was, and as it is said now -/
inductive VwC (σ : Nat → Nat) (m : Mem) (Z : Nat → Prop) : Option Nat → CC → CC → Prop
  | junk {p : Option Nat} (c : CC) : VwC σ m Z p c .junk
  | ren {p : Option Nat} (c : CC) : VwC σ m Z p (c.ren σ) c
  | frz {p : Option Nat} {c : CC} {d : Dt} (h : FrzD m Z p c d) : VwC σ m Z p c (.dat d)
  | un {p : Option Nat} : VwC σ m Z p (.dat (.val (.slice none 0 0))) .esl
  | hi {p : Option Nat} (id e lo : Nat) {esz : Nat} {elems : List (List CC)} (h : m[σ id]? = some (.row esz elems)) : VwC σ m Z p (.row (σ id) e lo none) (.row id e lo (some elems.length))
  | lo {p : Option Nat} (id e lo : Nat) {esz : Nat} {elems : List (List CC)} (h : m[σ id]? = some (.row esz elems)) : VwC σ m Z p (.row (σ id) e lo (some elems.length)) (.row id e lo none)
inductive VwR (σ : Nat → Nat) (m : Mem) (Z : Nat → Prop) : RV → RV → Prop
  | one {c c' : CC} (h : VwC σ m Z none c c') : VwR σ m Z (.one c) (.one c')
  | agg {cs cs' : List CC} (hl : cs.length = cs'.length) (h : ∀ (i : Nat) c c', cs[i]? = some c → cs'[i]? = some c' → VwC σ m Z none c c') : VwR σ m Z (.agg cs) (.agg cs')
inductive VwV (σ : Nat → Nat) (m : Mem) (Z : Nat → Prop) : CV → CV → Prop
  | junk (v : CV) : VwV σ m Z v .junk
  | undef : VwV σ m Z .undef .undef
  | rv {r r' : RV} (h : VwR σ m Z r r') : VwV σ m Z (.rv r) (.rv r')
  | tup {rs rs' : List RV} (hl : rs.length = rs'.length) (h : ∀ (i : Nat) r r', rs[i]? = some r → rs'[i]? = some r' → VwR σ m Z r r') : VwV σ m Z (.tup rs) (.tup rs')
inductive VwB (σ : Nat → Nat) (m : Mem) (Z : Nat → Prop) (id : Nat) : Bk → Bk → Prop
  | var {cs cs' : List CC} (h : ∀ (i : Nat) c', cs'[i]? = some c' → ∃ c, cs[i]? = some c ∧ VwC σ m Z (some id) c c') : VwB σ m Z id (.var cs) (.var cs')
  | row (esz : Nat) {es es' : List (List CC)} (hl : es.length = es'.length) (hs : ∀ (i : Nat) cs cs', es[i]? = some cs → es'[i]? = some cs' → cs.length = cs'.length)
      (h : ∀ (i : Nat) cs cs' (j : Nat) c c', es[i]? = some cs → es'[i]? = some cs' → cs[j]? = some c → cs'[j]? = some c' → VwC σ m Z (some id) c c') : VwB σ m Z id (.row esz es) (.row esz es')
  | mp {es es' : List ME} (hl : es.length = es'.length) (h : ∀ (i : Nat) e e', es[i]? = some e → es'[i]? = some e' → e'.key = e.key ∧ VwR σ m Z e.val e'.val) : VwB σ m Z id (.mp es) (.mp es')
  | it (cur left : List (Value × Value)) : VwB σ m Z id (.it cur left) (.it cur left)

section
variable {n0 : Nat} {σ : Nat → Nat} {Z : Nat → Prop} {ρ : Rho} {m : Mem} {w : World}

def Rho.vw (ρ : Rho) (σ : Nat → Nat) (Z : Nat → Prop) (m : Mem) (n : Nat) : Rho :=
  { n := n, loc := fun k => ρ.loc (k.ren σ), S := fun b => ρ.S b ∨ ∃ k, Live ρ m k ∧ Z k.id ∧ (ρ.loc k).b = b }

theorem FrzD.den (hM : MemRel ρ m w) {pos : Option (Nat × Nat × Nat)} {p : Option Nat} {c : CC} {d : Dt} (h : FrzD m Z p c d) (hp : ∀ id, p = some id → ∀ s e, c = .own s e → ∃ i j, pos = some (id, i, j) ∧ OwnAt m id i j s e)
    {v : Value} (hd : DenC ρ w pos c v) {n : Nat} : DenD (ρ.vw σ Z m n).S w d v := by
  induction h generalizing pos v with
  | dat d => exact hd.mono (fun _ h => .inl h) (fun _ _ => rfl)
  | esl s =>
    obtain ⟨a, rfl⟩ := hd
    exact .nil s a 0 (Nat.zero_le _)
  | no =>
    obtain ⟨a, rfl⟩ := hd
    exact .no a
  | le h => exact (h.den hd).mono (fun _ h => .inl h) (fun _ _ => rfl)
  | @own id s e hz =>
    obtain ⟨i, j, hpe, hown⟩ := hp id rfl s e rfl
    obtain ⟨id', i', j', hpos', q1, q2, a', rfl, q3⟩ := hd
    rw [hpe] at hpos'
    simp only [Option.some.injEq, Prod.mk.injEq] at hpos'
    obtain ⟨rfl, rfl, rfl⟩ := hpos'
    rcases Nat.eq_zero_or_pos e.length with he | he
    · rw [List.eq_nil_of_length_eq_zero he]
      exact .nil s a' _ (by omega)
    · obtain ⟨cur', hcur', w1, w2, w3⟩ := hM.own _ _ _ _ _ hown (by omega)
      rw [q3 (by omega)]
      have hl' : Live ρ m (.sub id i j) := ⟨⟨_, _, hown⟩, by omega⟩
      have ky : ∀ (i2 : Nat) cs (j2 : Nat) d2, e[i2]? = some cs → cs[j2]? = some d2 → ∃ u, w.cell? ⟨(ρ.loc (.sub id i j)).b, (ρ.loc (.sub id i j)).base + i2 * s + j2, .none⟩ = some u ∧ DenD (ρ.vw σ Z m n).S w d2 u := by
        intro i2 cs j2 d2 hi2 hj2
        obtain ⟨u, hu, hd⟩ := w3 i2 cs j2 d2 hi2 hj2
        exact ⟨u, by rw [hcur'.cell]; exact hu, hd.mono (fun _ h => .inl h) (fun _ _ => rfl)⟩
      exact DenD.sl s e _ _ _ (fun i2 j2 => (w.cell? ⟨(ρ.loc (.sub id i j)).b, (ρ.loc (.sub id i j)).base + i2 * s + j2, .none⟩).getD Go.undef) (.inr ⟨_, hl', hz, rfl⟩) q1 q2 w2
        (fun i2 cs j2 d2 hi2 hj2 => by obtain ⟨u, hu, _⟩ := ky i2 cs j2 d2 hi2 hj2; rw [hu]; rfl)
        (fun i2 cs j2 d2 hi2 hj2 => by obtain ⟨u, hu, hd⟩ := ky i2 cs j2 d2 hi2 hj2; rw [hu]; exact hd)
  | row id esz lo hi elems ds hz hb hl hs hcd ih =>
    obtain ⟨h1, h2, h3, h4, h5, a, rfl, ha⟩ := hd
    obtain ⟨g1, g2, g3, g4, g5⟩ := hM.bk id _ hb
    have hdl : ds.length = (ρ.loc (.root id)).len := by omega
    have hlen : (subL ds lo hi).length = hi.getD (ρ.loc (.root id)).len - lo := by
      rw [← hdl]
      exact subL_len ds lo hi (by rw [hdl]; exact h2) (by rw [hdl]; exact h3)
    rw [← hlen]
    rcases Nat.eq_zero_or_pos (subL ds lo hi).length with h0 | hpos
    · rw [h0, List.eq_nil_of_length_eq_zero h0]
      exact .nil esz a _ (by omega)
    · have hlo : lo < (ρ.loc (.root id)).cap := by omega
      obtain ⟨cur, hcur, hsz, hcells⟩ := g5 (by omega)
      rw [ha hlo]
      have key : ∀ (i : Nat) es (j : Nat) d, (subL ds lo hi)[i]? = some es → es[j]? = some d → ∃ u, w.cell? ⟨(ρ.loc (.root id)).b, (ρ.loc (.root id)).base + lo * esz + i * esz + j, .none⟩ = some u ∧ DenD (ρ.vw σ Z m n).S w d u := by
        intro i es j d hi' hj
        have hi2 := subL_get ds lo hi i es hi'
        have hlt : lo + i < elems.length := by rw [hl]; exact (List.getElem?_eq_some_iff.1 hi2).1
        have hi3 := List.getElem?_eq_getElem hlt
        have hjlt : j < elems[lo + i].length := by rw [hs _ _ _ hi3 hi2]; exact (List.getElem?_eq_some_iff.1 hj).1
        have hj3 := List.getElem?_eq_getElem hjlt
        obtain ⟨u, hu, hdu⟩ := hcells _ _ _ _ hi3 hj3
        refine ⟨u, ?_, ?_⟩
        · rw [hcur.cell, ← hu]
          congr 1
          rw [Nat.add_mul]
          omega
        · refine ih _ _ _ _ _ _ hi3 hi2 hj3 hj ?_ hdu
          intro id' hid s e he
          cases hid
          exact ⟨_, _, rfl, _, _, _, hb, hi3, by rw [hj3, he]⟩
      refine DenD.sl esz (subL ds lo hi) _ _ _ (fun i j => (w.cell? ⟨(ρ.loc (.root id)).b, (ρ.loc (.root id)).base + lo * esz + i * esz + j, .none⟩).getD Go.undef) (.inr ⟨.root id, ⟨_, hb, by simp, fun _ => by omega⟩, hz, rfl⟩) (by omega) (by omega) (fun es hes => ?_)
        (fun i cs j d hi' hj => by obtain ⟨u, hu, _⟩ := key i cs j d hi' hj; rw [hu]; rfl)
        (fun i cs j d hi' hj => by obtain ⟨u, hu, hd⟩ := key i cs j d hi' hj; rw [hu]; exact hd)
      obtain ⟨i, hi'⟩ := List.getElem?_of_mem hes
      have hi2 := subL_get ds lo hi i es hi'
      have hlt : lo + i < elems.length := by rw [hl]; exact (List.getElem?_eq_some_iff.1 hi2).1
      have hi3 := List.getElem?_eq_getElem hlt
      rw [← hs _ _ _ hi3 hi2]
      exact g4 _ (List.getElem_mem hlt)

theorem VwC.den (hM : MemRel ρ m w) {n : Nat} (hout : ∀ i, σ i < m.length → i < n) {id' i j : Nat} {pos pos' : Option (Nat × Nat × Nat)} {p : Option Nat} (hpp : (pos = none ∧ pos' = none ∧ p = none) ∨ (pos = some (σ id', i, j) ∧ pos' = some (id', i, j) ∧ p = some (σ id')))
    {c c' : CC} (h : VwC σ m Z p c c') (hown : ∀ s e, c = .own s e → pos = some (σ id', i, j) → OwnAt m (σ id') i j s e)
    {v : Value} (hd : DenC ρ w pos c v) : DenC (ρ.vw σ Z m n) w pos' c' v := by
  cases h with
  | junk c => exact hd.one
  | un =>
    cases (show DenD ρ.S w (.val (.slice none 0 0)) v from hd) with
    | val _ h => simp [plainV] at h
    | no a => exact ⟨a, rfl⟩
  | hi id e lo hb =>
    have hn := hM.n
    obtain ⟨g1, _⟩ := hM.bk _ _ hb
    obtain ⟨h1, h2, h3, h4, h5, a, rfl, ha⟩ := hd
    simp only [Option.getD_none] at h2 h3
    refine ⟨hout id (by rw [← hn]; exact h1), ?_⟩
    simp only [Option.getD_some, Rho.vw, Key.ren, g1]
    exact ⟨h2, h3, h4, h5, a, rfl, ha⟩
  | lo id e lo hb =>
    have hn := hM.n
    obtain ⟨g1, _⟩ := hM.bk _ _ hb
    obtain ⟨h1, h2, h3, h4, h5, a, rfl, ha⟩ := hd
    simp only [Option.getD_some, g1] at h2 h3
    refine ⟨hout id (by rw [← hn]; exact h1), ?_⟩
    simp only [Option.getD_none, Option.getD_some, Rho.vw, Key.ren, g1]
    exact ⟨h2, h3, h4, h5, a, rfl, ha⟩
  | frz h =>
    refine h.den hM ?_ hd
    intro id hid s e he
    rcases hpp with ⟨_, _, rfl⟩ | ⟨rfl, rfl, rfl⟩
    · cases hid
    · cases hid
      exact ⟨i, j, rfl, hown s e he rfl⟩
  | ren =>
    have hn := hM.n
    cases c' <;> simp only [CC.ren, DenC] at hd ⊢
    case junk => exact hd
    case dat => exact hd.mono (fun _ h => .inl h) (fun _ _ => rfl)
    case ptr id k => exact ⟨hout id (by rw [← hn]; exact hd.1), hd.2⟩
    case eptr id _ _ _ => exact ⟨hout id (by rw [← hn]; exact hd.1), hd.2⟩
    case iptr =>
      obtain ⟨b, off, h1, h2, h3⟩ := hd
      refine ⟨b, off, h1, .inl h2, fun j d hj => ?_⟩
      obtain ⟨u, hu, hdu⟩ := h3 j d hj
      exact ⟨u, hu, hdu.mono (fun _ h => .inl h) (fun _ _ => rfl)⟩
    case row id _ _ _ => exact ⟨hout id (by rw [← hn]; exact hd.1), hd.2⟩
    case esl => exact hd
    case map id => exact ⟨hout id (by rw [← hn]; exact hd.1), hd.2⟩
    case fn f caps =>
      refine ⟨fun id hid => hout id (by rw [← hn]; exact hd.1 _ (List.mem_map.2 ⟨id, hid, rfl⟩)), ?_⟩
      rw [hd.2, List.map_map]
      rfl
    case own s e =>
      obtain ⟨a, b, c, h1, h2⟩ := hd
      rcases hpp with ⟨rfl, rfl, rfl⟩ | ⟨rfl, rfl, rfl⟩
      · cases h1
      · cases h1
        exact ⟨id', i, j, rfl, h2⟩
theorem VwC.den0 (hM : MemRel ρ m w) {n : Nat} (hout : ∀ i, σ i < m.length → i < n) {c c' : CC} (h : VwC σ m Z none c c') {v : Value} (hd : DenC ρ w none c v) : DenC (ρ.vw σ Z m n) w none c' v :=
  VwC.den (id' := 0) (i := 0) (j := 0) hM hout (.inl ⟨rfl, rfl, rfl⟩) h (fun _ _ _ h => by cases h) hd
theorem VwR.den (hM : MemRel ρ m w) {n : Nat} (hout : ∀ i, σ i < m.length → i < n) {c c' : RV} (h : VwR σ m Z c c') {v : Value} (hd : DenR ρ w c v) : DenR (ρ.vw σ Z m n) w c' v := by
  cases h with
  | one h => exact h.den0 hM hout hd
  | agg hl h =>
    obtain ⟨vs, rfl, h1, h2⟩ := hd
    refine ⟨vs, rfl, h1.trans hl, fun i c' hi => ?_⟩
    rename_i cs cs'
    have hlt : i < cs.length := by rw [hl]; exact (List.getElem?_eq_some_iff.1 hi).1
    obtain ⟨u, hu, hd⟩ := h2 i _ (List.getElem?_eq_getElem hlt)
    exact ⟨u, hu, (h i _ _ (List.getElem?_eq_getElem hlt) hi).den0 hM hout hd⟩
theorem VwV.den (hM : MemRel ρ m w) {n : Nat} (hout : ∀ i, σ i < m.length → i < n) {c c' : CV} (h : VwV σ m Z c c') {v : Value} (hd : DenV ρ w c v) : DenV (ρ.vw σ Z m n) w c' v := by
  cases h with
  | junk => trivial
  | undef => exact hd
  | rv h => exact h.den hM hout hd
  | tup hl h =>
    obtain ⟨vs, rfl, h1, h2⟩ := hd
    refine ⟨vs, rfl, h1.trans hl, fun i c' hi => ?_⟩
    rename_i cs cs'
    have hlt : i < cs.length := by rw [hl]; exact (List.getElem?_eq_some_iff.1 hi).1
    obtain ⟨u, hu, hd⟩ := h2 i _ (List.getElem?_eq_getElem hlt)
    exact ⟨u, hu, (h i _ _ (List.getElem?_eq_getElem hlt) hi).den hM hout hd⟩
theorem VwB.den (hM : MemRel ρ m w) {n : Nat} (hout : ∀ i, σ i < m.length → i < n) {id : Nat} {b b' : Bk} (hb : m[σ id]? = some b) (h : VwB σ m Z (σ id) b b') : BkRel (ρ.vw σ Z m n) w id b' := by
  have hd := hM.bk _ _ hb
  cases h with
  | @var cs cs' h =>
    obtain ⟨cur, hc, hd⟩ := hd
    refine ⟨cur, hc, fun j c' hj => ?_⟩
    obtain ⟨c, hj', hv⟩ := h j c' hj
    obtain ⟨u, hu, hdu⟩ := hd j c hj'
    refine ⟨u, hu, ?_⟩
    cases hv with
    | junk c => exact hdu.one
    | ren => exact VwC.den0 hM hout (.ren c') hdu
    | un => exact VwC.den0 hM hout .un hdu
    | hi id' e lo hb' => exact VwC.den0 hM hout (.hi id' e lo hb') hdu
    | lo id' e lo hb' => exact VwC.den0 hM hout (.lo id' e lo hb') hdu
    | frz hf => exact hf.den hM (fun id' _ s e he => by rw [he] at hdu; obtain ⟨_, _, _, hx, _⟩ := hdu; cases hx) hdu
  | @row esz es es' hl hs h =>
    obtain ⟨h2, h3, h4, h5, hcur⟩ := hd
    refine ⟨hl.symm.trans h2, h3, h4, fun cs' hcs' => ?_, fun hpos => ?_⟩
    · obtain ⟨i, hi⟩ := List.getElem?_of_mem hcs'
      have hlt : i < es.length := by rw [hl]; exact (List.getElem?_eq_some_iff.1 hi).1
      rw [← hs i _ _ (List.getElem?_eq_getElem hlt) hi]
      exact h5 _ (List.getElem_mem hlt)
    · obtain ⟨cur, hc, h1, h6⟩ := hcur hpos
      refine ⟨cur, hc, h1, fun i cs' j c' hi hj => ?_⟩
      have hlt : i < es.length := by rw [hl]; exact (List.getElem?_eq_some_iff.1 hi).1
      have hi' := List.getElem?_eq_getElem hlt
      have hjlt : j < es[i].length := by rw [hs i _ _ hi' hi]; exact (List.getElem?_eq_some_iff.1 hj).1
      have hj' := List.getElem?_eq_getElem hjlt
      obtain ⟨u, hu, hdu⟩ := h6 _ _ _ _ hi' hj'
      refine ⟨u, hu, VwC.den (id' := id) (i := i) (j := j) hM hout (.inr ⟨rfl, rfl, rfl⟩) (h i _ _ j _ _ hi' hi hj' hj) (fun s e he _ => ⟨_, _, _, hb, hi', by rw [hj', he]⟩) hdu⟩
  | it cur left =>
    obtain ⟨mb, seen, ck, es', h2, h3, h4, h5, h6⟩ := hd
    exact ⟨mb, seen, ck, es', h2, h3, .inl h4, h5, h6⟩
  | @mp es es' hl h =>
    obtain ⟨ae, clock, hc, h1, h2⟩ := hd
    refine ⟨ae, clock, hc, h1.trans hl, fun i e' hi => ?_⟩
    have hlt : i < es.length := by rw [hl]; exact (List.getElem?_eq_some_iff.1 hi).1
    obtain ⟨ae', hae, hk, hdv⟩ := h2 i _ (List.getElem?_eq_getElem hlt)
    obtain ⟨hk', hv⟩ := h i _ _ (List.getElem?_eq_getElem hlt) hi
    exact ⟨ae', hae, hk.trans hk'.symm, hv.den hM hout hdv⟩

theorem vw_core {m' : Mem} (hM : MemRel ρ m w) (hlow : ∀ i, i < n0 → σ i = i)
    (hinj : ∀ i j, i < m'.length → j < m'.length → σ i = σ j → i = j) (hout : ∀ i, σ i < m.length → i < m'.length)
    (hmem : ∀ (i : Nat) b', m'[i]? = some b' → b' = .dead ∨ (¬ Z (σ i) ∧ ∃ b, m[σ i]? = some b ∧ VwB σ m Z (σ i) b b')) :
    MemRel (ρ.vw σ Z m m'.length) m' w ∧ Chg n0 ρ m (ρ.vw σ Z m m'.length) m' ∧ ∀ k, Live (ρ.vw σ Z m m'.length) m' k → Live ρ m (k.ren σ) := by
  have hown : ∀ {id i j s1 e}, OwnAt m' id i j s1 e → ¬ Z (σ id) ∧ OwnAt m (σ id) i j s1 e := by
    rintro id i j s1 e ⟨es', rows', cs', hb', hi', hj'⟩
    rcases hmem id _ hb' with h | ⟨hz, b, hb, hv⟩
    · cases h
    · cases hv with
      | @row _ es _ hl hs h =>
        have hlt : i < es.length := by rw [hl]; exact (List.getElem?_eq_some_iff.1 hi').1
        have hi := List.getElem?_eq_getElem hlt
        have hjlt : j < es[i].length := by rw [hs i _ _ hi hi']; exact (List.getElem?_eq_some_iff.1 hj').1
        have hj := List.getElem?_eq_getElem hjlt
        have hv := h i _ _ j _ _ hi hi' hj hj'
        have hc : es[i][j] = .own s1 e := by
          generalize es[i][j] = c at hv
          cases hv with
          | ren => rfl
        exact ⟨hz, _, _, _, hb, hi, by rw [hj, hc]⟩
  have hlive : ∀ k, Live (ρ.vw σ Z m m'.length) m' k → ¬ Z (σ k.id) ∧ Live ρ m (k.ren σ) := by
    intro k hk
    cases k with
    | root k =>
      obtain ⟨b', hb', hnd, hcap⟩ := hk
      rcases hmem k _ hb' with h | ⟨hz, b, hb, hv⟩
      · exact absurd h hnd
      · refine ⟨hz, b, hb, ?_, ?_⟩
        · rintro rfl; cases hv
        · rintro ⟨esz, es, rfl⟩
          cases hv with
          | row => exact hcap ⟨_, _, rfl⟩
    | sub k i j =>
      obtain ⟨⟨esz, e, ho⟩, hcap⟩ := hk
      exact ⟨(hown ho).1, ⟨_, _, (hown ho).2⟩, hcap⟩
  refine ⟨⟨rfl, ?_, fun k hk => ?_, fun k k' hk hk' he => ?_, fun id b' hb' => ?_, fun id i j esz e ho hcap => ?_⟩, ⟨fun id hid => ?_, fun b h => .inl h, ?_, fun k hk => ⟨_, (hlive k hk).2, rfl⟩⟩, fun k hk => (hlive k hk).2⟩
  · rintro b (hb | ⟨k, hk, _, rfl⟩)
    · exact hM.S b hb
    · exact (hM.live k hk).1
  · obtain ⟨hz, hl⟩ := hlive k hk
    refine ⟨(hM.live _ hl).1, ?_⟩
    rintro (hb | ⟨k0, hk0, hz0, he⟩)
    · exact (hM.live _ hl).2 hb
    · have := hM.inj k0 (k.ren σ) hk0 hl he
      subst this
      apply hz
      cases k <;> exact hz0
  · have hl1 := hk.id_lt
    have hl2 := hk'.id_lt
    have := hM.inj _ _ (hlive k hk).2 (hlive k' hk').2 he
    cases k <;> cases k' <;> simp only [Key.ren, Key.root.injEq, Key.sub.injEq, Key.id, reduceCtorEq] at this hl1 hl2
    · rw [hinj _ _ hl1 hl2 this]
    · obtain ⟨h1, rfl, rfl⟩ := this
      rw [hinj _ _ hl1 hl2 h1]
  · rcases hmem id b' hb' with rfl | ⟨hz, b, hb, hv⟩
    · trivial
    · exact VwB.den hM hout hb hv
  · obtain ⟨cur, hc, h1, h2, h3⟩ := hM.own _ _ _ _ _ (hown ho).2 hcap
    refine ⟨cur, hc, h1, h2, fun i2 cs j2 d hi2 hj2 => ?_⟩
    obtain ⟨u, hu, hdu⟩ := h3 i2 cs j2 d hi2 hj2
    exact ⟨u, hu, hdu.mono (fun _ h => .inl h) (fun _ _ => rfl)⟩
  · show ρ.loc (.root (σ id)) = _
    rw [hlow id hid]
  · rintro b (hb | ⟨k, hk, _, he⟩)
    · exact .inl hb
    · exact .inr ⟨k, hk, he⟩

/-- **ANOTHER SAYING** -/
theorem View.mk' {s s' : St} (σ : Nat → Nat) (Z : Nat → Prop) (hn0 : n0 ≤ s'.mem.length) (hlen : s'.env.length = s.env.length) (hlow : ∀ i, i < n0 → σ i = i)
    (hinj : ∀ i j, i < s'.mem.length → j < s'.mem.length → σ i = σ j → i = j) (hout : ∀ i, σ i < s.mem.length → i < s'.mem.length)
    (henv : ∀ (i : Nat) c', s'.env[i]? = some c' → ∃ c, s.env[i]? = some c ∧ VwV σ s.mem Z c c')
    (hmem : ∀ (i : Nat) b', s'.mem[i]? = some b' → b' = .dead ∨ (¬ Z (σ i) ∧ ∃ b, s.mem[σ i]? = some b ∧ VwB σ s.mem Z (σ i) b b')) : View n0 s s' := by
  refine ⟨hn0, hlen, fun ρ w hM => ?_⟩
  obtain ⟨h1, h2, _⟩ := vw_core (n0 := n0) (σ := σ) (Z := Z) hM hlow hinj hout hmem
  refine ⟨_, h1, h2, fun i c' hi => ?_⟩
  obtain ⟨c, hc, hv⟩ := henv i c' hi
  exact ⟨c, hc, fun v hd => hv.den hM hout hd⟩
end
end Go.AM
