import Derived.Calls
import Derived.Laws.AppendOwn
import Derived.Laws.Cells
import Derived.Laws.Tables
import Derived.Laws.Entries
import Derived.Below
import Derived.Deep.Quiet
set_option linter.unusedVariables false
set_option linter.unusedSimpArgs false
set_option linter.unnecessarySimpa false
/-! An abstract machine for walks: values, memory, what they stand for. No program is named here. -/
namespace Go.AM

/-- immutable data, a cell of it -/
inductive Dt where
  | val (v : Value)
  | sl (esz : Nat) (elems : List (List Dt))

/-- a cell -/
inductive CC where
  | junk
  | dat (d : Dt)
  | ptr (id j : Nat)
  | eptr (id esz i j : Nat)
  | iptr (cs : List Dt)
  | row (id esz lo : Nat) (hi : Option Nat)
  | esl
  | map (id : Nat)
  | fn (f : Nat) (caps : List Nat)
  | own (esz : Nat) (elems : List (List Dt))

inductive RV where
  | one (c : CC)
  | agg (cs : List CC)

inductive CV where
  | junk
  | undef
  | rv (r : RV)
  | tup (rs : List RV)

/-- an entry of a map -/
structure ME where
  key : Value
  val : RV

/-- a block -/
inductive Bk where
  | dead
  | var (cs : List CC)
  | row (esz : Nat) (elems : List (List CC))
  | mp (es : List ME)
  /-- a range over a map that nobody writes any more: the entry at which it is, those that are left -/
  | it (cur left : List (Value × Value))

abbrev Mem := List Bk

structure St where
  env : List CV
  mem : Mem

structure Loc where
  b : Nat
  base : Nat
  len : Nat
  cap : Nat

inductive Key where
  | root (id : Nat)
  | sub (id i j : Nat)

def Key.id : Key → Nat
  | .root id => id
  | .sub id _ _ => id

structure Rho where
  n : Nat
  loc : Key → Loc
  S : Nat → Prop

def plainV : Value → Bool
  | .bool _ | .int _ _ | .string _ | .pointer none | .nilFunc | .map none | .nilIface => true
  | _ => false

theorem plainV.one {v : Value} (h : plainV v = true) : v.oneCell' = true := by
  cases v <;> simp_all [plainV, Value.oneCell']

inductive DenD (S : Nat → Prop) (w : World) : Dt → Value → Prop
  | val (v : Value) (h : plainV v = true) : DenD S w (.val v) v
  /-- a slice of nothing, of no room -/
  | no (a : Option Addr) : DenD S w (.val (.slice none 0 0)) (.slice a 0 0)
  | nil (esz : Nat) (a : Option Addr) (cap : Nat) (hc : cap ≤ maxLen) : DenD S w (.sl esz []) (.slice a 0 cap)
  | sl (esz : Nat) (elems : List (List Dt)) (b off cap : Nat) (u : Nat → Nat → Value) (hS : S b) (hl : elems.length ≤ cap) (hcap : cap ≤ maxLen)
      (hsz : ∀ cs, cs ∈ elems → cs.length = esz)
      (hc : ∀ i cs j d, elems[i]? = some cs → cs[j]? = some d → w.cell? ⟨b, off + i * esz + j, none⟩ = some (u i j))
      (hd : ∀ i cs j d, elems[i]? = some cs → cs[j]? = some d → DenD S w d (u i j)) :
      DenD S w (.sl esz elems) (.slice (some ⟨b, off, none⟩) elems.length cap)

theorem DenD.one {S : Nat → Prop} {w : World} {d : Dt} {v : Value} (h : DenD S w d v) : v.oneCell' = true := by
  cases h with
  | val v h => exact plainV.one h
  | no => rfl
  | nil => rfl
  | sl => rfl

theorem DenD.mono {S S' : Nat → Prop} {w w' : World} (hS : ∀ b, S b → S' b) (hw : ∀ b, S b → w'.heap[b]? = w.heap[b]?) {d : Dt} {v : Value}
    (h : DenD S w d v) : DenD S' w' d v := by
  induction h with
  | val v h => exact .val v h
  | no a => exact .no a
  | nil esz a cap hc => exact .nil esz a cap hc
  | sl esz elems b off cap u hb hl hcap hsz hc hd ih =>
    exact .sl esz elems b off cap u (hS b hb) hl hcap hsz
      (fun i cs j d hi hj => by rw [World.cell?_of_block (a := ⟨b, off + i * esz + j, none⟩) (hw b hb)]; exact hc i cs j d hi hj) ih

def DenC (ρ : Rho) (w : World) (pos : Option (Nat × Nat × Nat)) : CC → Value → Prop
  | .junk, v => v.oneCell' = true
  | .dat d, v => DenD ρ.S w d v
  | .ptr id j, v => id < ρ.n ∧ v = .pointer (some ⟨(ρ.loc (.root id)).b, (ρ.loc (.root id)).base + j, none⟩)
  | .eptr id esz i j, v => id < ρ.n ∧ v = .pointer (some ⟨(ρ.loc (.root id)).b, (ρ.loc (.root id)).base + i * esz + j, none⟩)
  | .iptr cs, v => ∃ b off, v = .pointer (some ⟨b, off, none⟩) ∧ ρ.S b ∧ ∀ j d, cs[j]? = some d → ∃ u, w.cell? ⟨b, off + j, none⟩ = some u ∧ DenD ρ.S w d u
  | .row id esz lo hi, v => id < ρ.n ∧ lo ≤ hi.getD (ρ.loc (.root id)).len ∧ hi.getD (ρ.loc (.root id)).len ≤ (ρ.loc (.root id)).len ∧ (ρ.loc (.root id)).len ≤ (ρ.loc (.root id)).cap ∧ (ρ.loc (.root id)).cap ≤ maxLen ∧
      ∃ a, v = .slice a (hi.getD (ρ.loc (.root id)).len - lo) ((ρ.loc (.root id)).cap - lo) ∧ (lo < (ρ.loc (.root id)).cap → a = some ⟨(ρ.loc (.root id)).b, (ρ.loc (.root id)).base + lo * esz, none⟩)
  | .esl, v => ∃ a, v = .slice a 0 0
  | .map id, v => id < ρ.n ∧ v = .map (some (ρ.loc (.root id)).b)
  | .fn f caps, v => (∀ id, id ∈ caps → id < ρ.n) ∧
      v = .func (.func f) #[] (caps.map fun id => Value.pointer (some ⟨(ρ.loc (.root id)).b, (ρ.loc (.root id)).base, none⟩)).toArray
  | .own esz elems, v => ∃ id i j, pos = some (id, i, j) ∧ elems.length ≤ (ρ.loc (.sub id i j)).cap ∧ (ρ.loc (.sub id i j)).cap ≤ maxLen ∧
      ∃ a, v = .slice a elems.length (ρ.loc (.sub id i j)).cap ∧
        (0 < (ρ.loc (.sub id i j)).cap → a = some ⟨(ρ.loc (.sub id i j)).b, (ρ.loc (.sub id i j)).base, none⟩)

theorem DenC.one {ρ : Rho} {w : World} {pos : Option (Nat × Nat × Nat)} {c : CC} {v : Value} (h : DenC ρ w pos c v) : v.oneCell' = true := by
  cases c <;> simp only [DenC] at h
  case junk => exact h
  case dat => exact h.one
  case ptr => rw [h.2]; rfl
  case eptr => rw [h.2]; rfl
  case iptr => obtain ⟨_, _, rfl, _⟩ := h; rfl
  case row => obtain ⟨_, _, _, _, _, _, rfl, _⟩ := h; rfl
  case esl => obtain ⟨_, rfl⟩ := h; rfl
  case map => rw [h.2]; rfl
  case fn => rw [h.2]; rfl
  case own => obtain ⟨_, _, _, _, _, _, _, rfl, _⟩ := h; rfl

/-- the reading goes on from (ρ, w) to (ρ', w') -/
structure Goes (ρ : Rho) (w : World) (ρ' : Rho) (w' : World) : Prop where
  n : ρ.n ≤ ρ'.n
  loc : ∀ k : Key, k.id < ρ.n → ρ'.loc k = ρ.loc k
  S : ∀ b, ρ.S b → ρ'.S b
  heap : ∀ b, ρ.S b → w'.heap[b]? = w.heap[b]?

theorem DenC.goes {ρ ρ' : Rho} {w w' : World} {pos : Option (Nat × Nat × Nat)} (g : Goes ρ w ρ' w') (hp : ∀ id i j, pos = some (id, i, j) → id < ρ.n)
    {c : CC} {v : Value} (h : DenC ρ w pos c v) : DenC ρ' w' pos c v := by
  cases c <;> simp only [DenC] at h ⊢
  case junk => exact h
  case dat => exact h.mono g.S g.heap
  case ptr id j => rw [g.loc (.root id) h.1]; exact ⟨Nat.lt_of_lt_of_le h.1 g.n, h.2⟩
  case eptr id _ _ _ => rw [g.loc (.root id) h.1]; exact ⟨Nat.lt_of_lt_of_le h.1 g.n, h.2⟩
  case iptr cs =>
    obtain ⟨b, off, hv, hb, hc⟩ := h
    refine ⟨b, off, hv, g.S b hb, fun j d hj => ?_⟩
    obtain ⟨u, hu, hd⟩ := hc j d hj
    exact ⟨u, by rw [World.cell?_of_block (a := ⟨b, off + j, none⟩) (g.heap b hb)]; exact hu, hd.mono g.S g.heap⟩
  case row id _ _ _ => rw [g.loc (.root id) h.1]; exact ⟨Nat.lt_of_lt_of_le h.1 g.n, h.2⟩
  case esl => exact h
  case map id => rw [g.loc (.root id) h.1]; exact ⟨Nat.lt_of_lt_of_le h.1 g.n, h.2⟩
  case fn f caps =>
    refine ⟨fun id hid => Nat.lt_of_lt_of_le (h.1 id hid) g.n, ?_⟩
    rw [h.2]
    congr 2
    refine List.map_congr_left fun id hid => ?_
    rw [g.loc (.root id) (h.1 id hid)]
  case own esz elems =>
    obtain ⟨id, i, j, hpos, hrest⟩ := h
    refine ⟨id, i, j, hpos, ?_⟩
    rw [g.loc (.sub id i j) (hp id i j hpos)]
    exact hrest

def DenR (ρ : Rho) (w : World) : RV → Value → Prop
  | .one c, v => DenC ρ w .none c v
  | .agg cs, v => ∃ vs : List Value, v = .agg vs.toArray ∧ vs.length = cs.length ∧ ∀ (i : Nat) c, cs[i]? = some c → ∃ u, vs[i]? = some u ∧ DenC ρ w .none c u

theorem DenR.goes {ρ ρ' : Rho} {w w' : World} (g : Goes ρ w ρ' w') {r : RV} {v : Value} (h : DenR ρ w r v) : DenR ρ' w' r v := by
  cases r with
  | one c => exact DenC.goes g (by simp) h
  | agg cs =>
    obtain ⟨vs, hv, hl, hc⟩ := h
    exact ⟨vs, hv, hl, fun i c hi => let ⟨u, hu, hd⟩ := hc i c hi; ⟨u, hu, DenC.goes g (by simp) hd⟩⟩

def DenV (ρ : Rho) (w : World) : CV → Value → Prop
  | .junk, _ => True
  | .undef, v => v = Go.undef
  | .rv r, v => DenR ρ w r v
  | .tup rs, v => ∃ vs : List Value, v = .tuple vs.toArray ∧ vs.length = rs.length ∧ ∀ (i : Nat) r, rs[i]? = some r → ∃ u, vs[i]? = some u ∧ DenR ρ w r u

theorem DenV.goes {ρ ρ' : Rho} {w w' : World} (g : Goes ρ w ρ' w') {c : CV} {v : Value} (h : DenV ρ w c v) : DenV ρ' w' c v := by
  cases c with
  | junk => trivial
  | undef => exact h
  | rv r => exact DenR.goes g h
  | tup rs =>
    obtain ⟨vs, hv, hl, hc⟩ := h
    exact ⟨vs, hv, hl, fun i c hi => let ⟨u, hu, hd⟩ := hc i c hi; ⟨u, hu, DenR.goes g hd⟩⟩

/-- a block's cells, none of them frozen -/
def Cur (mk : Prop) (w : World) (b : Nat) (cur : Array Value) : Prop :=
  ∃ ty fr, w.heap[b]? = some (.cells cur ty fr) ∧ fr.1 ≤ fr.2 ∧ (∀ i, i < cur.size → (decide (fr.1 ≤ i) && decide (i < fr.2)) = false) ∧ (mk ∨ fr.2 ≤ cur.size)

theorem Cur.lt {mk : Prop} {w : World} {b : Nat} {cur : Array Value} (h : Cur mk w b cur) : b < w.heap.size := by
  obtain ⟨ty, fr, h, _⟩ := h
  exact (Array.getElem?_eq_some_iff.1 h).1
theorem Cur.cell {mk : Prop} {w : World} {b : Nat} {cur : Array Value} (h : Cur mk w b cur) (i : Nat) : w.cell? ⟨b, i, none⟩ = cur[i]? := by
  obtain ⟨ty, fr, h, _⟩ := h
  exact cell_of_row w b i cur ty fr h
theorem Cur.frozen {mk : Prop} {w : World} {b : Nat} {cur : Array Value} (h : Cur mk w b cur) {i : Nat} (hi : i < cur.size) : w.frozen? ⟨b, i, none⟩ = false := by
  obtain ⟨ty, fr, h, _, hf, _⟩ := h
  simpa [World.frozen?, h] using hf i hi
theorem Cur.same {mk : Prop} {w w' : World} {b : Nat} {cur : Array Value} (h : Cur mk w b cur) (hb : w'.heap[b]? = w.heap[b]?) : Cur mk w' b cur := by
  obtain ⟨ty, fr, h, hf⟩ := h
  exact ⟨ty, fr, hb.trans h, hf⟩
theorem Cur.new {mk : Prop} (w : World) (cur : Array Value) (ty : TypeId) : Cur mk (w.alloc (.cells cur ty)) w.heap.size cur :=
  ⟨ty, (0, 0), heap_alloc_new w _, Nat.le_refl _, (by intro i _; simp), .inr (Nat.zero_le _)⟩
theorem Cur.weak {mk : Prop} {w : World} {b : Nat} {cur : Array Value} (h : Cur mk w b cur) : Cur True w b cur := by
  obtain ⟨ty, fr, h1, h2, h3, _⟩ := h
  exact ⟨ty, fr, h1, h2, h3, .inl trivial⟩

/-- what the entries of a map stand for -/
def MapRel (ρ : Rho) (w : World) (es : List ME) (es' : Array MapEntry) : Prop :=
  es'.size = es.length ∧ ∀ (i : Nat) e, es[i]? = some e → ∃ e', es'[i]? = some e' ∧ e'.key = e.key ∧ DenR ρ w e.val e'.val

/-- the stamps of a map's entries -/
def Borns (es' : Array MapEntry) (clock : Nat) : Prop := (∀ e, e ∈ es'.toList → e.born < clock) ∧ (es'.toList.map (·.born)).Nodup
/-- where a range over a map is -/
def ItRel (seen : Array Nat) (es' : Array MapEntry) (cur left : List (Value × Value)) : Prop :=
  ((es'.filter fun e => !seen.contains e.born).toList.map fun e => (e.key, e.val)) = left ∧ (∀ p, p ∈ cur → ∃ (e : MapEntry) (seen0 : Array Nat), e ∈ es'.toList ∧ seen = seen0.push e.born ∧ (e.key, e.val) = p) ∧ ∀ p, p ∈ left ∨ p ∈ cur → plainV p.1 = true ∧ plainV p.2 = true

def BkRel (ρ : Rho) (w : World) (id : Nat) : Bk → Prop
  | .dead => True
  | .var cs => ∃ cur, Cur True w (ρ.loc (.root id)).b cur ∧ ∀ (j : Nat) c, cs[j]? = some c → ∃ u, cur[(ρ.loc (.root id)).base + j]? = some u ∧ DenC ρ w .none c u
  | .row esz elems => elems.length = (ρ.loc (.root id)).len ∧ (ρ.loc (.root id)).len ≤ (ρ.loc (.root id)).cap ∧ (ρ.loc (.root id)).cap ≤ maxLen ∧ (∀ cs, cs ∈ elems → cs.length = esz) ∧
      (0 < (ρ.loc (.root id)).cap → ∃ cur, Cur (esz = 1) w (ρ.loc (.root id)).b cur ∧ (ρ.loc (.root id)).base + (ρ.loc (.root id)).cap * esz ≤ cur.size ∧
        ∀ (i : Nat) cs (j : Nat) c, elems[i]? = some cs → cs[j]? = some c → ∃ u, cur[(ρ.loc (.root id)).base + i * esz + j]? = some u ∧ DenC ρ w (some (id, i, j)) c u)
  | .mp es => ∃ es' clock, (w.heap[(ρ.loc (.root id)).b]? = some (.map es' clock) ∧ Borns es' clock) ∧ MapRel ρ w es es'
  | .it cur left => ∃ mb seen clock es', w.heap[(ρ.loc (.root id)).b]? = some (.mapIter (some mb) clock seen clock) ∧ (ρ.loc (.root id)).base = 0 ∧ ρ.S mb ∧ w.heap[mb]? = some (.map es' clock) ∧ Borns es' clock ∧ ItRel seen es' cur left

/-- a cell of a row that owns a slice -/
def OwnAt (m : Mem) (id i j esz : Nat) (elems : List (List Dt)) : Prop :=
  ∃ es rows cs, m[id]? = some (.row es rows) ∧ rows[i]? = some cs ∧ cs[j]? = some (.own esz elems)

def OwnRel (ρ : Rho) (w : World) (l : Loc) (esz : Nat) (elems : List (List Dt)) : Prop :=
  ∃ cur, Cur True w l.b cur ∧ l.base + l.cap * esz ≤ cur.size ∧ (∀ cs, cs ∈ elems → cs.length = esz) ∧
    ∀ (i : Nat) cs (j : Nat) d, elems[i]? = some cs → cs[j]? = some d → ∃ u, cur[l.base + i * esz + j]? = some u ∧ DenD ρ.S w d u

def Live (ρ : Rho) (m : Mem) : Key → Prop
  | .root id => ∃ bk, m[id]? = some bk ∧ bk ≠ .dead ∧ ((∃ esz elems, bk = .row esz elems) → 0 < (ρ.loc (.root id)).cap)
  | .sub id i j => (∃ esz elems, OwnAt m id i j esz elems) ∧ 0 < (ρ.loc (.sub id i j)).cap

structure MemRel (ρ : Rho) (m : Mem) (w : World) : Prop where
  n : ρ.n = m.length
  S : ∀ b, ρ.S b → b < w.heap.size
  live : ∀ k, Live ρ m k → (ρ.loc k).b < w.heap.size ∧ ¬ ρ.S (ρ.loc k).b
  inj : ∀ k k', Live ρ m k → Live ρ m k' → (ρ.loc k).b = (ρ.loc k').b → k = k'
  bk : ∀ (id : Nat) b, m[id]? = some b → BkRel ρ w id b
  own : ∀ id i j esz elems, OwnAt m id i j esz elems → 0 < (ρ.loc (.sub id i j)).cap → OwnRel ρ w (ρ.loc (.sub id i j)) esz elems

theorem Live.id_lt {ρ : Rho} {m : Mem} {k : Key} (h : Live ρ m k) : k.id < m.length := by
  cases k with
  | root id => obtain ⟨bk, h, _⟩ := h; exact (List.getElem?_eq_some_iff.1 h).1
  | sub id i j => obtain ⟨⟨_, _, _, _, _, h, _⟩, _⟩ := h; exact (List.getElem?_eq_some_iff.1 h).1

structure Ext (ρ : Rho) (m : Mem) (w : World) (ρ' : Rho) (m' : Mem) (w' : World) : Prop where
  n : ρ.n ≤ ρ'.n
  loc : ∀ id, id < ρ.n → ρ'.loc (.root id) = ρ.loc (.root id)
  S : ∀ b, ρ.S b → ρ'.S b
  S' : ∀ b, ρ'.S b → ρ.S b ∨ w.heap.size ≤ b ∨ ∃ k, Live ρ m k ∧ (ρ.loc k).b = b
  live : ∀ k, Live ρ' m' k → w.heap.size ≤ (ρ'.loc k).b ∨ ∃ k0, Live ρ m k0 ∧ (ρ.loc k0).b = (ρ'.loc k).b
  frame : ∀ b, b < w.heap.size → (∀ k, Live ρ m k → (ρ.loc k).b ≠ b) → w'.heap[b]? = w.heap[b]?
  size : w.heap.size ≤ w'.heap.size
  os : w'.os = w.os
  tape : w'.tape = w.tape
  output : w'.output = w.output

theorem Ext.refl (ρ : Rho) (m : Mem) (w : World) : Ext ρ m w ρ m w :=
  ⟨Nat.le_refl _, fun _ _ => rfl, fun _ h => h, fun _ h => .inl h, fun k h => .inr ⟨k, h, rfl⟩, fun _ _ _ => rfl, Nat.le_refl _, rfl, rfl, rfl⟩

theorem Ext.trans {ρ ρ1 ρ2 : Rho} {m m1 m2 : Mem} {w w1 w2 : World} (a : Ext ρ m w ρ1 m1 w1) (b : Ext ρ1 m1 w1 ρ2 m2 w2) : Ext ρ m w ρ2 m2 w2 where
  n := Nat.le_trans a.n b.n
  loc id h := (b.loc id (Nat.lt_of_lt_of_le h a.n)).trans (a.loc id h)
  S x h := b.S x (a.S x h)
  S' x h := by
    rcases b.S' x h with h | h | ⟨k, hk, he⟩
    · exact a.S' x h
    · exact .inr (.inl (Nat.le_trans a.size h))
    · rcases a.live k hk with h | ⟨k0, h0, e0⟩
      · exact .inr (.inl (he ▸ h))
      · exact .inr (.inr ⟨k0, h0, e0.trans he⟩)
  live k h := by
    rcases b.live k h with h | ⟨k1, h1, e1⟩
    · exact .inl (Nat.le_trans a.size h)
    · rcases a.live k1 h1 with h | ⟨k0, h0, e0⟩
      · exact .inl (e1 ▸ h)
      · exact .inr ⟨k0, h0, e0.trans e1⟩
  frame x hx hk := by
    refine (b.frame x (Nat.lt_of_lt_of_le hx a.size) fun k1 h1 e1 => ?_).trans (a.frame x hx hk)
    rcases a.live k1 h1 with h | ⟨k0, h0, e0⟩
    · omega
    · exact hk k0 h0 (e0.trans e1)
  size := Nat.le_trans a.size b.size
  os := b.os.trans a.os
  tape := b.tape.trans a.tape
  output := b.output.trans a.output

/-- the environment's readings go on -/
theorem DenC.ext {ρ ρ' : Rho} {m m' : Mem} {w w' : World} (hM : MemRel ρ m w) (x : Ext ρ m w ρ' m' w') {c : CC} {v : Value} (h : DenC ρ w .none c v) : DenC ρ' w' .none c v := by
  have hh : ∀ b, ρ.S b → w'.heap[b]? = w.heap[b]? := fun b hb => x.frame b (hM.S b hb) fun k hk e => (hM.live k hk).2 (e ▸ hb)
  let ρ1 : Rho := { n := ρ'.n, loc := fun k => match k with | .root id => ρ'.loc (.root id) | k => if k.id < ρ.n then ρ.loc k else ρ'.loc k, S := ρ'.S }
  have g : Goes ρ w ρ1 w' := ⟨x.n, fun k hk => by
    cases k with
    | root id => exact x.loc id hk
    | sub id i j => simp only [ρ1]; rw [if_pos hk], x.S, hh⟩
  have h1 := DenC.goes g (by simp) h
  cases c <;> simp only [DenC] at h1 ⊢
  case own => obtain ⟨_, _, _, e, _⟩ := h1; cases e
  all_goals exact h1

theorem DenR.ext {ρ ρ' : Rho} {m m' : Mem} {w w' : World} (hM : MemRel ρ m w) (x : Ext ρ m w ρ' m' w') {r : RV} {v : Value} (h : DenR ρ w r v) : DenR ρ' w' r v := by
  cases r with
  | one c => exact DenC.ext hM x h
  | agg cs =>
    obtain ⟨vs, hv, hl, hc⟩ := h
    exact ⟨vs, hv, hl, fun i c hi => let ⟨u, hu, hd⟩ := hc i c hi; ⟨u, hu, DenC.ext hM x hd⟩⟩

theorem DenV.ext {ρ ρ' : Rho} {m m' : Mem} {w w' : World} (hM : MemRel ρ m w) (x : Ext ρ m w ρ' m' w') {c : CV} {v : Value} (h : DenV ρ w c v) : DenV ρ' w' c v := by
  cases c with
  | junk => trivial
  | undef => exact h
  | rv r => exact DenR.ext hM x h
  | tup rs =>
    obtain ⟨vs, hv, hl, hc⟩ := h
    exact ⟨vs, hv, hl, fun i c hi => let ⟨u, hu, hd⟩ := hc i c hi; ⟨u, hu, DenR.ext hM x hd⟩⟩

end Go.AM
