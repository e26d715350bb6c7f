import Derived.Test.YtbemknkbegkflaaAmP
import Derived.ChangeArms
import Derived.OpenShut
set_option linter.unusedVariables false
set_option linter.unusedSimpArgs false
set_option linter.unnecessarySimpa false
/-! Arguments that are data: what they read as. -/
namespace Go.AM

inductive Lf where
  | b
  | i (k : IntKind)
  | s
  | sl (ls : List Lf)

inductive Fits : List Lf → List Dt → Prop
  | nil : Fits [] []
  | b (x : Bool) {ls : List Lf} {ds : List Dt} (h : Fits ls ds) : Fits (.b :: ls) (.val (.bool x) :: ds)
  | i (k : IntKind) (n : Int) {ls : List Lf} {ds : List Dt} (hw : (Lit.int k n).wf = true) (h : Fits ls ds) : Fits (.i k :: ls) (.val (.int k n) :: ds)
  | s (x : ByteArray) {ls : List Lf} {ds : List Dt} (h : Fits ls ds) : Fits (.s :: ls) (.val (.string x) :: ds)
  | sl (es : List Lf) (elems : List (List Dt)) {ls : List Lf} {ds : List Dt} (he : ∀ e, e ∈ elems → Fits es e) (h : Fits ls ds) : Fits (.sl es :: ls) (.sl es.length elems :: ds)

theorem Fits.len {ls : List Lf} {ds : List Dt} (h : Fits ls ds) : ds.length = ls.length := by
  induction h with
  | nil => rfl
  | b _ _ ih => simp [ih]
  | i _ _ _ _ ih => simp [ih]
  | s _ _ ih => simp [ih]
  | sl _ _ _ _ _ ih => simp [ih]
theorem Fits.append {ls ls' : List Lf} {ds ds' : List Dt} (h : Fits ls ds) (h' : Fits ls' ds') : Fits (ls ++ ls') (ds ++ ds') := by
  induction h with
  | nil => exact h'
  | b x _ ih => exact .b x ih
  | i k n hw _ ih => exact .i k n hw ih
  | s x _ ih => exact .s x ih
  | sl es elems he _ _ ih => exact .sl es elems he ih

mutual
def Dt.size : Dt → Nat
  | .val (.string s) => s.size + 1
  | .val _ => 1
  | .sl _ elems => Dt.sizeLL elems + 1
def Dt.sizeL : List Dt → Nat
  | [] => 0
  | d :: r => d.size + Dt.sizeL r
def Dt.sizeLL : List (List Dt) → Nat
  | [] => 0
  | l :: r => Dt.sizeL l + Dt.sizeLL r
end
theorem Dt.sizeL_append : ∀ (a b : List Dt), Dt.sizeL (a ++ b) = Dt.sizeL a + Dt.sizeL b
  | [], b => by simp [Dt.sizeL]
  | x :: r, b => by simp [Dt.sizeL, Dt.sizeL_append r b]; omega

/-- how much a reading holds -/
def wSum {H : Type} (f : DataW H → Nat) : List (DataW H) → Nat
  | [] => 0
  | d :: r => f d + wSum f r
structure Bulk (H : Type) where
  f : DataW H → Nat
  str : ∀ s, f (.lit (.string s)) = s.length + 1
  lit : ∀ l, 1 ≤ f (.lit l)
  nil : 1 ≤ f .nil
  slice : ∀ a b, wSum f a + wSum f b + 1 ≤ f (.slice a b)
  agg : ∀ a, wSum f a ≤ f (.agg a)

def leafsF (P : Program) (g : TypeId → Option (List Lf)) : List Field → Nat → Option (List Lf)
  | [], _ => some []
  | f :: r, off => if f.offset = off then
      match g f.type with
      | some ks => if P.cellsOf f.type = ks.length then
          match leafsF P g r (off + ks.length) with
          | some ls => some (ks ++ ls)
          | none => none
        else none
      | none => none
    else none
def rept {α : Type} : Nat → List α → List α
  | 0, _ => []
  | n + 1, l => l ++ rept n l
def leafs (P : Program) : Nat → TypeId → Option (List Lf)
  | 0, _ => none
  | d + 1, t => match P.underlying t with
    | some .bool => some [.b]
    | some (.int k) => some [.i k]
    | some .string => some [.s]
    | some (.slice e) => match leafs P d e with
      | some ls => if P.cellsOf e = ls.length ∧ 0 < ls.length then some [.sl ls] else none
      | none => none
    | some (.struct fs) => match leafsF P (leafs P d) fs.toList 0 with
      | some ls => if P.cellsOf t = ls.length then some ls else none
      | none => none
    | some (.array n e) => match leafs P d e with
      | some ls => if P.cellsOf e = ls.length ∧ P.cellsOf t = n * ls.length then some (rept n ls) else none
      | none => none
    | _ => none

section
variable {H : Type} {enc : TypeId × Value → H} {P : Program} {w : World} {base : Nat} {spare : Nat → Bool} {held : Bool}

/-- cells that read as these data -/
def Reads (w : World) (cs : List Value) (ds : List Dt) : Prop := cs.length = ds.length ∧ ∀ (i : Nat) v d, cs[i]? = some v → ds[i]? = some d → DenD (fun b => b < w.heap.size) w d v

theorem Reads.nil : Reads w [] [] := ⟨rfl, by simp⟩
theorem Reads.one {v : Value} {d : Dt} (h : DenD (fun b => b < w.heap.size) w d v) : Reads w [v] [d] := by
  refine ⟨rfl, fun i v' d' h1 h2 => ?_⟩
  cases i with
  | zero => simp at h1 h2; subst h1 h2; exact h
  | succ i => simp at h1
theorem Reads.append {a b : List Value} {x y : List Dt} (h : Reads w a x) (h' : Reads w b y) : Reads w (a ++ b) (x ++ y) := by
  refine ⟨by simp [h.1, h'.1], fun i v d h1 h2 => ?_⟩
  rcases Nat.lt_or_ge i a.length with hlt | hge
  · rw [List.getElem?_append_left hlt] at h1
    rw [List.getElem?_append_left (by rw [← h.1]; exact hlt)] at h2
    exact h.2 i v d h1 h2
  · rw [List.getElem?_append_right hge] at h1
    rw [List.getElem?_append_right (by rw [← h.1]; exact hge)] at h2
    exact h'.2 _ v d h1 (by rw [h.1]; exact h2)

theorem spot_none {a : Addr} {v : Value} (h : w.cell? a = some v) : a.spot = none := by
  unfold World.cell? at h
  split at h
  · split at h
    · cases h
    · rename_i hs
      cases hsp : a.spot with
      | none => rfl
      | some x => rw [hsp] at hs; simp at hs
  · cases h

/-- **A READING IS DATA**, of the type's leaves. -/
theorem read_leafs (bk : Bulk H) : ∀ (d : Nat) (t : TypeId) (ls : List Lf), leafs P d t = some ls → ∀ (fuel : Nat) (cs : List Value) (x : DataW H × List MemPlace), DataW.trod enc P w base spare held fuel t cs = some x →
    ∃ ds, Fits ls ds ∧ Reads w cs ds ∧ Dt.sizeL ds ≤ bk.f x.1 := by
  intro d
  induction d with
  | zero => intro t ls h; simp [leafs] at h
  | succ d ih =>
    intro t ls h fuel cs x hx
    simp only [leafs] at h
    split at h
    · rename_i ht
      cases h
      obtain ⟨b, rfl, rfl⟩ := DataW.trod_bool ht hx
      exact ⟨[.val (.bool b)], .b b .nil, Reads.one (.val _ rfl), by simpa [Dt.sizeL, Dt.size] using bk.lit _⟩
    · rename_i k ht
      cases h
      obtain ⟨n, rfl, rfl, hw⟩ := DataW.trod_int ht hx
      exact ⟨[.val (.int k n)], .i k n hw .nil, Reads.one (.val _ rfl), by simpa [Dt.sizeL, Dt.size] using bk.lit _⟩
    · rename_i ht
      cases h
      obtain ⟨s, rfl, rfl, hs⟩ := DataW.trod_string ht hx
      refine ⟨[.val (.string s)], .s s .nil, Reads.one (.val _ rfl), ?_⟩
      have : s.data.toList.length = s.size := by rw [Array.length_toList]; rfl
      simp only [Dt.sizeL, Dt.size, bk.str, this]
      omega
    · rename_i e ht
      split at h
      · rename_i es hes
        split at h
        · rename_i hc
          cases h
          rcases DataW.trod_slice ht hx with ⟨rfl, rfl⟩ | ⟨a, len, cap, elems, rest, n, rfl, rfl, rfl, hb, hlc, hcm, hel, hat, _, _⟩
          · exact ⟨[.sl es.length []], .sl es [] (by simp) .nil, Reads.one (.nil _ none 0 (Nat.zero_le _)), by simpa [Dt.sizeL, Dt.size, Dt.sizeLL] using bk.nil⟩
          · have each : ∀ i, i < len → ∃ cs0 x0 ds0, w.cells? base (a.add (i * es.length)) es.length = some cs0 ∧ elems[i]? = some x0 ∧ Fits es ds0 ∧ Reads w cs0 ds0 ∧ Dt.sizeL ds0 ≤ bk.f x0.1 := by
              intro i hi
              have h1 := hat i hi
              rw [hc.1] at h1
              have hlt : i < elems.length := by omega
              rw [List.getElem?_eq_getElem hlt] at h1
              obtain ⟨cs0, hcs0, htr⟩ := Option.bind_eq_some_iff.1 h1
              obtain ⟨ds0, f0, r0, s0⟩ := ih e es hes n cs0 _ htr
              exact ⟨cs0, _, ds0, hcs0, List.getElem?_eq_getElem hlt, f0, r0, s0⟩
            have mk : ∀ k, k ≤ len → ∃ dss : List (List Dt), dss.length = k ∧ (∀ e, e ∈ dss → Fits es e) ∧ (∀ (i : Nat) ds0, dss[i]? = some ds0 → ∃ cs0, w.cells? base (a.add (i * es.length)) es.length = some cs0 ∧ Reads w cs0 ds0) ∧
                Dt.sizeLL dss ≤ wSum bk.f ((elems.take k).map (·.1)) := by
              intro k
              induction k with
              | zero => intro _; exact ⟨[], rfl, by simp, by simp, by simp [Dt.sizeLL]⟩
              | succ k ihk =>
                intro hk
                obtain ⟨dss, h1, h2, h3, h4⟩ := ihk (by omega)
                obtain ⟨cs0, x0, ds0, hcs0, hx0, f0, r0, s0⟩ := each k (by omega)
                refine ⟨dss ++ [ds0], by simp [h1], fun e he => ?_, fun i ds' hi => ?_, ?_⟩
                · rcases List.mem_append.1 he with he | he
                  · exact h2 e he
                  · simp at he; subst he; exact f0
                · rcases Nat.lt_trichotomy i k with hlt | rfl | hgt
                  · rw [List.getElem?_append_left (by omega)] at hi
                    exact h3 i ds' hi
                  · rw [List.getElem?_append_right (by omega), h1] at hi
                    simp at hi
                    subst hi
                    exact ⟨cs0, hcs0, r0⟩
                  · rw [List.getElem?_append_right (by omega), h1, show i - k = (i - k - 1) + 1 by omega] at hi
                    simp at hi
                · have ht1 : elems.take (k + 1) = elems.take k ++ [x0] := by
                    rw [List.take_add_one, hx0]; rfl
                  have happ : ∀ (p q : List (DataW H)), wSum bk.f (p ++ q) = wSum bk.f p + wSum bk.f q := by
                    intro p
                    induction p with
                    | nil => intro q; simp [wSum]
                    | cons y r ihp => intro q; simp [wSum, ihp q]; omega
                  have hLL : ∀ (p q : List (List Dt)), Dt.sizeLL (p ++ q) = Dt.sizeLL p + Dt.sizeLL q := by
                    intro p
                    induction p with
                    | nil => intro q; simp [Dt.sizeLL]
                    | cons y r ihp => intro q; simp [Dt.sizeLL, ihp q]; omega
                  rw [ht1, List.map_append, happ, hLL]
                  simp only [List.map_cons, List.map_nil, wSum, Dt.sizeLL]
                  omega
            obtain ⟨dss, h1, h2, h3, h4⟩ := mk len (Nat.le_refl _)
            refine ⟨[.sl es.length dss], .sl es dss h2 .nil, Reads.one ?_, ?_⟩
            · rcases Nat.eq_zero_or_pos len with h0 | hpos
              · subst h0
                rw [List.eq_nil_of_length_eq_zero h1]
                exact .nil _ _ _ hcm
              · have h0 := h3 0 dss[0] (List.getElem?_eq_getElem (by omega))
                obtain ⟨cs0, hcs0, hr0⟩ := h0
                obtain ⟨hb0, hl0, hcell0⟩ := World.cells?_some hcs0
                have hsp : a.spot = none := by
                  have h5 := hcell0 0 hc.2
                  have hz : ((a.add (0 * es.length)).add 0) = a := by simp [Addr.add]
                  rw [hz] at h5
                  have hlt : 0 < cs0.length := by omega
                  rw [List.getElem?_eq_getElem hlt] at h5
                  exact spot_none h5
                have hblk : a.block < w.heap.size := by
                  have := World.cells?_block hcs0 hc.2
                  have hz : (a.add (0 * es.length)) = a := by simp [Addr.add]
                  rw [hz] at this
                  exact this
                have hadd : ∀ i j, ((a.add (i * es.length)).add j) = ⟨a.block, a.off + i * es.length + j, none⟩ := by
                  intro i j
                  obtain ⟨ab, ao, asp⟩ := a
                  simp only at hsp
                  subst hsp
                  unfold Addr.add
                  split <;> split <;> simp_all
                rw [← h1]
                have ea : a = ⟨a.block, a.off, none⟩ := by
                  obtain ⟨ab, ao, asp⟩ := a
                  simp only at hsp
                  subst hsp
                  rfl
                rw [ea]
                have key : ∀ (i : Nat) cs' (j : Nat) d', dss[i]? = some cs' → cs'[j]? = some d' → ∃ u, w.cell? ⟨a.block, a.off + i * es.length + j, none⟩ = some u ∧ DenD (fun b => b < w.heap.size) w d' u := by
                  intro i cs' j d' hi hj
                  obtain ⟨cs1, hcs1, hr1⟩ := h3 i cs' hi
                  obtain ⟨_, hl1, hcell1⟩ := World.cells?_some hcs1
                  have hjlt : j < cs1.length := by rw [hr1.1]; exact (List.getElem?_eq_some_iff.1 hj).1
                  have h6 := hcell1 j (by omega)
                  rw [hadd, List.getElem?_eq_getElem hjlt] at h6
                  exact ⟨_, h6, hr1.2 j _ d' (List.getElem?_eq_getElem hjlt) hj⟩
                refine DenD.sl es.length dss a.block a.off cap (fun i j => (w.cell? ⟨a.block, a.off + i * es.length + j, none⟩).getD Go.undef) hblk (by omega) hcm (fun cs' hcs' => (h2 cs' hcs').len)
                  (fun i cs' j d' hi hj => by obtain ⟨u, hu, _⟩ := key i cs' j d' hi hj; rw [hu]; rfl)
                  (fun i cs' j d' hi hj => by obtain ⟨u, hu, hd⟩ := key i cs' j d' hi hj; rw [hu]; exact hd)
            · have h5 := bk.slice (elems.map (·.1)) (rest.map (·.1))
              have h6 : elems.take len = elems := List.take_of_length_le (by omega)
              rw [h6] at h4
              simp only [Dt.sizeL, Dt.size]
              omega
        · cases h
      · cases h
    · rename_i fs ht
      obtain ⟨xs, n, rfl, rfl, hl, hlen, hf⟩ := DataW.trod_struct ht hx
      have go : ∀ (l : List Field) (k off : Nat) (ls : List Lf), fs.toList.drop k = l → leafsF P (leafs P d) l off = some ls → cs.length = off + ls.length → ∃ ds, Fits ls ds ∧ Reads w (cs.drop off) ds ∧ Dt.sizeL ds ≤ wSum bk.f ((xs.drop k).map (·.1)) := by
        intro l
        induction l with
        | nil =>
          intro k off ls _ hls hcl
          simp only [leafsF] at hls
          cases hls
          refine ⟨[], .nil, ?_, by simp [Dt.sizeL]⟩
          have : cs.drop off = [] := List.drop_eq_nil_of_le (by simp at hcl; omega)
          rw [this]
          exact Reads.nil
        | cons f r ihl =>
          intro k off ls hk hls hcl
          simp only [leafsF] at hls
          split at hls
          · rename_i hoff
            split at hls
            · rename_i ks hks
              split at hls
              · rename_i hck
                split at hls
                · rename_i rs hrs
                  cases hls
                  have hfk : fs[k]? = some f := by
                    have : (fs.toList.drop k)[0]? = some f := by rw [hk]; rfl
                    simpa using this
                  have hr : fs.toList.drop (k + 1) = r := by rw [← List.tail_drop, hk]; rfl
                  have hklt : k < xs.length := by rw [hlen]; exact (Array.getElem?_eq_some_iff.1 hfk).1
                  have htr := hf k f hfk
                  rw [hoff, hck, List.getElem?_eq_getElem hklt] at htr
                  obtain ⟨ds1, f1, r1, s1⟩ := ih f.type ks hks n _ _ htr
                  rw [List.length_append] at hcl
                  obtain ⟨ds2, f2, r2, s2⟩ := ihl (k + 1) (off + ks.length) rs hr hrs (by omega)
                  refine ⟨ds1 ++ ds2, f1.append f2, ?_, ?_⟩
                  · have : cs.drop off = (cs.drop off).take ks.length ++ cs.drop (off + ks.length) := by
                      rw [← List.drop_drop, List.take_append_drop]
                    rw [this]
                    exact r1.append r2
                  · rw [Dt.sizeL_append, List.drop_eq_getElem_cons hklt]
                    simp only [List.map_cons, wSum]
                    omega
                · cases hls
              · cases hls
            · cases hls
          · cases hls
      split at h
      · rename_i ls' hls
        split at h
        · rename_i hc
          cases h
          obtain ⟨ds, f1, r1, s1⟩ := go fs.toList 0 0 _ (by simp) hls (by omega)
          refine ⟨ds, f1, by simpa using r1, ?_⟩
          have := bk.agg (xs.map (·.1))
          simp only [List.drop_zero] at s1
          show _ ≤ bk.f (DataW.agg (xs.map (·.1)))
          omega
        · cases h
      · cases h
    · rename_i n e ht
      split at h
      · rename_i es hes
        split at h
        · rename_i hc
          cases h
          obtain ⟨xs, m, rfl, rfl, hl, hlen, hat⟩ := DataW.trod_array ht hx
          have go : ∀ (k i : Nat), i + k = n → ∃ ds, Fits (rept k es) ds ∧ Reads w (cs.drop (i * es.length)) ds ∧ Dt.sizeL ds ≤ wSum bk.f ((xs.drop i).map (·.1)) := by
            intro k
            induction k with
            | zero =>
              intro i hi
              refine ⟨[], .nil, ?_, by simp [Dt.sizeL]⟩
              have : cs.drop (i * es.length) = [] := List.drop_eq_nil_of_le (by rw [hl, hc.2, show i = n by omega]; exact Nat.le_refl _)
              rw [this]
              exact Reads.nil
            | succ k ihk =>
              intro i hi
              have htr := hat i (by omega)
              have hilt : i < xs.length := by omega
              rw [hc.1, List.getElem?_eq_getElem hilt] at htr
              obtain ⟨ds1, f1, r1, s1⟩ := ih e es hes m _ _ htr
              obtain ⟨ds2, f2, r2, s2⟩ := ihk (i + 1) (by omega)
              refine ⟨ds1 ++ ds2, f1.append f2, ?_, ?_⟩
              · have : cs.drop (i * es.length) = (cs.drop (i * es.length)).take es.length ++ cs.drop ((i + 1) * es.length) := by
                  rw [Nat.add_mul, Nat.one_mul, ← List.drop_drop, List.take_append_drop]
                rw [this]
                exact r1.append r2
              · rw [Dt.sizeL_append, List.drop_eq_getElem_cons hilt]
                simp only [List.map_cons, wSum]
                omega
          obtain ⟨ds, f1, r1, s1⟩ := go n 0 (by omega)
          refine ⟨ds, f1, by simpa using r1, ?_⟩
          have := bk.agg (xs.map (·.1))
          simp only [List.drop_zero] at s1
          show _ ≤ bk.f (DataW.agg (xs.map (·.1)))
          omega
        · cases h
      · cases h
    · cases h

/-- an argument: a cell, or some -/
def argV (agg : Bool) (ds : List Dt) : CV := match agg, ds with
  | true, ds => .rv (.agg (ds.map .dat))
  | false, [d] => .rv (.one (.dat d))
  | false, _ => .junk
theorem argV_den {agg : Bool} {v : Value} {ds : List Dt} (hr : Reads w v.cells.toList ds) (ha : agg = true → ∃ vs, v = .agg vs) (hn : agg = false → v.oneCell' = true) : DenV (rho0 w) w (argV agg ds) v := by
  cases agg with
  | true =>
    obtain ⟨vs, rfl⟩ := ha rfl
    refine ⟨vs.toList, by simp, by simpa [Value.cells] using hr.1, fun i c hi => ?_⟩
    rw [List.getElem?_map] at hi
    cases hd : ds[i]? with
    | none => rw [hd] at hi; cases hi
    | some d =>
      rw [hd] at hi
      cases hi
      have hlt : i < vs.toList.length := by
        have := (List.getElem?_eq_some_iff.1 hd).1
        have h1 := hr.1
        simp only [Value.cells] at h1
        omega
      exact ⟨_, List.getElem?_eq_getElem hlt, hr.2 i _ d (List.getElem?_eq_getElem hlt) hd⟩
  | false =>
    have h1 := hn rfl
    have hc : v.cells.toList = [v] := by cases v <;> first | rfl | simp [Value.oneCell'] at h1
    rw [hc] at hr
    match ds, hr with
    | [d], hr => exact hr.2 0 v d rfl rfl
end
end Go.AM
