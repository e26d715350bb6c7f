import Derived.Test.YtbemknkbegkflaaAmZ2
import Derived.Test.YtbemknkbegkflaaDvGa
import Derived.Test.YtbemknkbegkflaaAmY
set_option linter.unusedVariables false
set_option linter.unusedSimpArgs false
namespace Go.Proofs.Ytbemknkbegkflaa
open Go.AM Go.ChangeShapes Go.WideShapes Go.ChangeAt Go.RowKit
/-! the order of names; a name put into its place: plain -/
theorem bl_irr : ∀ a : List UInt8, Op.bytesLess a a = false
  | [] => rfl
  | x :: r => by simp [Op.bytesLess, bl_irr r]
theorem bl_trans : ∀ {a b c : List UInt8}, Op.bytesLess a b = true → Op.bytesLess b c = true → Op.bytesLess a c = true
  | a, [], _, h, _ => by cases a <;> simp [Op.bytesLess] at h
  | _, _ :: _, [], _, h => by simp [Op.bytesLess] at h
  | [], _ :: _, _ :: _, _, _ => rfl
  | x :: a, y :: b, z :: c, h1, h2 => by
    simp only [Op.bytesLess, Bool.or_eq_true, Bool.and_eq_true, decide_eq_true_eq, beq_iff_eq] at h1 h2 ⊢
    rcases h1 with h1 | ⟨rfl, h1⟩
    · rcases h2 with h2 | ⟨rfl, h2⟩
      · exact .inl (UInt8.lt_trans h1 h2)
      · exact .inl h1
    · rcases h2 with h2 | ⟨rfl, h2⟩
      · exact .inl h2
      · exact .inr ⟨rfl, bl_trans h1 h2⟩
theorem bl_tri : ∀ a b : List UInt8, Op.bytesLess a b = true ∨ a = b ∨ Op.bytesLess b a = true
  | [], [] => .inr (.inl rfl)
  | [], _ :: _ => .inl rfl
  | _ :: _, [] => .inr (.inr rfl)
  | x :: a, y :: b => by
    simp only [Op.bytesLess, Bool.or_eq_true, Bool.and_eq_true, decide_eq_true_eq, beq_iff_eq, List.cons.injEq]
    by_cases h : x < y
    · exact .inl (.inl h)
    · by_cases h2 : y < x
      · exact .inr (.inr (.inl h2))
      · have e : x = y := by
          have h3 : ¬ x.toNat < y.toNat := h
          have h4 : ¬ y.toNat < x.toNat := h2
          exact UInt8.toNat_inj.1 (by omega)
        subst e
        rcases bl_tri a b with h5 | h5 | h5
        · exact .inl (.inr ⟨rfl, h5⟩)
        · exact .inr (.inl ⟨rfl, h5⟩)
        · exact .inr (.inr (.inr ⟨rfl, h5⟩))
abbrev NE := ByteArray × Int
def ltN (a b : ByteArray) : Prop := Op.bytesLess a.toList b.toList = true
def Srt (es : List NE) : Prop := es.Pairwise fun a b => ltN a.1 b.1
/-- the test of the document's Enter -/
def gtN (a b : ByteArray) : Bool := !(Op.bytesLess a.toList b.toList || a.toList == b.toList)
theorem gt_lt {a b : ByteArray} (h : gtN a b = true) : ltN b a := by
  unfold gtN at h
  simp only [Bool.not_eq_true', Bool.or_eq_false_iff, beq_eq_false_iff_ne] at h
  rcases bl_tri a.toList b.toList with h1 | h1 | h1
  · rw [h.1] at h1; cases h1
  · exact absurd h1 h.2
  · exact h1
theorem ngt_lt {a b : ByteArray} (h : gtN a b = false) (hne : a.toList ≠ b.toList) : ltN a b := by
  unfold gtN at h
  simp only [Bool.not_eq_false', Bool.or_eq_true, beq_iff_eq] at h
  exact h.elim id fun h => absurd h hne
/-- what the loop of Enter has gathered, k entries on -/
structure AccOK (es : List NE) (x : NE) (k : Nat) (d : Bool) (acc : List NE) : Prop where
  f : d = false → acc = es.take k ∧ ∀ (j : Nat) e, j < k → es[j]? = some e → gtN e.1 x.1 = false
  t : d = true → ∃ i, i < k ∧ acc = es.take i ++ x :: (es.take k).drop i ∧ (∀ (j : Nat) e, j < i → es[j]? = some e → gtN e.1 x.1 = false) ∧ ∃ e, es[i]? = some e ∧ gtN e.1 x.1 = true
theorem AccOK.init (es : List NE) (x : NE) : AccOK es x 0 false [] := ⟨fun _ => ⟨rfl, fun j e h => absurd h (Nat.not_lt_zero j)⟩, fun h => by cases h⟩
theorem take_snoc {es : List NE} {k : Nat} (h : k < es.length) : es.take (k + 1) = es.take k ++ [es[k]] := by
  rw [List.take_add_one, List.getElem?_eq_getElem h]; rfl
theorem AccOK.skip {es : List NE} {x : NE} {k : Nat} {acc : List NE} (h : AccOK es x k false acc) (hk : k < es.length) (hg : gtN es[k].1 x.1 = false) : AccOK es x (k + 1) false (acc ++ [es[k]]) := by
  obtain ⟨h1, h2⟩ := h.f rfl
  refine ⟨fun _ => ⟨by rw [take_snoc hk, h1], fun j e hj he => ?_⟩, fun h => by cases h⟩
  rcases Nat.lt_or_ge j k with h3 | h3
  · exact h2 j e h3 he
  · have : j = k := by omega
    subst this
    rw [List.getElem?_eq_getElem hk] at he
    cases he
    exact hg
theorem AccOK.ins {es : List NE} {x : NE} {k : Nat} {acc : List NE} (h : AccOK es x k false acc) (hk : k < es.length) (hg : gtN es[k].1 x.1 = true) : AccOK es x (k + 1) true (acc ++ [x, es[k]]) := by
  obtain ⟨h1, h2⟩ := h.f rfl
  refine ⟨fun h => (by cases h), fun _ => ⟨k, Nat.lt_succ_self k, ?_, h2, es[k], List.getElem?_eq_getElem hk, hg⟩⟩
  rw [take_snoc hk, h1, List.drop_left' (by simp; omega)]
theorem AccOK.more {es : List NE} {x : NE} {k : Nat} {acc : List NE} (h : AccOK es x k true acc) (hk : k < es.length) : AccOK es x (k + 1) true (acc ++ [es[k]]) := by
  obtain ⟨i, h1, h2, h3, h4⟩ := h.t rfl
  refine ⟨fun h => (by cases h), fun _ => ⟨i, by omega, ?_, h3, h4⟩⟩
  rw [take_snoc hk, List.drop_append_of_le_length (by simp; omega), h2]
  simp
theorem AccOK.len {es : List NE} {x : NE} {k : Nat} {d : Bool} {acc : List NE} (h : AccOK es x k d acc) (hk : k ≤ es.length) : acc.length = k + d.toNat := by
  cases d with
  | false =>
    rw [(h.f rfl).1]
    simp; omega
  | true =>
    obtain ⟨i, h1, h2, _⟩ := h.t rfl
    rw [h2]
    simp; omega
theorem srt_ins {a b : List NE} {x : NE} (h : Srt (a ++ b)) (ha : ∀ e, e ∈ a → ltN e.1 x.1) (hb : ∀ e, e ∈ b → ltN x.1 e.1) : Srt (a ++ x :: b) := by
  unfold Srt at *
  rw [List.pairwise_append] at h ⊢
  refine ⟨h.1, List.pairwise_cons.2 ⟨hb, h.2.1⟩, fun e he y hy => ?_⟩
  rcases List.mem_cons.1 hy with rfl | hy
  · exact ha e he
  · exact h.2.2 e he y hy
/-- put into its place: sorted still -/
theorem AccOK.fin {es : List NE} {x : NE} {d : Bool} {acc : List NE} (h : AccOK es x es.length d acc) (hs : Srt es) (hne : ∀ e, e ∈ es → e.1.toList ≠ x.1.toList) :
    Srt (acc ++ (if d = true then [] else [x])) ∧ ∀ e, e ∈ acc ++ (if d = true then [] else [x]) → e ∈ es ∨ e = x := by
  cases d with
  | false =>
    obtain ⟨h1, h2⟩ := h.f rfl
    rw [List.take_length] at h1
    subst h1
    refine ⟨srt_ins (by rw [List.append_nil]; exact hs) (fun e he => ?_) (fun e he => by simp at he), fun e he => by simpa using he⟩
    obtain ⟨j, hj⟩ := List.getElem?_of_mem he
    exact ngt_lt (h2 j e (List.getElem?_eq_some_iff.1 hj).1 hj) (hne e he)
  | true =>
    obtain ⟨i, h1, h2, h3, e0, h4, h5⟩ := h.t rfl
    rw [List.take_length] at h2
    subst h2
    simp only [if_true, List.append_nil]
    have hs' : Srt (es.take i ++ es.drop i) := by rw [List.take_append_drop]; exact hs
    refine ⟨srt_ins hs' (fun e he => ?_) (fun e he => ?_), fun e he => ?_⟩
    · obtain ⟨j, hj⟩ := List.getElem?_of_mem he
      have hjl := (List.getElem?_eq_some_iff.1 hj).1
      rw [List.length_take] at hjl
      rw [List.getElem?_take, if_pos (by omega)] at hj
      exact ngt_lt (h3 j e (by omega) hj) (hne e (List.mem_of_getElem? hj))
    · obtain ⟨j, hj⟩ := List.getElem?_of_mem he
      rw [List.getElem?_drop] at hj
      have hx := gt_lt h5
      rcases Nat.eq_zero_or_pos j with h0 | h0
      · subst h0
        rw [Nat.add_zero, h4] at hj
        cases hj
        exact hx
      · have hjl := (List.getElem?_eq_some_iff.1 hj).1
        have hil := (List.getElem?_eq_some_iff.1 h4).1
        have := List.pairwise_iff_getElem.1 hs i (i + j) hil hjl (by omega)
        rw [(List.getElem?_eq_some_iff.1 h4).2, (List.getElem?_eq_some_iff.1 hj).2] at this
        exact bl_trans hx this
    · rcases List.mem_append.1 he with he | he
      · exact .inl (List.mem_of_mem_take he)
      · rcases List.mem_cons.1 he with rfl | he
        · exact .inr rfl
        · exact .inl (List.mem_of_mem_drop he)
/-- an entry put into its place -/
def insS (x : NE) : List NE → List NE
  | [] => [x]
  | e :: r => if gtN e.1 x.1 = true then x :: e :: r else e :: insS x r
theorem insS_app {x : NE} : ∀ {a b : List NE}, (∀ e, e ∈ a → gtN e.1 x.1 = false) → insS x (a ++ b) = a ++ insS x b
  | [], _, _ => rfl
  | e :: a, b, h => by
    show insS x (e :: (a ++ b)) = _
    rw [insS, if_neg (by rw [h e (by simp)]; simp), insS_app fun y hy => h y (by simp [hy])]
    rfl
theorem insS_hd {x e : NE} {r : List NE} (h : gtN e.1 x.1 = true) : insS x (e :: r) = x :: e :: r := by rw [insS, if_pos h]
theorem insS_mem {x : NE} : ∀ {es : List NE} {e : NE}, e ∈ insS x es → e ∈ es ∨ e = x
  | [], e, h => by simp [insS] at h; exact .inr h
  | y :: r, e, h => by
    rw [insS] at h
    split at h
    · rcases List.mem_cons.1 h with h | h
      · exact .inr h
      · exact .inl h
    · rcases List.mem_cons.1 h with h | h
      · exact .inl (by simp [h])
      · rcases insS_mem h with h | h
        · exact .inl (by simp [h])
        · exact .inr h
theorem insS_len {x : NE} : ∀ es : List NE, (insS x es).length = es.length + 1
  | [] => rfl
  | y :: r => by
    rw [insS]
    split
    · rfl
    · simp [insS_len r]
theorem AccOK.eq {es : List NE} {x : NE} {d : Bool} {acc : List NE} (h : AccOK es x es.length d acc) : acc ++ (if d = true then [] else [x]) = insS x es := by
  cases d with
  | false =>
    obtain ⟨h1, h2⟩ := h.f rfl
    rw [List.take_length] at h1
    subst h1
    have := insS_app (x := x) (a := acc) (b := []) fun e he => by
      obtain ⟨j, hj⟩ := List.getElem?_of_mem he
      exact h2 j e (List.getElem?_eq_some_iff.1 hj).1 hj
    rw [List.append_nil] at this
    rw [this]
    rfl
  | true =>
    obtain ⟨i, h1, h2, h3, e0, h4, h5⟩ := h.t rfl
    rw [List.take_length] at h2
    subst h2
    have hil := (List.getElem?_eq_some_iff.1 h4).1
    have hd : es.drop i = e0 :: es.drop (i + 1) := by
      rw [List.drop_eq_getElem_cons hil, (List.getElem?_eq_some_iff.1 h4).2]
    have := insS_app (x := x) (a := es.take i) (b := es.drop i) fun e he => by
      obtain ⟨j, hj⟩ := List.getElem?_of_mem he
      have hjl := (List.getElem?_eq_some_iff.1 hj).1
      rw [List.length_take] at hjl
      rw [List.getElem?_take, if_pos (by omega)] at hj
      exact h3 j e (by omega) hj
    rw [List.take_append_drop] at this
    rw [this, hd, insS_hd h5]
    simp
theorem srt_insS {es : List NE} {x : NE} (hs : Srt es) (hne : ∀ e, e ∈ es → e.1.toList ≠ x.1.toList) : Srt (insS x es) := by
  induction es with
  | nil => exact List.pairwise_cons.2 ⟨by simp, List.Pairwise.nil⟩
  | cons e r ih =>
    obtain ⟨h1, h2⟩ := List.pairwise_cons.1 hs
    rw [insS]
    split
    · rename_i hg
      have hx := gt_lt hg
      refine List.pairwise_cons.2 ⟨fun y hy => ?_, hs⟩
      rcases List.mem_cons.1 hy with rfl | hy
      · exact hx
      · exact bl_trans hx (h1 y hy)
    · rename_i hg
      rw [Bool.not_eq_true] at hg
      refine List.pairwise_cons.2 ⟨fun y hy => ?_, ih h2 fun y hy => hne y (by simp [hy])⟩
      rcases insS_mem hy with hy | rfl
      · exact h1 y hy
      · exact ngt_lt hg (hne e (by simp))
/-- what the document's Find answers -/
def FindOK (es : List NE) (name : ByteArray) (n : Int) : Prop := (∃ e, e ∈ es ∧ e.1.toList = name.toList ∧ n = e.2) ∨ (n = -1 ∧ ∀ e, e ∈ es → e.1.toList ≠ name.toList)
def findS (es : List NE) (name : ByteArray) : Int := match es.find? (fun e => decide (e.1.toList = name.toList)) with
  | some e => e.2
  | none => -1
theorem srt_uniq {es : List NE} (hs : Srt es) {a b : NE} (ha : a ∈ es) (hb : b ∈ es) (h : a.1.toList = b.1.toList) : a = b := by
  obtain ⟨i, hi⟩ := List.getElem?_of_mem ha
  obtain ⟨j, hj⟩ := List.getElem?_of_mem hb
  obtain ⟨hi1, hi2⟩ := List.getElem?_eq_some_iff.1 hi
  obtain ⟨hj1, hj2⟩ := List.getElem?_eq_some_iff.1 hj
  have hp := List.pairwise_iff_getElem.1 hs
  rcases Nat.lt_trichotomy i j with h3 | h3 | h3
  · have := hp i j hi1 hj1 h3
    rw [hi2, hj2, ltN, h, bl_irr] at this
    cases this
  · subst h3
    rw [hi] at hj
    cases hj
    rfl
  · have := hp j i hj1 hi1 h3
    rw [hi2, hj2, ltN, h, bl_irr] at this
    cases this
theorem findS_OK (es : List NE) (name : ByteArray) : FindOK es name (findS es name) := by
  unfold findS
  cases h : es.find? (fun e => decide (e.1.toList = name.toList)) with
  | some e =>
    have h1 := List.find?_some h
    exact .inl ⟨e, List.mem_of_find?_eq_some h, by simpa using h1, rfl⟩
  | none => exact .inr ⟨rfl, fun e he => by simpa using List.find?_eq_none.1 h e he⟩
theorem findOK_uniq {es : List NE} (hs : Srt es) {name : ByteArray} {n k : Int} (h : FindOK es name n) (h2 : FindOK es name k) : n = k := by
  rcases h with ⟨e, he, h3, rfl⟩ | ⟨rfl, h3⟩
  · rcases h2 with ⟨e', he', h4, rfl⟩ | ⟨rfl, h4⟩
    · rw [srt_uniq hs he he' (h3.trans h4.symm)]
    · exact absurd h3 (h4 e he)
  · rcases h2 with ⟨e', he', h4, rfl⟩ | ⟨rfl, h4⟩
    · exact absurd h4 (h3 e' he')
    · rfl
/-! trees: (kind, up, entries) -/
abbrev Tri := Int × Int × List NE
structure TreeT (t : List Tri) : Prop where
  up : ∀ x, x ∈ t → 0 ≤ x.2.1 ∧ x.2.1 < t.length
  sz : ∀ x, x ∈ t → ∀ e, e ∈ x.2.2 → e.1.size ≤ 1
  tr : ∀ (i : Nat) x, t[i]? = some x → ∀ e, e ∈ x.2.2 → e.2 ≠ 0 ∧ ∀ y, t[e.2.toNat]? = some y → y.1 = 2 → y.2.1 = (i : Int)
theorem TreeT.snoc {t : List Tri} (h : TreeT t) (h0 : 0 < t.length) (hr : ∀ x, x ∈ t → ∀ e, e ∈ x.2.2 → e.2 < t.length) (k : Int) : TreeT (t ++ [(k, 0, [])]) := by
  refine ⟨fun x hx => ?_, fun x hx => ?_, fun i x hx e he => ?_⟩
  · rw [List.length_append]
    rcases List.mem_append.1 hx with hx | hx
    · have := h.up x hx
      simp
      omega
    · simp at hx
      subst hx
      exact ⟨Int.le_refl 0, by show (0 : Int) < _; omega⟩
  · rcases List.mem_append.1 hx with hx | hx
    · exact h.sz x hx
    · simp at hx
      subst hx
      simp
  · rcases Nat.lt_or_ge i t.length with hi | hi
    · rw [List.getElem?_append_left hi] at hx
      obtain ⟨h1, h2⟩ := h.tr i x hx e he
      refine ⟨h1, fun y hy => h2 y ?_⟩
      have := hr x (List.mem_of_getElem? hx) e he
      rwa [List.getElem?_append_left (by omega)] at hy
    · rw [List.getElem?_append_right hi] at hx
      cases hz : i - t.length with
      | zero => rw [hz] at hx; cases hx; cases he
      | succ j => rw [hz] at hx; simp at hx
/-- one's own Up, of an object that is nowhere entered -/
theorem TreeT.setUp {t : List Tri} (h : TreeT t) {k : Nat} {q : Tri} (hq : t[k]? = some q) (hk : k ≠ 0) (hf : ∀ x, x ∈ t → ∀ e, e ∈ x.2.2 → e.2 ≠ (k : Int)) : TreeT (t.set k (q.1, (k : Int), q.2.2)) := by
  have hkl := (List.getElem?_eq_some_iff.1 hq).1
  refine ⟨fun x hx => ?_, fun x hx => ?_, fun i x hx e he => ?_⟩
  · rw [List.length_set]
    rcases List.mem_or_eq_of_mem_set hx with hx | rfl
    · exact h.up x hx
    · exact ⟨by show (0 : Int) ≤ (k : Int); omega, by show (k : Int) < (t.length : Int); omega⟩
  · rcases List.mem_or_eq_of_mem_set hx with hx | rfl
    · exact h.sz x hx
    · exact h.sz q (List.mem_of_getElem? hq)
  · have hx0 : ∃ x0, t[i]? = some x0 ∧ x.2.2 = x0.2.2 := by
      by_cases hi : k = i
      · subst hi
        rw [List.getElem?_set_self hkl] at hx
        cases hx
        exact ⟨q, hq, rfl⟩
      · rw [List.getElem?_set_ne hi] at hx
        exact ⟨x, hx, rfl⟩
    obtain ⟨x0, hx0, hee⟩ := hx0
    rw [hee] at he
    obtain ⟨h1, h2⟩ := h.tr i x0 hx0 e he
    refine ⟨h1, fun y hy => ?_⟩
    have hne := hf x0 (List.mem_of_getElem? hx0) e he
    rw [List.getElem?_set_ne (by omega)] at hy
    exact h2 y hy
theorem TreeT.enter {t : List Tri} (h : TreeT t) {n p : Nat} {u : Int} {es : List NE} {k u2 : Int} {es2 : List NE} {name : ByteArray} (hs : name.size ≤ 1) (hn : t[n]? = some (2, u, es))
    (hp : (t.set n (2, u, insS (name, (p : Int)) es))[p]? = some (k, u2, es2)) (h0 : p ≠ 0) (hf : ∀ x, x ∈ t → ∀ e, e ∈ x.2.2 → e.2 ≠ (p : Int)) : TreeT ((t.set n (2, u, insS (name, (p : Int)) es)).set p (k, if k = 2 then (n : Int) else u2, es2)) := by
  have hnl := (List.getElem?_eq_some_iff.1 hn).1
  have hpl := (List.getElem?_eq_some_iff.1 hp).1
  have h1 : ∀ (i : Nat) z, (t.set n (2, u, insS (name, (p : Int)) es))[i]? = some z → ∃ z0, t[i]? = some z0 ∧ z.1 = z0.1 ∧ z.2.1 = z0.2.1 ∧ ∀ e, e ∈ z.2.2 → e ∈ z0.2.2 ∨ (e = (name, (p : Int)) ∧ i = n) := by
    intro i z hz
    by_cases hi : n = i
    · subst hi
      rw [List.getElem?_set_self hnl] at hz
      cases hz
      refine ⟨_, hn, rfl, rfl, fun e he => ?_⟩
      rcases insS_mem he with he | he
      · exact .inl he
      · exact .inr ⟨he, rfl⟩
    · rw [List.getElem?_set_ne hi] at hz
      exact ⟨z, hz, rfl, rfl, fun e he => .inl he⟩
  have h2 : ∀ (i : Nat) z, ((t.set n (2, u, insS (name, (p : Int)) es)).set p (k, if k = 2 then (n : Int) else u2, es2))[i]? = some z → ∃ z0, t[i]? = some z0 ∧ z.1 = z0.1 ∧ ((z.2.1 = z0.2.1 ∧ (i = p → z.1 ≠ 2)) ∨ (i = p ∧ z.2.1 = (n : Int))) ∧ ∀ e, e ∈ z.2.2 → e ∈ z0.2.2 ∨ (e = (name, (p : Int)) ∧ i = n) := by
    intro i z hz
    by_cases hi : p = i
    · subst hi
      rw [List.getElem?_set_self hpl] at hz
      obtain ⟨z0, a1, a2, a3, a4⟩ := h1 p _ hp
      cases hz
      refine ⟨z0, a1, a2, ?_, a4⟩
      by_cases hk : k = 2
      · exact .inr ⟨rfl, by simp [hk]⟩
      · exact .inl ⟨by simpa [hk] using a3, fun _ => hk⟩
    · rw [List.getElem?_set_ne hi] at hz
      obtain ⟨z0, a1, a2, a3, a4⟩ := h1 i _ hz
      exact ⟨z0, a1, a2, .inl ⟨a3, fun e => absurd e.symm hi⟩, a4⟩
  refine ⟨fun x hx => ?_, fun x hx e he => ?_, fun i x hx e he => ?_⟩
  · obtain ⟨i, hi⟩ := List.getElem?_of_mem hx
    obtain ⟨z0, a1, a2, a3, a4⟩ := h2 i x hi
    have := h.up z0 (List.mem_of_getElem? a1)
    rw [List.length_set, List.length_set]
    rcases a3 with ⟨a3, _⟩ | ⟨_, a3⟩
    · rw [a3]; exact this
    · rw [a3]; omega
  · obtain ⟨i, hi⟩ := List.getElem?_of_mem hx
    obtain ⟨z0, a1, a2, a3, a4⟩ := h2 i x hi
    rcases a4 e he with he | ⟨rfl, _⟩
    · exact h.sz z0 (List.mem_of_getElem? a1) e he
    · exact hs
  · obtain ⟨z0, a1, a2, a3, a4⟩ := h2 i x hx
    rcases a4 e he with he | ⟨rfl, rfl⟩
    · obtain ⟨b1, b2⟩ := h.tr i z0 a1 e he
      have hne := hf z0 (List.mem_of_getElem? a1) e he
      refine ⟨b1, fun y hy hk => ?_⟩
      obtain ⟨y0, c1, c2, c3, c4⟩ := h2 _ y hy
      rcases c3 with ⟨c3, _⟩ | ⟨c3, _⟩
      · rw [c3]
        exact b2 y0 c1 (by rw [← c2]; exact hk)
      · omega
    · refine ⟨by show (p : Int) ≠ 0; omega, fun y hy hk => ?_⟩
      have hy : ((t.set i (2, u, insS (name, (p : Int)) es)).set p (k, if k = 2 then (i : Int) else u2, es2))[((p : Nat) : Int).toNat]? = some y := hy
      rw [Int.toNat_natCast] at hy
      obtain ⟨y0, c1, c2, c3, c4⟩ := h2 p y hy
      rcases c3 with ⟨_, c3⟩ | ⟨_, c3⟩
      · exact absurd hk (c3 rfl)
      · exact c3

/-! Objects whose queue may be of no room: With, Make, Is, Find, Enter of the document over them -/
def noD : Dt := .val (.slice none 0 0)
structure Ob where
  kind : Int
  data : List (List Dt)
  entries : List (List Dt)
  target : ByteArray
  peer : Int
  queue : Dt
  proc : Int
  links : Int
  up : Int
def Ob.enc (o : Ob) : List Dt := [.val (.int .i64 o.kind), .sl 1 o.data, .sl 2 o.entries, .val (.string o.target), .val (.int .i64 o.peer), o.queue, .val (.int .i64 o.proc), .val (.int .i64 o.links), .val (.int .i64 o.up)]
def Ob.cv (o : Ob) : CV := .rv (.agg (o.enc.map .dat))
def obsD (l : List Ob) : Dt := .sl 9 (l.map Ob.enc)
def obsV (l : List Ob) : CV := .rv (.one (.dat (obsD l)))
def obsR (l : List Ob) : RV := .one (.dat (obsD l))
def twoVB (l : List Ob) (e : Int) : CV := .tup [obsR l, iRV e]
theorem dRows_setB (l : List Ob) (k : Nat) (o : Ob) : (dRows (l.map Ob.enc)).set k (o.enc.map .dat) = dRows ((l.set k o).map Ob.enc) := by
  simp [dRows, List.map_set]
/-! Is -/
def isSB (l : List Ob) (k kind : Int) : Bool := decide (k ≥ 0) && (decide (k < l.length) && match l[k.toNat]? with | none => false | some o => o.kind != 0 && (kind == 0 || o.kind == kind))
/-! With -/
def withSB (l : List Ob) (k : Int) (o : Ob) : List Ob := if k = l.length then l ++ [o] else l.set k.toNat o
set_option maxRecDepth 100000 in
set_option maxHeartbeats 4000000 in
theorem with_bodyB (l : List Ob) (hl : l.length ≤ 4194304) (k : Nat) (hk : k ≤ l.length) (o : Ob) : body Try.prog c12 [obsV l, vInt .i64 (k : Nat), o.cv] [] (fun r m => FrzV m r (obsV (withSB l k o))) := by
  have hlen : (dRows (l.map Ob.enc)).length = l.length := by simp [dRows]
  refine ⟨?_, ?_⟩
  · show (0 + (dRows (l.map Ob.enc)).length) * 128 ≤ _
    rw [hlen]; omega
  refine bB_beq (fun h => ?_) (fun h => ?_)
  · have h : k = l.length := by
      have h : (k : Int) = ((([] : List (List CC)) ++ dRows (l.map Ob.enc)).length : Int) := h
      simp [hlen] at h
      omega
    have e : withSB l k o = l ++ [o] := by rw [withSB, if_pos (by omega)]
    rw [e]
    refine ⟨?_, ?_⟩
    · show ((([] : List (List CC)) ++ dRows (l.map Ob.enc)).length + 1) * 128 ≤ _
      simp [hlen]; omega
    have hfin : some (Bk.row 9 ((([] : List (List CC)) ++ dRows (l.map Ob.enc)) ++ [o.enc.map .dat])) = some (Bk.row 9 (dRows ((l ++ [o]).map Ob.enc))) := by
      rw [List.map_append, dRows_append]; rfl
    exact .rv (.one (FrzC.rowD hfin 0 none))
  · have hlt : k < l.length := by
      have h : (k : Int) ≠ ((([] : List (List CC)) ++ dRows (l.map Ob.enc)).length : Int) := h
      simp [hlen] at h
      omega
    have e : withSB l k o = l.set k o := by rw [withSB, if_neg (by omega), Int.toNat_natCast]
    rw [e]
    refine ok_some (idxZ_nat (k := k) (by show k < lenOf (([] : List (List CC)) ++ dRows (l.map Ob.enc)).length 0 none; simp [hlen, lenOf]; omega)) ?_
    refine ok_some (x := l[k].enc.map .dat) (by show nth (([] : List (List CC)) ++ dRows (l.map Ob.enc)) (addN 0 k) = _; simpa [addN] using dRows_nth' Ob.enc l hlt) ?_
    have hfin : some (Bk.row 9 (setN (([] : List (List CC)) ++ dRows (l.map Ob.enc)) (addN 0 k) (o.enc.map .dat))) = some (Bk.row 9 (dRows ((l.set k o).map Ob.enc))) := by
      rw [setN_eq, ← dRows_setB]
      simp [addN]
    exact .rv (.one (FrzC.rowD hfin 0 none))
set_option maxRecDepth 100000 in
theorem with_okB (l : List Ob) (hl : l.length ≤ 4194304) (k : Nat) (hk : k ≤ l.length) (o : Ob) {m : Mem} {K : CV → Mem → Prop} (h : K (obsV (withSB l k o)) m) : ACall Try.prog 12 [obsV l, vInt .i64 (k : Nat), o.cv] m K :=
  acall_frame (acall_body Try.func12 l12 rfl (Nat.le_of_ble_eq_true rfl) (with_bodyB l hl k hk o)) (by simp [obsV, vInt, Ob.cv, CV.isD, CC.isD, RV.isD]) fun r m1 hf => ⟨_, hf, h⟩
/-! Make, Is of the document -/
def freeKB (l : List Ob) : Nat := (l.findIdx? (fun o => o.kind == 0)).getD l.length
theorem freeK_atB {l : List Ob} {k : Nat} (h : k < l.length) (h0 : l[k].kind = 0) (hb : ∀ (j : Nat) o, j < k → l[j]? = some o → o.kind ≠ 0) : freeKB l = k := by
  have : l.findIdx? (fun o => o.kind == 0) = some k := by
    rw [List.findIdx?_eq_some_iff_getElem]
    exact ⟨h, by simpa using h0, fun j hj => by simpa using hb j _ hj (List.getElem?_eq_getElem (by omega))⟩
  rw [freeKB, this]; rfl
theorem freeK_endB {l : List Ob} (hb : ∀ (j : Nat) o, j < l.length → l[j]? = some o → o.kind ≠ 0) : freeKB l = l.length := by
  have : l.findIdx? (fun o => o.kind == 0) = none := by
    rw [List.findIdx?_eq_none_iff]
    intro o ho
    obtain ⟨i, hi⟩ := List.getElem?_of_mem ho
    simpa using hb i o (List.getElem?_eq_some_iff.1 hi).1 hi
  rw [freeKB, this]; rfl
theorem freeK_leB (l : List Ob) : freeKB l ≤ l.length := by
  unfold freeKB
  cases h : l.findIdx? (fun o => o.kind == 0) with
  | none => exact Nat.le_refl _
  | some k =>
    have := (List.findIdx?_eq_some_iff_getElem.1 h).1
    simp only [Option.getD_some]
    omega
def rMakeSB (l : List Ob) (o : Ob) : List Ob × Int × Int := if freeKB l ≥ 40 then ([], 0, 15) else (withSB l (freeKB l) o, freeKB l, 0)
set_option maxRecDepth 100000 in
set_option maxHeartbeats 4000000 in
theorem rmake_bodyB (l : List Ob) (hl : l.length ≤ 4194304) (o : Ob) : body Try.prog c10 [obsV l, o.cv] [] (fun r m => FrzV m r (.tup [obsR (rMakeSB l o).1, iRV (rMakeSB l o).2.1, iRV (rMakeSB l o).2.2])) := by
  refine loop_keep (fun k => k ≤ l.length ∧ ∀ (j : Nat) o, j < k → l[j]? = some o → o.kind ≠ 0) [0, 3] (fun k => [(7, vInt .i64 (k : Nat))]) (fun _ => [.var (o.enc.map .dat)]) (fun k => l.length - k) 0 ⟨Nat.zero_le _, fun j o h => absurd h (Nat.not_lt_zero j)⟩ ?_ (fun k hk => ?_)
  · refine View.of 1 [0] [] rfl rfl rfl rfl rfl rfl ?_ ?_
    · repeat (first | exact .nil | refine .junk ?_ | refine .eq rfl ?_)
    · exact .put (notF rfl) rfl (.eq rfl (by simp)) (.nil _)
  · obtain ⟨hkl, hkb⟩ := hk
    have hkl : k ≤ l.length := hkl
    have fin : ∀ (e : freeKB l = k), (k ≥ 40 → rMakeSB l o = ([], 0, 15)) ∧ (¬ k ≥ 40 → rMakeSB l o = (withSB l k o, (k : Int), 0)) := fun e =>
      ⟨fun h => by rw [rMakeSB, e, if_pos h], fun h => by rw [rMakeSB, e, if_neg h]⟩
    refine bB_dec (fun h => ?_) (fun h => ?_)
    · have hlt : k < l.length := by
        have h : (k : Int) < ((l.map Ob.enc).length : Int) := h
        rw [List.length_map] at h
        omega
      have hi := List.getElem?_eq_getElem hlt
      have hg : getZ (l.map Ob.enc) (k : Nat) = some (l[k].enc) := by
        rw [getZ_nat, List.getElem?_map, hi]; rfl
      have hat := freeK_atB (l := l) hlt
      generalize l[k] = x at hi hg hat
      have hg : getZ (l.map Ob.enc) (k : Nat) = some [.val (.int .i64 x.kind), .sl 1 x.data, .sl 2 x.entries, .val (.string x.target), .val (.int .i64 x.peer), x.queue, .val (.int .i64 x.proc), .val (.int .i64 x.links), .val (.int .i64 x.up)] := hg
      refine ok_some hg ?_
      refine bB_bne (fun hn => ?_) (fun h0 => ?_)
      · refine ⟨k + 1, ⟨hlt, fun j y hj hy => ?_⟩, (show l.length - (k + 1) < l.length - k by omega), View.of 1 [0] [] rfl rfl rfl rfl rfl rfl ?_ ?_⟩
        · rcases Nat.lt_or_ge j k with h5 | h5
          · exact hkb j y h5 hy
          · have : j = k := by omega
            subst this
            rw [hi] at hy
            cases hy
            exact hn
        · repeat (first | exact .nil | refine .junk ?_ | refine .put (.ren (next_i64 (by omega)).symm) ?_ | refine .eq rfl ?_)
        · exact .put (notF rfl) rfl (.eq rfl (by simp)) (.nil _)
      · obtain ⟨f1, f2⟩ := fin (hat h0 hkb)
        refine bB_dec (fun h => ?_) (fun h => ?_)
        · rw [f1 (by have h : (k : Int) ≥ 40 := h; omega)]
          exact frz3 (.one (.esl 9)) (FrzR.self rfl)
        · rw [f2 (by have h : ¬ (k : Int) ≥ 40 := h; omega)]
          refine with_okB l hl k hkl o ?_
          exact frz3 (FrzR.self rfl) (FrzR.self rfl)
    · have hge : k = l.length := by
        have h : ¬ (k : Int) < ((l.map Ob.enc).length : Int) := h
        rw [List.length_map] at h
        omega
      obtain ⟨f1, f2⟩ := fin (by rw [hge]; exact freeK_endB fun j o hj ho => hkb j o (by omega) ho)
      refine bB_dec (fun h => ?_) (fun h => ?_)
      · rw [f1 (by have h : (k : Int) ≥ 40 := h; omega)]
        exact frz3 (.one (.esl 9)) (FrzR.self rfl)
      · rw [f2 (by have h : ¬ (k : Int) ≥ 40 := h; omega)]
        refine with_okB l hl k hkl o ?_
        exact frz3 (FrzR.self rfl) (FrzR.self rfl)
set_option maxRecDepth 100000 in
theorem rmake_okB (l : List Ob) (hl : l.length ≤ 4194304) (o : Ob) {m : Mem} {K : CV → Mem → Prop} (h : K (.tup [obsR (rMakeSB l o).1, iRV (rMakeSB l o).2.1, iRV (rMakeSB l o).2.2]) m) : ACall Try.prog 10 [obsV l, o.cv] m K :=
  acall_frame (acall_body Try.func10 l10 rfl (Nat.le_of_ble_eq_true rfl) (rmake_bodyB l hl o)) (by simp [obsV, Ob.cv, CV.isD, CC.isD, RV.isD]) fun r m1 hf => ⟨_, hf, h⟩
set_option maxRecDepth 100000 in
set_option maxHeartbeats 4000000 in
theorem is_bodyB (l : List Ob) (k kind : Int) : body Try.prog c16 [obsV l, vInt .i64 k, vInt .i64 kind] [] (fun r m => r = vBool (isSB l k kind)) := by
  refine bB_dec (fun h0 => ?_) (fun h0 => ?_)
  · obtain ⟨n, rfl⟩ : ∃ n : Nat, k = n := ⟨k.toNat, by omega⟩
    refine bB_dec (fun h => ?_) (fun h => ?_)
    · have hlt : n < l.length := by
        have h : (n : Int) < ((l.map Ob.enc).length : Int) := h
        rw [List.length_map] at h
        omega
      have hi := List.getElem?_eq_getElem hlt
      have hS : isSB l (n : Int) kind = (l[n].kind != 0 && (kind == 0 || l[n].kind == kind)) := by
        simp [isSB, hlt]
      have hg : getZ (l.map Ob.enc) (n : Nat) = some (l[n].enc) := by
        rw [getZ_nat, List.getElem?_map, hi]; rfl
      generalize l[n] = x at hS hg
      have hg : getZ (l.map Ob.enc) (n : Nat) = some [.val (.int .i64 x.kind), .sl 1 x.data, .sl 2 x.entries, .val (.string x.target), .val (.int .i64 x.peer), x.queue, .val (.int .i64 x.proc), .val (.int .i64 x.links), .val (.int .i64 x.up)] := hg
      refine ok_some hg ?_
      refine bB_split (fun h1 => ?_) (fun h1 => ?_)
      · refine bB_split (fun h2 => ?_) (fun h2 => ?_)
        · show vBool _ = vBool _
          rw [hS, h1, h2]; rfl
        · refine ok_some hg ?_
          show vBool _ = vBool _
          rw [hS, h1, h2]; rfl
      · show vBool _ = vBool _
        rw [hS, h1]; rfl
    · have hge : ¬ n < l.length := by
        have h : ¬ (n : Int) < ((l.map Ob.enc).length : Int) := h
        rw [List.length_map] at h
        omega
      have hS : isSB l (n : Int) kind = false := by simp [isSB, hge]
      show vBool _ = vBool _
      rw [hS]
  · have hS : isSB l k kind = false := by
      have : decide (k ≥ 0) = false := decide_eq_false h0
      simp [isSB, this]
    show vBool _ = vBool _
    rw [hS]
set_option maxRecDepth 100000 in
theorem is_okB (l : List Ob) (k kind : Int) {m : Mem} {K : CV → Mem → Prop} (h : K (vBool (isSB l k kind)) m) : ACall Try.prog 16 [obsV l, vInt .i64 k, vInt .i64 kind] m K :=
  acall_val Try.func16 l16 rfl (Nat.le_of_ble_eq_true rfl) (is_bodyB l k kind) rfl rfl h
theorem obj_getB {l : List Ob} {k : Nat} (h : k < l.length) : getZ (l.map Ob.enc) (k : Nat) = some [.val (.int .i64 l[k].kind), .sl 1 l[k].data, .sl 2 l[k].entries, .val (.string l[k].target), .val (.int .i64 l[k].peer), l[k].queue, .val (.int .i64 l[k].proc), .val (.int .i64 l[k].links), .val (.int .i64 l[k].up)] := by
  rw [getZ_nat, List.getElem?_map, List.getElem?_eq_getElem h]; rfl
theorem is4_yesB {l : List Ob} {k c : Int} (hc : c ≠ 0) (h : isSB l k c = true) : ∃ n : Nat, k = n ∧ ∃ hn : n < l.length, l[n].kind = c := by
  unfold isSB at h
  by_cases h0 : k ≥ 0
  · obtain ⟨n, rfl⟩ : ∃ n : Nat, k = n := ⟨k.toNat, by omega⟩
    by_cases hn : n < l.length
    · refine ⟨n, rfl, hn, ?_⟩
      simp [hn, hc] at h
      exact h.2
    · simp [hn] at h
  · simp [h0] at h
theorem is4_noB {l : List Ob} {k c : Int} (hc : c ≠ 0) (h : isSB l k c = false) {n : Nat} (hk : k = n) (hn : n < l.length) : l[n].kind ≠ c := by
  subst hk
  intro hkc
  rw [isSB] at h
  simp [hn, hkc, hc] at h
theorem is0_yesB {l : List Ob} {k : Int} (h : isSB l k 0 = true) : ∃ n : Nat, k = n ∧ n < l.length := by
  unfold isSB at h
  by_cases h0 : k ≥ 0
  · obtain ⟨n, rfl⟩ : ∃ n : Nat, k = n := ⟨k.toNat, by omega⟩
    by_cases hn : n < l.length
    · exact ⟨n, rfl, hn⟩
    · simp [hn] at h
  · simp [h0] at h
/-- small, of the right shape, and nothing waits in it, nor may without room of its own -/
structure Ob.sm (o : Ob) : Prop where
  t : (∃ b : List Int, o.data = byD b) ∧ (∃ es : List (ByteArray × Int), o.entries = es.map entD)
  d : o.data.length ≤ 64
  e : o.entries.length ≤ 8
  q : o.queue = noD
/-- entries sorted by name, of objects that are there; of a directory alone -/
structure EntOK (n : Nat) (kind : Int) (entries : List (List Dt)) : Prop where
  ex : ∃ es : List NE, entries = es.map entD ∧ Srt es ∧ (∀ e, e ∈ es → 0 ≤ e.2 ∧ e.2 < (n : Int)) ∧ (kind ≠ 2 → es = [])
theorem EntOK.nil (n : Nat) (kind : Int) : EntOK n kind [] := ⟨[], rfl, List.Pairwise.nil, by simp, fun _ => rfl⟩
theorem EntOK.mono {n n' : Nat} {kind : Int} {es : List (List Dt)} (h : EntOK n kind es) (hn : n ≤ n') : EntOK n' kind es := by
  obtain ⟨l, h1, h2, h3, h4⟩ := h.ex
  exact ⟨l, h1, h2, fun e he => by have := h3 e he; omega, h4⟩
theorem entD_inj {a b : List NE} (h : a.map entD = b.map entD) : a = b := by
  have hi : ∀ x y : NE, entD x = entD y → x = y := fun x y h => by
    obtain ⟨x1, x2⟩ := x
    obtain ⟨y1, y2⟩ := y
    simp only [entD, List.cons.injEq, Dt.val.injEq, Value.string.injEq, Value.int.injEq, true_and, and_true] at h
    rw [h.1, h.2]
  induction a generalizing b with
  | nil => cases b with
    | nil => rfl
    | cons y r => simp at h
  | cons x r ih => cases b with
    | nil => simp at h
    | cons y s =>
      simp only [List.map_cons, List.cons.injEq] at h
      rw [hi x y h.1, ih h.2]
structure GoodM (l : List Ob) : Prop where
  len : l.length ≤ 40
  sm : ∀ o, o ∈ l → o.sm
  root : ∃ o, l[0]? = some o ∧ o.kind = 2
  nz : ∀ o, o ∈ l → o.kind ≠ 0
  pe : ∀ o, o ∈ l → o.peer = -1 ∨ 0 ≤ o.peer ∧ o.peer < l.length
  en : ∀ o, o ∈ l → EntOK l.length o.kind o.entries
/-- so much the document's Find and Enter ask -/
structure Ob.sn (o : Ob) : Prop where
  t : True ∧ ∃ es : List (ByteArray × Int), o.entries = es.map entD
  e : o.entries.length ≤ 8
structure GoodE (l : List Ob) : Prop where
  len : l.length ≤ 40
  sm : ∀ o, o ∈ l → o.sn
  en : ∀ o, o ∈ l → EntOK l.length o.kind o.entries
theorem GoodM.toE {l : List Ob} (h : GoodM l) : GoodE l := ⟨h.len, fun o ho => ⟨⟨trivial, (h.sm o ho).t.2⟩, (h.sm o ho).e⟩, h.en⟩
def unE : List Dt → NE
  | [.val (.string s), .val (.int .i64 n)] => (s, n)
  | _ => (⟨#[]⟩, 0)
theorem unE_map : ∀ es : List NE, (es.map entD).map unE = es
  | [] => rfl
  | e :: r => by
    show (unE (entD e)) :: ((r.map entD).map unE) = _
    rw [unE_map r]
    rfl
def Ob.tri (o : Ob) : Tri := (o.kind, o.up, o.entries.map unE)
structure GoodN (l : List Ob) : Prop extends GoodM l where
  tr : TreeT (l.map Ob.tri)
theorem tri_set {l : List Ob} {n : Nat} {o : Ob} (h : (l.map Ob.tri)[n]? = some o.tri) : (l.set n o).map Ob.tri = l.map Ob.tri := by
  rw [List.map_set]
  apply List.ext_getElem?
  intro i
  by_cases hi : n = i
  · subst hi
    rw [List.getElem?_set_self (List.getElem?_eq_some_iff.1 h).1, h]
  · rw [List.getElem?_set_ne hi]
theorem tri_at {l : List Ob} {n : Nat} (hn : n < l.length) : (l.map Ob.tri)[n]? = some l[n].tri := by rw [List.getElem?_map, List.getElem?_eq_getElem hn]; rfl
theorem GoodM.set' {l : List Ob} (h : GoodM l) {n : Nat} {o : Ob} (ho : o.sm) (hn : n < l.length) (hk : o.kind = l[n].kind) (hp : o.peer = -1 ∨ 0 ≤ o.peer ∧ o.peer < l.length) (he : EntOK l.length o.kind o.entries) : GoodM (l.set n o) := by
  refine ⟨by simpa using h.len, fun x hx => ?_, ?_, fun x hx => ?_, fun x hx => ?_, fun x hx => ?_⟩
  · rcases List.mem_or_eq_of_mem_set hx with hx | rfl
    · exact h.sm x hx
    · exact ho
  · obtain ⟨r, hr, hr2⟩ := h.root
    by_cases h0 : n = 0
    · subst h0
      refine ⟨o, by simp [hn], ?_⟩
      rw [hk]
      rw [List.getElem?_eq_getElem hn] at hr
      cases hr
      exact hr2
    · exact ⟨r, by rw [List.getElem?_set_ne (by omega)]; exact hr, hr2⟩
  · rcases List.mem_or_eq_of_mem_set hx with hx | rfl
    · exact h.nz x hx
    · rw [hk]; exact h.nz _ (List.getElem_mem hn)
  · rw [List.length_set]
    rcases List.mem_or_eq_of_mem_set hx with hx | rfl
    · exact h.pe x hx
    · exact hp
  · rw [List.length_set]
    rcases List.mem_or_eq_of_mem_set hx with hx | rfl
    · exact h.en x hx
    · exact he
theorem GoodN.set {l : List Ob} (h : GoodN l) {n : Nat} {o : Ob} (ho : o.sm) (hn : n < l.length) (hk : o.kind = l[n].kind) (hp : o.peer = l[n].peer) (he : o.entries = l[n].entries) (hu : o.up = l[n].up) : GoodN (l.set n o) :=
  ⟨h.toGoodM.set' ho hn hk (by rw [hp]; exact h.pe _ (List.getElem_mem hn)) (by rw [he, hk]; exact h.en _ (List.getElem_mem hn)), by rw [tri_set (by rw [tri_at hn]; simp only [Ob.tri, hk, he, hu])]; exact h.tr⟩
set_option maxRecDepth 100000 in
set_option maxHeartbeats 8000000 in
theorem find_bodyB (l : List Ob) (hg : GoodE l) (dir : Int) (name : ByteArray) : body Try.prog c24 [obsV l, vInt .i64 dir, vStr name] [] (fun r m => ∃ n, r = vInt .i64 n ∧ ∀ (k : Nat) (es : List NE), dir = (k : Int) → (∃ hk : k < l.length, l[k].kind = 2 ∧ l[k].entries = es.map entD) → FindOK es name n) := by
  refine is_okB l dir 2 ?_
  by_cases hI : isSB l dir 2 = true
  · rw [hI]
    obtain ⟨n, rfl, hn, hk⟩ := is4_yesB (by decide) hI
    refine ok_some (obj_getB hn) ?_
    have hsm := hg.sm _ (List.getElem_mem hn)
    have hent : ∀ (k : Nat) (es' : List NE), ((n : Nat) : Int) = (k : Int) → (∃ hk : k < l.length, l[k].kind = 2 ∧ l[k].entries = es'.map entD) → l[n].entries = es'.map entD := fun k es' e ⟨hk, _, h⟩ => by
      have : n = k := by omega
      subst this
      exact h
    generalize l[n] = o at hsm hent
    obtain ⟨kind, data, entries, target, peer, queue, proc, links, up⟩ := o
    obtain ⟨es, rfl⟩ : ∃ es : List (ByteArray × Int), entries = es.map entD := hsm.t.2
    have hlen : es.length ≤ 8 := by have := hsm.e; simpa using this
    have hent : ∀ (k : Nat) (es' : List NE), ((n : Nat) : Int) = (k : Int) → (∃ hk : k < l.length, l[k].kind = 2 ∧ l[k].entries = es'.map entD) → es' = es := fun k es' e h => (entD_inj (hent k es' e h)).symm
    refine loop_keep (fun k => k ≤ es.length ∧ ∀ (j : Nat) e, j < k → es[j]? = some e → e.1.toList ≠ name.toList) [2, 17, 18] (fun k => [(19, vInt .i64 (k : Nat))]) (fun _ => []) (fun k => es.length - k) 0 ⟨Nat.zero_le _, fun j e h => absurd h (Nat.not_lt_zero j)⟩ ?_ (fun k hk => ?_)
    · refine View.of 0 [] [] rfl rfl rfl rfl rfl rfl ?_ (.nil _)
      repeat (first | exact .nil | refine .junk ?_ | refine .eq rfl ?_)
    obtain ⟨hk, hkb⟩ := hk
    have hk : k ≤ es.length := hk
    refine bB_dec (fun h => ?_) (fun h => ?_)
    · have hlt : k < es.length := by
        have h : (k : Int) < ((es.map entD).length : Int) := h
        rw [List.length_map] at h
        omega
      refine ok_some (ent_get hlt) ?_
      refine bB_split (fun heq => ?_) (fun heq => ?_)
      · refine ⟨_, rfl, fun k' es' e h => ?_⟩
        rw [hent k' es' e h]
        exact .inl ⟨es[k], List.getElem_mem hlt, by simpa using heq, rfl⟩
      · refine ⟨k + 1, ⟨hlt, fun j e hj he => ?_⟩, (show es.length - (k + 1) < es.length - k by omega), View.of 1 [] [] rfl rfl rfl rfl rfl rfl ?_ (.nil _)⟩
        · rcases Nat.lt_or_ge j k with h3 | h3
          · exact hkb j e h3 he
          · have : j = k := by omega
            subst this
            rw [List.getElem?_eq_getElem hlt] at he
            cases he
            simpa using heq
        repeat (first | exact .nil | refine .junk ?_ | refine .put (.ren (next_i64 (by omega)).symm) ?_ | refine .eq rfl ?_)
    · have hge : ¬ k < es.length := by
        have h : ¬ (k : Int) < ((es.map entD).length : Int) := h
        rw [List.length_map] at h
        omega
      refine ⟨_, rfl, fun k' es' e h => ?_⟩
      rw [hent k' es' e h]
      refine .inr ⟨rfl, fun e he => ?_⟩
      obtain ⟨j, hj⟩ := List.getElem?_of_mem he
      exact hkb j e (by have := (List.getElem?_eq_some_iff.1 hj).1; omega) hj
  · rw [Bool.not_eq_true] at hI
    rw [hI]
    exact ⟨_, rfl, fun k es e ⟨hk, h2, _⟩ => absurd h2 (is4_noB (by decide) hI e hk)⟩
set_option maxRecDepth 100000 in
theorem find_okB (l : List Ob) (hg : GoodE l) (dir : Int) (name : ByteArray) {m : Mem} {K : CV → Mem → Prop} (h : ∀ n, (∀ (k : Nat) (es : List NE), dir = (k : Int) → (∃ hk : k < l.length, l[k].kind = 2 ∧ l[k].entries = es.map entD) → FindOK es name n) → K (vInt .i64 n) m) : ACall Try.prog 24 [obsV l, vInt .i64 dir, vStr name] m K := by
  refine acall_frame (K0 := fun r _ => ∃ n, r = vInt .i64 n ∧ ∀ (k : Nat) (es : List NE), dir = (k : Int) → (∃ hk : k < l.length, l[k].kind = 2 ∧ l[k].entries = es.map entD) → FindOK es name n) (acall_body Try.func24 l24 rfl (Nat.le_of_ble_eq_true rfl) (find_bodyB l hg dir name)) (by simp [vStr, vInt, obsV, CV.isD, CC.isD, RV.isD]) fun r m1 hr => ?_
  obtain ⟨b, rfl, hb⟩ := hr
  exact ⟨_, FrzV.self rfl, h b hb⟩
/-- the document's Enter, where it enters -/
def entS (l : List Ob) (n p : Nat) (name : ByteArray) : List Ob := match l[n]? with
  | none => l
  | some o => match (l.set n { o with entries := (insS (name, (p : Int)) (o.entries.map unE)).map entD })[p]? with
    | none => l
    | some q => (l.set n { o with entries := (insS (name, (p : Int)) (o.entries.map unE)).map entD }).set p { q with links := IntKind.i64.wrap (q.links + 1), up := if q.kind = 2 then (n : Int) else q.up }
def entK (b : Bool) (o : Ob) (y : List Ob) (name : ByteArray) : List Ob × Int :=
  if o.kind ≠ 2 then ([], 11) else if o.links = 0 then ([], 6) else if b = false then ([], 7) else if findS (o.entries.map unE) name ≥ 0 then ([], 7) else if o.entries.length ≥ 8 then ([], 15) else (y, 0)
/-- the document's Enter; b: whether it is a name -/
def rEnterS (b : Bool) (l : List Ob) (dir : Int) (name : ByteArray) (obj : Int) : List Ob × Int :=
  if isSB l dir 0 = true then (if isSB l obj 0 = true then (match l[dir.toNat]? with
    | none => ([], 6)
    | some o => entK b o (entS l dir.toNat obj.toNat name) name) else ([], 6)) else ([], 6)
theorem rEnterS_at {l : List Ob} {n p : Nat} (hI : isSB l n 0 = true) (hI2 : isSB l p 0 = true) (hn : n < l.length) (name : ByteArray) (b : Bool) : rEnterS b l n name p = entK b l[n] (entS l n p name) name := by
  rw [rEnterS, if_pos hI, if_pos hI2, Int.toNat_natCast, Int.toNat_natCast, List.getElem?_eq_getElem hn]
theorem entS_at {l : List Ob} {n p : Nat} (hn : n < l.length) {name : ByteArray} {l1 : List Ob} (h : l.set n { l[n] with entries := (insS (name, (p : Int)) (l[n].entries.map unE)).map entD } = l1) (hp : p < l1.length) :
    entS l n p name = l1.set p { l1[p] with links := IntKind.i64.wrap (l1[p].links + 1), up := if l1[p].kind = 2 then (n : Int) else l1[p].up } := by
  subst h
  rw [entS, List.getElem?_eq_getElem hn]
  simp only []
  rw [List.getElem?_eq_getElem hp]
theorem entS_good {l : List Ob} (g : GoodN l) {n p : Nat} (hn : n < l.length) (hp : p < l.length) {name : ByteArray} (hs : name.size ≤ 1) (h2 : l[n].kind = 2) (hne : ∀ e, e ∈ l[n].entries.map unE → e.1.toList ≠ name.toList)
    (h8 : l[n].entries.length < 8) (hp0 : p ≠ 0) (hf : ∀ o, o ∈ l → ∀ e, e ∈ o.entries.map unE → e.2 ≠ (p : Int)) : GoodN (entS l n p name) ∧ (entS l n p name).length = l.length := by
  obtain ⟨es, he0, hsrt, hrng, _⟩ := (g.en _ (List.getElem_mem hn)).ex
  have hes : l[n].entries.map unE = es := by rw [he0, unE_map]
  have hsm := g.sm _ (List.getElem_mem hn)
  have hE : EntOK l.length l[n].kind ((insS (name, (p : Int)) es).map entD) := by
    refine ⟨_, rfl, srt_insS hsrt (by rw [← hes]; exact hne), fun e he => ?_, fun hk => absurd h2 hk⟩
    rcases insS_mem he with he | rfl
    · exact hrng e he
    · exact ⟨by show (0 : Int) ≤ (p : Int); omega, by show (p : Int) < (l.length : Int); omega⟩
  have g1 := g.toGoodM.set' (n := n) (o := { l[n] with entries := (insS (name, (p : Int)) es).map entD }) ⟨⟨hsm.t.1, ⟨_, rfl⟩⟩, hsm.d, by
    show ((insS (name, (p : Int)) es).map entD).length ≤ 8
    rw [List.length_map, insS_len]
    rw [he0, List.length_map] at h8
    omega, hsm.q⟩ hn rfl (by have := g.pe _ (List.getElem_mem hn); exact this) hE
  have hpl : p < (l.set n { l[n] with entries := (insS (name, (p : Int)) es).map entD }).length := by simpa using hp
  have hS := entS_at (p := p) (name := name) hn (l1 := l.set n { l[n] with entries := (insS (name, (p : Int)) es).map entD }) (by rw [hes]) hpl
  have hmt : (l.set n { l[n] with entries := (insS (name, (p : Int)) es).map entD }).map Ob.tri = (l.map Ob.tri).set n (2, l[n].up, insS (name, (p : Int)) es) := by
    rw [List.map_set]
    congr 1
    show (l[n].kind, l[n].up, ((insS (name, (p : Int)) es).map entD).map unE) = _
    rw [unE_map, h2]
  generalize hl1 : l.set n { l[n] with entries := (insS (name, (p : Int)) es).map entD } = l1 at g1 hpl hS hmt
  have hl1l : l1.length = l.length := by rw [← hl1]; simp
  have hs1 := g1.sm _ (List.getElem_mem hpl)
  rw [hS]
  refine ⟨⟨g1.set' ⟨hs1.t, hs1.d, hs1.e, hs1.q⟩ hpl rfl (by have := g1.pe _ (List.getElem_mem hpl); exact this) (by have := g1.en _ (List.getElem_mem hpl); exact this), ?_⟩, by simpa using hl1l⟩
  have hq := tri_at hpl
  rw [hmt] at hq
  have := g.tr.enter (n := n) (p := p) (u := l[n].up) (es := es) (name := name) hs (by rw [tri_at hn]; simp only [Ob.tri, h2, hes]) hq hp0 (fun x hx e he => by
    obtain ⟨o, ho, rfl⟩ := List.mem_map.1 hx
    exact hf o ho e he)
  rw [List.map_set, hmt]
  exact this
theorem rEnterS_good {b : Bool} {l : List Ob} (g : GoodN l) {dir obj : Int} {name : ByteArray} (hs : name.size ≤ 1) (h0 : obj ≠ 0) (hf : ∀ o, o ∈ l → ∀ e, e ∈ o.entries.map unE → e.2 ≠ obj) {y : List Ob} (h : rEnterS b l dir name obj = (y, 0)) : GoodN y ∧ y.length = l.length := by
  by_cases hI : isSB l dir 0 = true
  · by_cases hI2 : isSB l obj 0 = true
    · obtain ⟨n, rfl, hn⟩ := is0_yesB hI
      obtain ⟨p, rfl, hp⟩ := is0_yesB hI2
      rw [rEnterS_at hI hI2 hn] at h
      unfold entK at h
      by_cases a1 : l[n].kind ≠ 2
      · rw [if_pos a1] at h; cases h
      rw [if_neg a1] at h
      by_cases a2 : l[n].links = 0
      · rw [if_pos a2] at h; cases h
      rw [if_neg a2] at h
      by_cases a3 : b = false
      · rw [if_pos a3] at h; cases h
      rw [if_neg a3] at h
      by_cases a4 : findS (l[n].entries.map unE) name ≥ 0
      · rw [if_pos a4] at h; cases h
      rw [if_neg a4] at h
      by_cases a5 : l[n].entries.length ≥ 8
      · rw [if_pos a5] at h; cases h
      rw [if_neg a5] at h
      cases h
      refine entS_good g hn hp hs (by simpa using a1) (fun e he hh => ?_) (by omega) (by omega) hf
      rcases findS_OK (l[n].entries.map unE) name with ⟨e', he', _, h4⟩ | ⟨_, h4⟩
      · obtain ⟨es, he0, _, hrng, _⟩ := (g.en _ (List.getElem_mem hn)).ex
        rw [he0, unE_map] at he'
        have := (hrng e' he').1
        omega
      · exact h4 e he hh
    · rw [rEnterS, if_pos hI, if_neg hI2] at h; cases h
  · rw [rEnterS, if_neg hI] at h; cases h
set_option maxRecDepth 100000 in
set_option maxHeartbeats 16000000 in
theorem enter_bodyB (l : List Ob) (hg : GoodE l) (dir : Int) (name : ByteArray) (nm : Bool → Prop) (b0 : Bool) (hb0 : nm b0) (hN : ∀ {m : Mem} {K : CV → Mem → Prop}, (∀ b, nm b → K (vBool b) m) → ACall Try.prog 23 [vStr name] m K) (obj : Int) : body Try.prog c11 [obsV l, vInt .i64 dir, vStr name, vInt .i64 obj] []
    (fun r m => ∃ y e, (∃ b, nm b ∧ rEnterS b l dir name obj = (y, e)) ∧ FrzV m r (twoVB y e)) := by
  refine is_okB l dir 0 ?_
  by_cases hI : isSB l dir 0 = true
  · rw [hI]
    obtain ⟨n, rfl, hn⟩ := is0_yesB hI
    refine is_okB l obj 0 ?_
    by_cases hI2 : isSB l obj 0 = true
    · rw [hI2]
      obtain ⟨p, rfl, hp⟩ := is0_yesB hI2
      have hog := obj_getB hn
      refine ok_some hog ?_
      have hsm := hg.sm _ (List.getElem_mem hn)
      have hR := rEnterS_at hI hI2 hn name
      have hS := fun l1 (h : l.set n { l[n] with entries := (insS (name, (p : Int)) (l[n].entries.map unE)).map entD } = l1) hp => entS_at (p := p) (name := name) hn h hp
      have hen := hg.en _ (List.getElem_mem hn)
      have hfo : ∀ f, (∀ (k : Nat) (es : List NE), ((n : Nat) : Int) = (k : Int) → (∃ hk : k < l.length, l[k].kind = 2 ∧ l[k].entries = es.map entD) → FindOK es name f) → l[n].kind = 2 → ∀ es : List NE, l[n].entries = es.map entD → FindOK es name f := fun f h hk es he => h n es rfl ⟨hn, hk, he⟩
      generalize l[n] = o at hsm hog hR hS hen hfo
      obtain ⟨kind, data, entries, target, peer, queue, proc, links, up⟩ := o
      obtain ⟨es, he0, hsrt, hrng, _⟩ := hen.ex
      have he0 : entries = es.map entD := he0
      subst he0
      have hR : ∀ b, rEnterS b l n name p = entK b ⟨kind, data, es.map entD, target, peer, queue, proc, links, up⟩ (entS l n p name) name := hR
      have hS : ∀ l1 : List Ob, l.set n ⟨kind, data, (insS (name, (p : Int)) ((es.map entD).map unE)).map entD, target, peer, queue, proc, links, up⟩ = l1 → ∀ hp : p < l1.length, entS l n p name = l1.set p { l1[p] with links := IntKind.i64.wrap (l1[p].links + 1), up := if l1[p].kind = 2 then (n : Int) else l1[p].up } := hS
      rw [unE_map] at hS
      have hlen : es.length ≤ 8 := by have := hsm.e; simpa using this
      refine bB_bne (fun h => ?_) (fun hk2 => ?_)
      · exact ⟨[], 11, ⟨b0, hb0, by rw [hR, entK, if_pos (show kind ≠ 2 from h)]⟩, frz2 (.one (.esl 9))⟩
      have hk2 : kind = 2 := by simpa using hk2
      refine ok_some hog ?_
      refine bB_beq (fun h => ?_) (fun hl0 => ?_)
      · exact ⟨[], 6, ⟨b0, hb0, by rw [hR, entK, if_neg (show ¬ kind ≠ 2 from fun x => x hk2), if_pos (show links = 0 from h)]⟩, frz2 (.one (.esl 9))⟩
      have hl0 : ¬ links = 0 := hl0
      refine hN fun b hb => ?_
      cases b with
      | false => exact ⟨[], 7, ⟨false, hb, by rw [hR, entK, if_neg (show ¬ kind ≠ 2 from fun x => x hk2), if_neg hl0, if_pos rfl]⟩, frz2 (.one (.esl 9))⟩
      | true =>
        refine find_okB l hg n name fun f hf => ?_
        refine bB_dec (fun h => ?_) (fun hf0 => ?_)
        · exact ⟨[], 7, ⟨true, hb, by rw [hR, entK, if_neg (show ¬ kind ≠ 2 from fun x => x hk2), if_neg hl0, if_neg (by simp), if_pos (show findS ((es.map entD).map unE) name ≥ 0 by rw [unE_map, ← findOK_uniq hsrt (hfo f hf hk2 es rfl) (findS_OK es name)]; exact h)]⟩, frz2 (.one (.esl 9))⟩
        have hf0 : ¬ f ≥ 0 := hf0
        have hfS : ¬ findS ((es.map entD).map unE) name ≥ 0 := by rw [unE_map, ← findOK_uniq hsrt (hfo f hf hk2 es rfl) (findS_OK es name)]; exact hf0
        have hne : ∀ e, e ∈ es → e.1.toList ≠ name.toList := by
          rcases hfo f hf hk2 es rfl with ⟨e, he, _, h2⟩ | ⟨_, h2⟩
          · have := (hrng e he).1
            omega
          · exact h2
        refine ok_some hog ?_
        refine bB_dec (fun h => ?_) (fun h8 => ?_)
        · exact ⟨[], 15, ⟨true, hb, by rw [hR, entK, if_neg (show ¬ kind ≠ 2 from fun x => x hk2), if_neg hl0, if_neg (by simp), if_neg hfS, if_pos (show (es.map entD).length ≥ 8 by have h : ((es.map entD).length : Int) ≥ 8 := h; omega)]⟩, frz2 (.one (.esl 9))⟩
        have h8 : es.length < 8 := by
          have h : ¬ (((es.map entD).length : Int) ≥ 8) := h8
          rw [List.length_map] at h
          omega
        have hR0 : rEnterS true l n name p = (entS l n p name, 0) := by rw [hR, entK, if_neg (show ¬ kind ≠ 2 from fun x => x hk2), if_neg hl0, if_neg (by simp), if_neg hfS, if_neg (show ¬ (es.map entD).length ≥ 8 by rw [List.length_map]; omega)]
        refine ok_some hog ?_
        refine ok_some hog ?_
        have after : ∀ acc : List (ByteArray × Int), acc = insS (name, (p : Int)) es → ∃ l1, withSB l n ⟨kind, data, acc.map entD, target, peer, queue, proc, links, up⟩ = l1 ∧ l1.length ≤ 4194304 ∧ ∃ hp1 : p < l1.length,
            rEnterS true l n name p = (withSB l1 p { l1[p] with links := IntKind.i64.wrap (l1[p].links + 1), up := if l1[p].kind = 2 then (n : Int) else l1[p].up }, 0) := by
          intro acc hacc
          have hw : withSB l n ⟨kind, data, acc.map entD, target, peer, queue, proc, links, up⟩ = l.set n ⟨kind, data, acc.map entD, target, peer, queue, proc, links, up⟩ := by
            rw [withSB, if_neg (by omega)]; simp
          have hp1 : p < (l.set n ⟨kind, data, acc.map entD, target, peer, queue, proc, links, up⟩).length := by simpa using hp
          refine ⟨_, hw, by rw [List.length_set]; have := hg.len; omega, hp1, ?_⟩
          have hwe : ∀ (l1 : List Ob) (q : Ob), p < l1.length → withSB l1 p q = l1.set p q := fun l1 q h => by rw [withSB, if_neg (by omega), Int.toNat_natCast]
          rw [hR0, hS _ (by rw [← hacc]) hp1, hwe _ _ hp1]
        refine loop_keep (fun (a : EntSt) => a.k ≤ es.length ∧ AccOK es (name, (p : Int)) a.k a.d a.acc) [0, 1, 2, 3, 10, 63, 64] (fun a => [(65, vInt .i64 (a.k : Nat)), (11, vBool a.d)])
          (fun a => match a.acc with
            | [] => [.var [.dat (.val (.int .i64 kind)), .dat (.sl 1 data), .esl, .dat (.val (.string target)), .dat (.val (.int .i64 peer)), .dat (queue), .dat (.val (.int .i64 proc)), .dat (.val (.int .i64 links)), .dat (.val (.int .i64 up))]]
            | x :: r => [.var [.dat (.val (.int .i64 kind)), .dat (.sl 1 data), .row 1 2 0 none, .dat (.val (.string target)), .dat (.val (.int .i64 peer)), .dat (queue), .dat (.val (.int .i64 proc)), .dat (.val (.int .i64 links)), .dat (.val (.int .i64 up))], .row 2 (dRows ((x :: r).map entD))])
          (fun a => es.length - a.k) ⟨0, false, []⟩ ⟨Nat.zero_le _, AccOK.init _ _⟩ ?_ (fun a ha => ?_)
        · refine View.of 1 [0] [] rfl rfl rfl rfl rfl rfl ?_ ?_
          · repeat (first | exact .nil | refine .junk ?_ | refine .eq rfl ?_)
          · exact .put (notF rfl) rfl (.eq rfl (by simp)) (.nil _)
        obtain ⟨k, d, acc⟩ := a
        obtain ⟨hJ1, hJ2⟩ := ha
        have hJ1 : k ≤ es.length := hJ1
        have hacc : AccOK es (name, (p : Int)) k d acc := hJ2
        have hJ2 : acc.length = k + d.toNat := hacc.len hJ1
        have hd1 : d.toNat ≤ 1 := by cases d <;> simp
        cases acc with
        | nil =>
          refine bB_dec (fun h => ?_) (fun h => ?_)
          · have hlt : k < es.length := by
              have h : (k : Int) < ((es.map entD).length : Int) := h
              rw [List.length_map] at h
              omega
            refine ok_some (ent_get hlt) ?_
            cases d with
            | true =>
              simp at hJ2
            | false =>
              refine bB_split (fun hgt => ?_) (fun hgt => ?_)
              · refine ⟨by simp [subL, dRows] <;> omega, ?_⟩
                refine ⟨by simp [subL, dRows] <;> omega, ?_⟩
                refine ⟨⟨k + 1, true, ([(name, (p : Int)), es[k]])⟩, ⟨hlt, hacc.ins hlt hgt⟩, (show es.length - (k + 1) < es.length - k by omega), View.of 6 [0, 5] [] rfl rfl rfl rfl rfl rfl ?_ ?_⟩
                · repeat (first | exact .nil | refine .junk ?_ | refine .put (.ren (next_i64 (by omega)).symm) ?_ | refine .eq rfl ?_)
                · exact .put (notF rfl) rfl (.eq rfl (by simp)) (.put (notF rfl) rfl (.rowDE (by simp [subL, dRows, entD])) (.nil _))
              · refine ⟨by simp [subL, dRows] <;> omega, ?_⟩
                refine ⟨⟨k + 1, false, ([es[k]])⟩, ⟨hlt, hacc.skip hlt hgt⟩, (show es.length - (k + 1) < es.length - k by omega), View.of 4 [0, 3] [] rfl rfl rfl rfl rfl rfl ?_ ?_⟩
                · repeat (first | exact .nil | refine .junk ?_ | refine .put (.ren (next_i64 (by omega)).symm) ?_ | refine .eq rfl ?_)
                · exact .put (notF rfl) rfl (.eq rfl (by simp)) (.put (notF rfl) rfl (.rowDE (by simp [subL, dRows, entD])) (.nil _))
          · have hke : k = es.length := by
              have h : ¬ (k : Int) < ((es.map entD).length : Int) := h
              rw [List.length_map] at h
              omega
            cases d with
            | true => simp at hJ2
            | false =>
              refine ⟨by simp [subL, dRows] <;> omega, ?_⟩
              obtain ⟨l1, hw, hl1, hp1, fin1⟩ := after ([(name, (p : Int))]) (by have h := hacc; rw [hke] at h; exact h.eq)
              refine acall_pre (args' := [obsV l, vInt .i64 (n : Nat), (Ob.mk kind data (([(name, (p : Int))]).map entD) target peer queue proc links up).cv]) (m' := [.dead, .dead, .dead]) (View.of 3 [0, 1, 2] [2] rfl rfl rfl rfl rfl rfl
                (.eq rfl (.eq rfl (.put (CcsVw.agg (.cons (.ren (.dat _)) (.cons (.ren (.dat _)) (.cons (.frz (frzE (Z := fun k => memN [2] k = true) rfl rfl (by simp [subL, dRows, entD]))) (.cons (.ren (.dat _)) (.cons (.ren (.dat _)) (.cons (.ren (.dat _)) (.cons (.ren (.dat _)) (.cons (.ren (.dat _)) (.cons (.ren (.dat _)) .nil)))))))))) .nil)))
                (.dead (.dead (.dead (.nil _))))) ?_
              refine with_okB l (by have := hg.len; omega) n (by omega) _ ?_
              rw [hw]
              refine ok_some (obj_getB hp1) ?_
              refine bB_beq (fun h => ?_) (fun h => ?_)
              · refine with_okB l1 hl1 p (by omega) { l1[p] with links := IntKind.i64.wrap (l1[p].links + 1), up := n } ?_
                exact ⟨_, 0, ⟨true, hb, by rw [fin1, if_pos h]⟩, frz2 (FrzR.self rfl)⟩
              · refine with_okB l1 hl1 p (by omega) { l1[p] with links := IntKind.i64.wrap (l1[p].links + 1) } ?_
                exact ⟨_, 0, ⟨true, hb, by rw [fin1, if_neg h]⟩, frz2 (FrzR.self rfl)⟩
        | cons x r =>
          have hr : r.length ≤ 9 := by simp at hJ2; omega
          refine bB_dec (fun h => ?_) (fun h => ?_)
          · have hlt : k < es.length := by
              have h : (k : Int) < ((es.map entD).length : Int) := h
              rw [List.length_map] at h
              omega
            refine ok_some (ent_get hlt) ?_
            cases d with
            | true =>
              refine ⟨by simp [subL, dRows] <;> omega, ?_⟩
              refine ⟨⟨k + 1, true, ((x :: r) ++ [es[k]])⟩, ⟨hlt, hacc.more hlt⟩, (show es.length - (k + 1) < es.length - k by omega), View.of 5 [0, 4] [] rfl rfl rfl rfl rfl rfl ?_ ?_⟩
              · repeat (first | exact .nil | refine .junk ?_ | refine .put (.ren (next_i64 (by omega)).symm) ?_ | refine .eq rfl ?_)
              · exact .put (notF rfl) rfl (.eq rfl (by simp)) (.put (notF rfl) rfl (.rowDE (by simp [subL, dRows, entD])) (.nil _))
            | false =>
              refine bB_split (fun hgt => ?_) (fun hgt => ?_)
              · refine ⟨by simp [subL, dRows] <;> omega, ?_⟩
                refine ⟨by simp [subL, dRows] <;> omega, ?_⟩
                refine ⟨⟨k + 1, true, ((x :: r) ++ [(name, (p : Int)), es[k]])⟩, ⟨hlt, hacc.ins hlt hgt⟩, (show es.length - (k + 1) < es.length - k by omega), View.of 7 [0, 6] [] rfl rfl rfl rfl rfl rfl ?_ ?_⟩
                · repeat (first | exact .nil | refine .junk ?_ | refine .put (.ren (next_i64 (by omega)).symm) ?_ | refine .eq rfl ?_)
                · exact .put (notF rfl) rfl (.eq rfl (by simp)) (.put (notF rfl) rfl (.rowDE (by simp [subL, dRows, entD])) (.nil _))
              · refine ⟨by simp [subL, dRows] <;> omega, ?_⟩
                refine ⟨⟨k + 1, false, ((x :: r) ++ [es[k]])⟩, ⟨hlt, hacc.skip hlt hgt⟩, (show es.length - (k + 1) < es.length - k by omega), View.of 5 [0, 4] [] rfl rfl rfl rfl rfl rfl ?_ ?_⟩
                · repeat (first | exact .nil | refine .junk ?_ | refine .put (.ren (next_i64 (by omega)).symm) ?_ | refine .eq rfl ?_)
                · exact .put (notF rfl) rfl (.eq rfl (by simp)) (.put (notF rfl) rfl (.rowDE (by simp [subL, dRows, entD])) (.nil _))
          · have hke : k = es.length := by
              have h : ¬ (k : Int) < ((es.map entD).length : Int) := h
              rw [List.length_map] at h
              omega
            cases d with
            | true =>
              obtain ⟨l1, hw, hl1, hp1, fin1⟩ := after ((x :: r)) (by have h := hacc; rw [hke] at h; have := h.eq; simpa using this)
              refine acall_pre (args' := [obsV l, vInt .i64 (n : Nat), (Ob.mk kind data (((x :: r)).map entD) target peer queue proc links up).cv]) (m' := [.dead, .dead]) (View.of 2 [0, 1] [1] rfl rfl rfl rfl rfl rfl
                (.eq rfl (.eq rfl (.put (CcsVw.agg (.cons (.ren (.dat _)) (.cons (.ren (.dat _)) (.cons (.frz (frzE (Z := fun k => memN [1] k = true) rfl rfl (by simp [subL, dRows, entD]))) (.cons (.ren (.dat _)) (.cons (.ren (.dat _)) (.cons (.ren (.dat _)) (.cons (.ren (.dat _)) (.cons (.ren (.dat _)) (.cons (.ren (.dat _)) .nil)))))))))) .nil)))
                (.dead (.dead (.nil _)))) ?_
              refine with_okB l (by have := hg.len; omega) n (by omega) _ ?_
              rw [hw]
              refine ok_some (obj_getB hp1) ?_
              refine bB_beq (fun h => ?_) (fun h => ?_)
              · refine with_okB l1 hl1 p (by omega) { l1[p] with links := IntKind.i64.wrap (l1[p].links + 1), up := n } ?_
                exact ⟨_, 0, ⟨true, hb, by rw [fin1, if_pos h]⟩, frz2 (FrzR.self rfl)⟩
              · refine with_okB l1 hl1 p (by omega) { l1[p] with links := IntKind.i64.wrap (l1[p].links + 1) } ?_
                exact ⟨_, 0, ⟨true, hb, by rw [fin1, if_neg h]⟩, frz2 (FrzR.self rfl)⟩
            | false =>
              refine ⟨by simp [subL, dRows] <;> omega, ?_⟩
              obtain ⟨l1, hw, hl1, hp1, fin1⟩ := after (((x :: r) ++ [(name, (p : Int))])) (by have h := hacc; rw [hke] at h; exact h.eq)
              refine acall_pre (args' := [obsV l, vInt .i64 (n : Nat), (Ob.mk kind data ((((x :: r) ++ [(name, (p : Int))])).map entD) target peer queue proc links up).cv]) (m' := [.dead, .dead, .dead, .dead]) (View.of 4 [0, 1, 2, 3] [3] rfl rfl rfl rfl rfl rfl
                (.eq rfl (.eq rfl (.put (CcsVw.agg (.cons (.ren (.dat _)) (.cons (.ren (.dat _)) (.cons (.frz (frzE (Z := fun k => memN [3] k = true) rfl rfl (by simp [subL, dRows, entD]))) (.cons (.ren (.dat _)) (.cons (.ren (.dat _)) (.cons (.ren (.dat _)) (.cons (.ren (.dat _)) (.cons (.ren (.dat _)) (.cons (.ren (.dat _)) .nil)))))))))) .nil)))
                (.dead (.dead (.dead (.dead (.nil _)))))) ?_
              refine with_okB l (by have := hg.len; omega) n (by omega) _ ?_
              rw [hw]
              refine ok_some (obj_getB hp1) ?_
              refine bB_beq (fun h => ?_) (fun h => ?_)
              · refine with_okB l1 hl1 p (by omega) { l1[p] with links := IntKind.i64.wrap (l1[p].links + 1), up := n } ?_
                exact ⟨_, 0, ⟨true, hb, by rw [fin1, if_pos h]⟩, frz2 (FrzR.self rfl)⟩
              · refine with_okB l1 hl1 p (by omega) { l1[p] with links := IntKind.i64.wrap (l1[p].links + 1) } ?_
                exact ⟨_, 0, ⟨true, hb, by rw [fin1, if_neg h]⟩, frz2 (FrzR.self rfl)⟩
    · rw [Bool.not_eq_true] at hI2
      rw [hI2]
      exact ⟨[], 6, ⟨b0, hb0, by rw [rEnterS, if_pos hI, if_neg (by rw [hI2]; simp)]⟩, frz2 (.one (.esl 9))⟩
  · rw [Bool.not_eq_true] at hI
    rw [hI]
    exact ⟨[], 6, ⟨b0, hb0, by rw [rEnterS, if_neg (by rw [hI]; simp)]⟩, frz2 (.one (.esl 9))⟩
set_option maxRecDepth 100000 in
theorem enter_okE (l : List Ob) (hg : GoodE l) (dir : Int) (name : ByteArray) (b : Bool) (hN : ∀ {m : Mem} {K : CV → Mem → Prop}, K (vBool b) m → ACall Try.prog 23 [vStr name] m K) (obj : Int) {m : Mem} {K : CV → Mem → Prop} (h : K (twoVB (rEnterS b l dir name obj).1 (rEnterS b l dir name obj).2) m) :
    ACall Try.prog 11 [obsV l, vInt .i64 dir, vStr name, vInt .i64 obj] m K := by
  refine acall_frame (K0 := fun r m => ∃ y e, (∃ b', b' = b ∧ rEnterS b' l dir name obj = (y, e)) ∧ FrzV m r (twoVB y e)) (acall_body Try.func11 l11 rfl (Nat.le_of_ble_eq_true rfl) (enter_bodyB l hg dir name (fun b' => b' = b) b rfl (fun h => hN (h b rfl)) obj)) (by simp [vStr, vInt, obsV, CV.isD, CC.isD, RV.isD]) fun r m1 hr => ?_
  obtain ⟨y, e, ⟨_, rfl, hy⟩, hf⟩ := hr
  rw [hy] at h
  exact ⟨_, hf, h⟩
theorem enter_okX (l : List Ob) (hg : GoodM l) (dir : Int) (name : ByteArray) (b : Bool) (hN : ∀ {m : Mem} {K : CV → Mem → Prop}, K (vBool b) m → ACall Try.prog 23 [vStr name] m K) (obj : Int) {m : Mem} {K : CV → Mem → Prop} (h : K (twoVB (rEnterS b l dir name obj).1 (rEnterS b l dir name obj).2) m) :
    ACall Try.prog 11 [obsV l, vInt .i64 dir, vStr name, vInt .i64 obj] m K :=
  enter_okE l hg.toE dir name b hN obj h
set_option maxRecDepth 100000 in
theorem enter_okB (l : List Ob) (hg : GoodN l) (dir : Int) (name : ByteArray) (hs : name.size ≤ 1) (obj : Int) (h0 : obj ≠ 0) (hfr : ∀ o, o ∈ l → ∀ e, e ∈ o.entries.map unE → e.2 ≠ obj) {m : Mem} {K : CV → Mem → Prop} (h : ∀ y e, (e = 0 → GoodN y ∧ y.length = l.length) → K (twoVB y e) m) :
    ACall Try.prog 11 [obsV l, vInt .i64 dir, vStr name, vInt .i64 obj] m K := by
  refine acall_frame (K0 := fun r m => ∃ y e, (∃ b', True ∧ rEnterS b' l dir name obj = (y, e)) ∧ FrzV m r (twoVB y e)) (acall_body Try.func11 l11 rfl (Nat.le_of_ble_eq_true rfl) (enter_bodyB l hg.toGoodM.toE dir name (fun _ => True) true trivial (fun h => name_ok name (by omega) fun b => h b trivial) obj)) (by simp [vStr, vInt, obsV, CV.isD, CC.isD, RV.isD]) fun r m1 hr => ?_
  obtain ⟨y, e, ⟨b', _, hy⟩, hf⟩ := hr
  exact ⟨_, hf, h y e fun he => rEnterS_good hg hs h0 hfr (by rw [hy, he])⟩


end Go.Proofs.Ytbemknkbegkflaa
