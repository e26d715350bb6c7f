import Derived.Test.YtbemknkbegkflaaAmZ3
import Derived.Test.YtbemknkbegkflaaAmY
set_option linter.unusedVariables false
set_option linter.unusedSimpArgs false
set_option linter.unnecessarySimpa false
/-! A cell of a block that holds an empty slice of no room: it is a row of its own. -/
namespace Go.AM
section
variable {P : Program}
theorem View.eslc {n0 : Nat} {e : List CV} {m : Mem} (id j esz n : Nat) {cs : List CC} (hn : m.length = n) (hb : nth m id = some (.var cs)) (hj : nth cs j = some .esl) (h0 : Nat.ble n0 n = true) :
    View n0 ⟨e, m⟩ ⟨e, app2 (setN m id (.var (setN cs j (.row n esz 0 none)))) [.row esz []]⟩ := by
  subst hn
  have h0 := Nat.le_of_ble_eq_true h0
  rw [nth_eq] at hb hj
  rw [setN_eq, setN_eq, app2_eq]
  have hid : id < m.length := (List.getElem?_eq_some_iff.1 hb).1
  have hjl : j < cs.length := (List.getElem?_eq_some_iff.1 hj).1
  refine ⟨by simp; omega, rfl, fun ρ w hM => ?_⟩
  have hn : ρ.n = m.length := hM.n
  let ρ' : Rho := { n := m.length + 1, loc := fun k => if k.id = m.length then ⟨0, 0, 0, 0⟩ else ρ.loc k, S := ρ.S }
  have hloc : ∀ k : Key, k.id < ρ.n → ρ'.loc k = ρ.loc k := fun k hk => by simp only [ρ']; rw [if_neg (by omega)]
  have g : Goes ρ w ρ' w := ⟨by show ρ.n ≤ m.length + 1; omega, hloc, fun _ h => h, fun _ _ => rfl⟩
  have get : ∀ (k : Nat) b, (m.set id (.var (cs.set j (.row m.length esz 0 none))) ++ [Bk.row esz []])[k]? = some b → (k < m.length ∧ k ≠ id ∧ m[k]? = some b) ∨ (k = id ∧ b = .var (cs.set j (.row m.length esz 0 none))) ∨ (k = m.length ∧ b = .row esz []) := by
    intro k b hk
    rcases Nat.lt_or_ge k m.length with h | h
    · rw [List.getElem?_append_left (by simpa using h)] at hk
      by_cases hki : k = id
      · subst hki
        rw [List.getElem?_set_self hid] at hk
        cases hk
        exact .inr (.inl ⟨rfl, rfl⟩)
      · rw [List.getElem?_set_ne (fun e => hki e.symm)] at hk
        exact .inl ⟨h, hki, hk⟩
    · have hlt := (List.getElem?_eq_some_iff.1 hk).1
      simp at hlt
      have : k = m.length := by omega
      subst this
      rw [List.getElem?_append_right (by simp)] at hk
      simp at hk
      exact .inr (.inr ⟨rfl, hk.symm⟩)
  have hlive : ∀ k, Live ρ' (m.set id (.var (cs.set j (.row m.length esz 0 none))) ++ [.row esz []]) k → Live ρ m k := by
    intro k hk
    cases k with
    | root i =>
      obtain ⟨bk, hbk, hnd, hcap⟩ := hk
      rcases get i bk hbk with ⟨h1, h2, h3⟩ | ⟨rfl, rfl⟩ | ⟨rfl, rfl⟩
      · rw [hloc (.root i) (by simp only [Key.id]; omega)] at hcap
        exact ⟨bk, h3, hnd, hcap⟩
      · exact ⟨_, hb, by simp, by simp⟩
      · have := hcap ⟨_, _, rfl⟩
        simp [ρ', Key.id] at this
    | sub i x y =>
      obtain ⟨⟨s, el, es, rows, c2, hbk, hi, hj'⟩, hcap⟩ := hk
      rcases get i _ hbk with ⟨h1, h2, h3⟩ | ⟨rfl, h⟩ | ⟨rfl, h⟩
      · rw [hloc (.sub i x y) (by simp only [Key.id]; omega)] at hcap
        exact ⟨⟨s, el, es, rows, c2, h3, hi, hj'⟩, hcap⟩
      · cases h
      · cases h
        simp at hi
  have hloc' : ∀ k, Live ρ m k → ρ'.loc k = ρ.loc k := fun k hk => hloc k (by rw [hn]; exact hk.id_lt)
  refine ⟨ρ', ⟨by simp [ρ'], hM.S, fun k hk => ?_, fun k k' hk hk' hee => ?_, fun i b hbi => ?_, fun i x y s el ho hcap => ?_⟩, ⟨fun i hi => hloc (.root i) (by simp only [Key.id]; omega), fun _ h => h, fun _ h => .inl h, fun k hk => ⟨k, hlive k hk, (by rw [hloc' k (hlive k hk)])⟩⟩, fun i c' hi => ⟨c', hi, fun v hd => DenV.goes g hd⟩⟩
  · rw [hloc' k (hlive k hk)]
    exact hM.live k (hlive k hk)
  · rw [hloc' k (hlive k hk), hloc' k' (hlive k' hk')] at hee
    exact hM.inj k k' (hlive k hk) (hlive k' hk') hee
  · rcases get i b hbi with ⟨h1, h2, h3⟩ | ⟨rfl, rfl⟩ | ⟨rfl, rfl⟩
    · exact (hM.bk i b h3).goes g (by omega) fun _ _ => rfl
    · obtain ⟨cur, hcur, hc⟩ := hM.bk i _ hb
      rw [show BkRel ρ' w i (.var (cs.set j (.row m.length esz 0 none))) = (∃ cur, Cur True w (ρ'.loc (.root i)).b cur ∧ ∀ (j' : Nat) c, (cs.set j (.row m.length esz 0 none))[j']? = some c → ∃ u, cur[(ρ'.loc (.root i)).base + j']? = some u ∧ DenC ρ' w .none c u) from rfl, hloc (.root i) (by simp only [Key.id]; omega)]
      refine ⟨cur, hcur, fun j' c hj' => ?_⟩
      rw [List.getElem?_set] at hj'
      split at hj'
      · rename_i hjj
        subst hjj
        cases hj'
        obtain ⟨u, hu, hd⟩ := hc j _ hj
        obtain ⟨a, rfl⟩ := hd
        exact ⟨_, hu, by simp [DenC, ρ', Key.id]⟩
      · obtain ⟨u, hu, hd⟩ := hc j' c hj'
        exact ⟨u, hu, DenC.goes g (by simp) hd⟩
    · simp [BkRel, ρ', Key.id]
  · have hk : Live ρ m (.sub i x y) := hlive (.sub i x y) ⟨⟨_, _, ho⟩, hcap⟩
    have hidl := hk.id_lt
    simp only [Key.id] at hidl
    rw [hloc' _ hk] at hcap ⊢
    obtain ⟨es, rows, c2, hbk, hi, hj'⟩ := ho
    rcases get i _ hbk with ⟨h1, h2, h3⟩ | ⟨rfl, h⟩ | ⟨rfl, h⟩
    · obtain ⟨cur, hc, q1, q2, q3⟩ := hM.own i x y s el ⟨es, rows, c2, h3, hi, hj'⟩ hcap
      exact ⟨cur, hc, q1, q2, q3⟩
    · cases h
    · cases h
      simp at hi
end
end Go.AM
