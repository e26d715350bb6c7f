import Derived.Test.YtbemknkbegkflaaAmM
set_option linter.unnecessarySimpa false
set_option linter.unusedVariables false
set_option linter.unusedSimpArgs false
/-! A region of which the order is open: every order comes to the same. -/
namespace Go.AM
section
variable {P : Program}

def Edge (aft : List (List Nat)) (i j : Nat) : Prop := ∃ l, aft[i]? = some l ∧ j ∈ l
def Down (aft : List (List Nat)) (L : Nat → Prop) : Prop := ∀ i j, Edge aft i j → L i → L j
/-- what is surely done when i may be -/
def Anc (aft : List (List Nat)) (i j : Nat) : Prop := ∀ L, Down aft L → (∀ k, Edge aft i k → L k) → L j

theorem testBit_fold {acc : List Nat} {t : Nat} : ∀ {l : List Nat}, Nat.testBit (maskOf acc l) t = true →
    ∃ j, j ∈ l ∧ (t = j ∨ Nat.testBit ((nth acc j).getD 0) t = true)
  | [], h => by simp [maskOf] at h
  | j :: r, h => by
    simp only [maskOf, List.foldr_cons] at h
    have h1 : ∀ a b : Nat, Nat.testBit (Nat.lor a b) t = (Nat.testBit a t || Nat.testBit b t) := fun a b => Nat.testBit_or a b t
    rw [h1, h1] at h
    simp only [Bool.or_eq_true] at h
    rcases h with h | h | h
    · obtain ⟨k, hk, hr⟩ := testBit_fold (l := r) h
      exact ⟨k, by simp [hk], hr⟩
    · refine ⟨j, by simp, .inl ?_⟩
      have : Nat.shiftLeft 1 j = 2 ^ j := by
        show 1 <<< j = 2 ^ j
        rw [Nat.shiftLeft_eq]; simp
      rw [this, Nat.testBit_two_pow] at h
      simpa using (of_decide_eq_true h).symm
    · exact ⟨j, by simp, .inr h⟩

def Fine (aft : List (List Nat)) (acc : List Nat) : Prop := ∀ (i j : Nat), Nat.testBit ((nth acc i).getD 0) j = true → Anc aft i j
theorem masks1_fine {aft : List (List Nat)} {acc : List Nat} (h : Fine aft acc) : Fine aft (masks1 aft acc) := by
  intro i j hb
  rw [nth_eq, masks1, List.getElem?_map] at hb
  cases hl : aft[i]? with
  | none => rw [hl] at hb; simp at hb
  | some l =>
    rw [hl] at hb
    simp only [Option.map_some, Option.getD_some] at hb
    obtain ⟨k, hk, hr⟩ := testBit_fold hb
    have he : Edge aft i k := ⟨l, hl, hk⟩
    rcases hr with rfl | hr
    · exact fun L _ hL => hL _ he
    · exact fun L hd hL => h k j hr L hd fun k' hk' => hd _ _ hk' (hL _ he)
theorem masksN_fine {aft : List (List Nat)} : ∀ (k : Nat) {acc : List Nat}, Fine aft acc → Fine aft (masksN aft k acc)
  | 0, _, h => h
  | k + 1, acc, h => by
    simp only [masksN]
    split
    · exact h
    · exact masksN_fine k (masks1_fine h)
theorem masks_anc {n : Nat} {aft : List (List Nat)} : Fine aft (masks n aft) := masksN_fine n fun i j hb => by simp [nth] at hb

theorem ordGo_spec {aft : List (List Nat)} {n : Nat} {L : Nat → Prop} (hno : ∀ i, i < n → ¬ L i → ∃ j, Edge aft i j ∧ ¬ L j) :
    ∀ (l bf : List Nat), ordGo aft n bf l = true → (∀ i, i ∈ bf → L i) → ∀ i, i < n → L i
  | [], bf, h, hb, i, hi => by
    simp only [ordGo, List.all_eq_true] at h
    exact hb i (by simpa using h i (by simpa using hi))
  | x :: r, bf, h, hb, i, hi => by
    simp only [ordGo, Bool.and_eq_true, List.all_eq_true] at h
    refine ordGo_spec hno r (x :: bf) h.2 (fun k hk => ?_) i hi
    rcases List.mem_cons.1 hk with e | hk
    · rw [e]
      by_cases h1 : L x
      · exact h1
      · obtain ⟨j, ⟨l, hl, hj⟩, hnj⟩ := hno x (by have := h.1.1; rwa [Nat.blt_eq] at this) h1
        refine absurd (hb j ?_) hnj
        have := h.1.2 j (by rw [nth_eq, hl]; exact hj)
        simpa using this
    · exact hb k hk

variable {los : List LO} {ms : List Nat} {n : Nat} {e0 : List CV} {aft : List (List Nat)}

/-- the slots, when just these are done -/
structure EnvIs (los : List LO) (e0 : List CV) (S : Nat → Prop) (val : Nat → CV) (e : List CV) : Prop where
  len : e.length = e0.length
  on : ∀ t k, S k → writes los t k = true → t < e0.length → e[t]? = some (val k)
  off : ∀ t, (∀ k, S k → writes los t k = false) → e[t]? = e0[t]?

theorem writes_iff {t k : Nat} : writes los t k = true ↔ ∃ lo, nth los k = some lo ∧ lo.dst = some t := by
  unfold writes
  cases nth los k with
  | none => simp
  | some lo =>
    cases hd : lo.dst with
    | none => simp [hd]
    | some d => simp [hd]

theorem EnvIs.step {S : Nat → Prop} {val : Nat → CV} {e : List CV} (h : EnvIs los e0 S val e) {i : Nat} {lo : LO} (hi : nth los i = some lo) (hu : ∀ t k, S k → lo.dst = some t → writes los t k = false)
    {v : CV} {val' : Nat → CV} (hv : val' i = v) (hval : ∀ k, S k → val' k = val k) {S' : Nat → Prop} (hS : ∀ k, S' k ↔ S k ∨ k = i) : EnvIs los e0 S' val' (putE lo.dst v e) := by
  have hw : ∀ t, writes los t i = true ↔ lo.dst = some t := fun t => by rw [writes_iff]; simp [hi]
  refine ⟨?_, fun t k hk hwr hlt => ?_, fun t hall => ?_⟩
  · unfold putE; split <;> simp [h.len]
  · rcases (hS k).1 hk with hk | rfl
    · have hne : lo.dst ≠ some t := fun hd => by rw [hu t k hk hd] at hwr; cases hwr
      rw [hval k hk, ← h.on t k hk hwr hlt]
      unfold putE
      cases hd : lo.dst with
      | none => rfl
      | some d =>
        simp only
        rw [List.getElem?_set_ne]
        rintro rfl
        exact hne hd
    · have hd := (hw t).1 hwr
      rw [hd, hv]
      simp only [putE]
      rw [List.getElem?_set_self (by rw [h.len]; exact hlt)]
  · have hne : lo.dst ≠ some t := fun hd => by
      have := hall i ((hS i).2 (.inr rfl))
      rw [(hw t).2 hd] at this
      cases this
    rw [← h.off t fun k hk => hall k ((hS k).2 (.inl hk))]
    unfold putE
    cases hd : lo.dst with
    | none => rfl
    | some d =>
      simp only
      rw [List.getElem?_set_ne]
      rintro rfl
      exact hne hd

theorem EnvIs.cong {S S' : Nat → Prop} {val val' : Nat → CV} {e : List CV} (h : EnvIs los e0 S val e) (hval : ∀ k, S k → val' k = val k) (hS : ∀ k, S' k ↔ S k) : EnvIs los e0 S' val' e :=
  ⟨h.len, fun t k hk hw hl => by rw [hval k ((hS k).1 hk)]; exact h.on t k ((hS k).1 hk) hw hl, fun t hall => h.off t fun k hk => hall k ((hS k).2 hk)⟩

theorem EnvIs.ext {S : Nat → Prop} {val : Nat → CV} {e e' : List CV} (h : EnvIs los e0 S val e) (h' : EnvIs los e0 S val e') : e = e' := by
  refine List.ext_getElem? fun t => ?_
  by_cases hex : ∃ k, S k ∧ writes los t k = true
  · obtain ⟨k, hk, hw⟩ := hex
    rcases Nat.lt_or_ge t e0.length with hlt | hge
    · rw [h.on t k hk hw hlt, h'.on t k hk hw hlt]
    · rw [List.getElem?_eq_none (by rw [h.len]; exact hge), List.getElem?_eq_none (by rw [h'.len]; exact hge)]
  · have : ∀ k, S k → writes los t k = false := fun k hk => by
      cases hw : writes los t k with
      | false => rfl
      | true => exact absurd ⟨k, hk, hw⟩ hex
    rw [h.off t this, h'.off t this]

/-- how the slots were read when j was reasoned -/
def Agree (los : List LO) (ms : List Nat) (e0 : List CV) (bf : List Nat) (val : Nat → CV) (j : Nat) (e1 : List CV) : Prop :=
  e1.length = e0.length ∧ ∀ t, t ∈ looksI los j → t < e0.length →
    (∃ k, k ∈ bf ∧ writes los t k = true ∧ hasM ms j k = true ∧ e1[t]? = some (val k)) ∨
    ((∀ k, k ∈ bf → writes los t k = true → k = j ∨ hasM ms k j = true) ∧ e1[t]? = e0[t]?)

theorem Agree.now {bf : List Nat} {val : Nat → CV} {j : Nat} {e1 env : List CV} {L : Nat → Prop} (h : Agree los ms e0 bf val j e1) (hE : EnvIs los e0 L val env)
    (hms : ∀ i j, hasM ms i j = true → Anc aft i j) (hd : Down aft L) (hsub : ∀ i, L i → i ∈ bf) (hj : ¬ L j) (hr : ∀ k, Edge aft j k → L k) :
    ∀ t, t ∈ looksI los j → getE e1 t = getE env t := by
  intro t ht
  rw [getE_eq, getE_eq]
  rcases Nat.lt_or_ge t e0.length with hlt | hge
  · rcases h.2 t ht hlt with ⟨k, hk, hw, hm, he⟩ | ⟨hall, he⟩
    · rw [he, hE.on t k (hms _ _ hm L hd hr) hw hlt]
    · rw [he, hE.off t fun k hk => ?_]
      cases hw : writes los t k with
      | false => rfl
      | true =>
        rcases hall k (hsub k hk) hw with rfl | hm
        · exact absurd hk hj
        · exact absurd (hms _ _ hm L hd fun k' hk' => hd _ _ hk' hk) hj
  · rw [List.getElem?_eq_none (by rw [h.1]; exact hge), List.getElem?_eq_none (by rw [hE.len]; exact hge)]

/-- how far one has reasoned ahead, and what is done -/
structure DS (P : Program) (los : List LO) (ms : List Nat) (n : Nat) (aft : List (List Nat)) (e0 : List CV) (K : List CV → Mem → Prop) (L : Nat → Prop) (bf : List Nat) (c : Bool)
    (R : Sch) (val : Nat → CV) (pend : List (Nat × LO × List CV × CV)) (e env : List CV) (m : Mem) : Prop where
  go : schedGo los ms n c bf R = true
  cps : dops P los R pend K e m
  eabs : EnvIs los e0 (· ∈ bf) val e
  eact : EnvIs los e0 L val env
  sub : ∀ i, L i → i ∈ bf
  down : Down aft L
  uniq : ∀ t j k, j ∈ bf → k ∈ bf → writes los t j = true → writes los t k = true → j = k
  pendOk : ∀ j, j ∈ bf → ¬ L j → ∃ lo e1, nth los j = some lo ∧ quietI lo.ins = true ∧ findP j pend = some (lo, e1, val j) ∧ QV P lo e1 m (val j) ∧ Agree los ms e0 bf val j e1

theorem baseB_spec {bf : List Nat} {i : Nat} (h : baseB los ms n bf i = true) : i < n ∧ i ∉ bf ∧
    (∀ t, t ∈ looksI los i → ∀ j, j ∈ bf → writes los t j = true → hasM ms i j = true) ∧
    (∀ t, dstI los i = some t → ∀ j, j ∈ bf → writes los t j = false ∧ (t ∈ looksI los j → hasM ms i j = true)) := by
  simp only [baseB, Bool.and_eq_true] at h
  obtain ⟨⟨⟨h1, h2⟩, h4⟩, h5⟩ := h
  refine ⟨by rwa [Nat.blt_eq] at h1, by simpa using h2, ?_, ?_⟩
  · intro t ht j hj hw
    have := List.all_eq_true.1 (List.all_eq_true.1 h4 t ht) j hj
    simpa [hw] using this
  · intro t ht j hj
    rw [ht] at h5
    have := List.all_eq_true.1 h5 j hj
    simp only [Bool.and_eq_true, Bool.not_eq_true', Bool.or_eq_true] at this
    refine ⟨this.1, fun hl => ?_⟩
    rcases this.2 with h | h
    · simp [hl] at h
    · exact h
theorem covB_spec {bf hd : List Nat} (h : covB ms n bf hd = true) {i : Nat} (hi : i < n) (hb : i ∉ bf) : i ∈ hd ∨ ∃ f, f ∈ hd ∧ hasM ms i f = true := by
  have := List.all_eq_true.1 h i (by simpa using hi)
  simp only [Bool.or_eq_true, List.any_eq_true] at this
  rcases this with h | h | ⟨f, h1, h2⟩
  · exact absurd (by simpa using h) hb
  · exact .inl (by simpa using h)
  · exact .inr ⟨f, h1, h2⟩
/-- where effects are next: none of them is done -/
theorem schedGo_hd : ∀ {R : Sch} {bf : List Nat}, schedGo los ms n false bf R = true → (∃ f, f ∈ R.hd) ∧ ∀ f, f ∈ R.hd → f < n ∧ f ∉ bf
  | .nil, bf, h => by simp [schedGo] at h
  | .cons i none r, bf, h => by simp [schedGo] at h
  | .cons i (some l) r, bf, h => by
    simp only [schedGo, Bool.and_eq_true] at h
    obtain ⟨h1, h2, _⟩ := baseB_spec h.2.1
    exact ⟨⟨i, by simp [Sch.hd]⟩, fun f hf => by simp [Sch.hd] at hf; subst hf; exact ⟨h1, h2⟩⟩
  | .alt x y, bf, h => by
    simp only [schedGo, Bool.and_eq_true] at h
    obtain ⟨⟨f, hf⟩, hx⟩ := schedGo_hd h.2.1
    obtain ⟨_, hy⟩ := schedGo_hd h.2.2
    exact ⟨⟨f, by simp [Sch.hd, hf]⟩, fun f hf => by
      simp only [Sch.hd, List.mem_append] at hf
      exact hf.elim (hx f) (hy f)⟩

/-- one thinks ahead -/
theorem DS.ahead {K : List CV → Mem → Prop} {L : Nat → Prop} {bf : List Nat} {c : Bool} {q : Nat} {R : Sch} {val : Nat → CV} {pend : List (Nat × LO × List CV × CV)} {e env : List CV} {m : Mem}
    (h : DS P los ms n aft e0 K L bf c (.cons q none R) val pend e env m) : ∃ val' pend' e', DS P los ms n aft e0 K L (q :: bf) true R val' pend' e' env m := by
  have hgo := h.go
  simp only [schedGo, Bool.and_eq_true] at hgo
  obtain ⟨_, hbase, g6, g8⟩ := hgo
  obtain ⟨g1, g2, g4, g5⟩ := baseB_spec hbase
  have hc := h.cps
  simp only [dops_cons, dopsF] at hc
  obtain ⟨lo, hlo, hc⟩ := ok_iff.1 hc
  have hq : quietI lo.ins = true := by simpa [quietAt, hlo] using g6
  obtain ⟨v, hc, hqv⟩ := vstep_quiet hq hc
  have hc := put_iff.1 hc
  have hdst : dstI los q = lo.dst := by simp [dstI, hlo]
  let val' : Nat → CV := fun k => if k = q then v else val k
  have hval : ∀ k, k ∈ bf → val' k = val k := fun k hk => if_neg fun (e : k = q) => g2 (e ▸ hk)
  have hwr : ∀ t k, k ∈ bf → lo.dst = some t → writes los t k = false := fun t k hk hd => (g5 t (by rw [hdst]; exact hd) k hk).1
  have hwq : ∀ t, writes los t q = true → lo.dst = some t := fun t hw => by
    obtain ⟨lo', h1, h2⟩ := writes_iff.1 hw
    rw [hlo] at h1
    cases h1
    exact h2
  refine ⟨val', _, _, g8, hc, h.eabs.step hlo hwr (by simp [val']) hval (by simp [or_comm]), h.eact.cong (fun k hk => hval k (h.sub k hk)) (fun _ => Iff.rfl), fun i hi => by simp [h.sub i hi], h.down, ?_, ?_⟩
  · intro t j k hj hk hwj hwk
    rcases List.mem_cons.1 hj with e1 | hj1 <;> rcases List.mem_cons.1 hk with e2 | hk1
    · rw [e1, e2]
    · rw [e1] at hwj; rw [hwr t k hk1 (hwq t hwj)] at hwk; cases hwk
    · rw [e2] at hwk; rw [hwr t j hj1 (hwq t hwk)] at hwj; cases hwj
    · exact h.uniq t j k hj1 hk1 hwj hwk
  · intro j hj hL
    rcases List.mem_cons.1 hj with rfl | hj
    · refine ⟨lo, e, hlo, hq, by simp [findP, val'], by simpa [val'] using hqv, h.eabs.len, fun t ht hlt => ?_⟩
      by_cases hex : ∃ k, k ∈ bf ∧ writes los t k = true
      · obtain ⟨k, hk, hw⟩ := hex
        exact .inl ⟨k, by simp [hk], hw, g4 t ht k hk hw, by rw [hval k hk]; exact h.eabs.on t k hk hw hlt⟩
      · refine .inr ⟨fun k hk hw => ?_, h.eabs.off t fun k hk => ?_⟩
        · rcases List.mem_cons.1 hk with rfl | hk
          · exact .inl rfl
          · exact absurd ⟨k, hk, hw⟩ hex
        · cases hw : writes los t k with
          | false => rfl
          | true => exact absurd ⟨k, hk, hw⟩ hex
    · obtain ⟨lo', e1, h1, h2, h3, h4, h5, h6⟩ := h.pendOk j hj hL
      have hne : q ≠ j := fun e => g2 (e ▸ hj)
      refine ⟨lo', e1, h1, h2, ?_, by rw [hval j hj]; exact h4, h5, fun t ht hlt => ?_⟩
      · have : Nat.beq q j = false := by
          cases hb : Nat.beq q j with
          | false => rfl
          | true => exact absurd (Nat.eq_of_beq_eq_true hb) hne
        simp only [findP, this]
        rw [h3, hval j hj]
      · rcases h6 t ht hlt with ⟨k, hk, hw, hm, he⟩ | ⟨hall, he⟩
        · exact .inl ⟨k, by simp [hk], hw, hm, by rw [hval k hk]; exact he⟩
        · refine .inr ⟨fun k hk hw => ?_, he⟩
          rcases List.mem_cons.1 hk with e2 | hk1
          · rw [e2] at hw ⊢; exact .inr ((g5 t (by rw [hdst]; exact hwq t hw) j hj).2 ht)
          · exact hall k hk1 hw
end
end Go.AM
