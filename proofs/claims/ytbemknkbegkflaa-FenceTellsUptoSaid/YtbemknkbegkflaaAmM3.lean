import Derived.Test.YtbemknkbegkflaaAmM2
set_option linter.unnecessarySimpa false
set_option linter.unusedVariables false
set_option linter.unusedSimpArgs false
/-! A region of which the order is open: its soundness. -/
namespace Go.AM
section
variable {P : Program}
variable {N : Nat} {ρ0 : Rho} {m0 : Mem} {w0 : World}
variable {los : List LO} {ms : List Nat} {n : Nat} {e0 : List CV} {aft : List (List Nat)}

theorem lowOs_nth {ops : Array Oper} : ∀ {l : List Oper} {los : List LO}, lowOs P ops l = some los → l.length = los.length ∧ ∀ (i : Nat) o, l[i]? = some o → ∃ lo, nth los i = some lo ∧ lowO P ops o = some lo
  | [], los, h => by simp [lowOs] at h; subst h; simp
  | o :: r, los, h => by
    obtain ⟨lo, lr, rfl, h1, h2⟩ := lowOs_get h o r rfl
    obtain ⟨h3, h4⟩ := lowOs_nth h2
    refine ⟨by simp [h3], fun i o' hi => ?_⟩
    cases i with
    | zero => simp at hi; subst hi; exact ⟨lo, rfl, h1⟩
    | succ i => simpa [nth] using h4 i o' (by simpa using hi)

theorem find_chk {m : Mem} {pend : List (Nat × LO × List CV × CV)} {j : Nat} : ∀ {l : List Nat}, chk P m pend l → j ∈ l → ok (findP j pend) fun x => vstep P x.1 x.2.1 m fun _ v _ => v = x.2.2
  | [], _, h => by cases h
  | k :: r, hc, h => by
    simp only [chk_cons] at hc
    rcases List.mem_cons.1 h with e | h
    · rw [e]; exact hc.1
    · exact find_chk hc.2 h

theorem DS.uniqL {K : List CV → Mem → Prop} {L : Nat → Prop} {bf : List Nat} {c : Bool} {R : Sch} {val : Nat → CV} {pend : List (Nat × LO × List CV × CV)} {e env : List CV} {m : Mem}
    (h : DS P los ms n aft e0 K L bf c R val pend e env m) {i : Nat} (hi : i ∈ bf) (hL : ¬ L i) {lo : LO} (hlo : nth los i = some lo) : ∀ t k, L k → lo.dst = some t → writes los t k = false := by
  intro t k hk hd
  cases hw : writes los t k with
  | false => rfl
  | true =>
    have := h.uniq t i k hi (h.sub k hk) (writes_iff.2 ⟨lo, hlo, hd⟩) hw
    exact absurd (this ▸ hk) hL

/-- what was thought of ahead is done -/
theorem DS.known {K : List CV → Mem → Prop} {L L' : Nat → Prop} {bf : List Nat} {c : Bool} {R : Sch} {val : Nat → CV} {pend : List (Nat × LO × List CV × CV)} {e env : List CV} {m : Mem}
    (h : DS P los ms n aft e0 K L bf c R val pend e env m) (hms : ∀ i j, hasM ms i j = true → Anc aft i j) {i : Nat} (hi : i ∈ bf) (hL : ¬ L i) (hr : ∀ k, Edge aft i k → L k) (hL' : ∀ k, L' k ↔ L k ∨ k = i)
    {ops : Array Oper} {o : Oper} {lo : LO} (ho : ops[i]? = some o) (hlo : nth los i = some lo) (hlow : lowO P ops o = some lo) {ρ : Rho} {a : Act} {w : World} (hI : Inv N ρ0 m0 w0 ⟨env, m⟩ ρ a w)
    {K1 : Act → World → Prop} {Q : Exit → Act → World → Prop}
    (hn : ∀ env' ρ' a' w', Inv N ρ0 m0 w0 ⟨env', m⟩ ρ' a' w' → DS P los ms n aft e0 K L' bf c R val pend e env' m → K1 a' w') : wpOp P ops Q i K1 a w := by
  obtain ⟨lo', e1, h1, h2, h3, h4, h5⟩ := h.pendOk i hi hL
  rw [hlo] at h1
  cases h1
  have hag := h5.now h.eact hms h.down h.sub hL hr
  have hv := vstep_congr (lo := lo) (K := fun v' m' => v' = val i ∧ m' = m) (fun t ht => hag t (by simpa [looksI, hlo] using ht)) h4
  refine vop_sound ho hlow hI hv fun v m' ρ' a' w' hk hI' => ?_
  obtain ⟨rfl, rfl⟩ := hk
  refine hn _ ρ' a' w' hI' ⟨h.go, h.cps, h.eabs, h.eact.step hlo (h.uniqL hi hL hlo) rfl (fun _ _ => rfl) hL', fun j hj => ?_, fun x y hxy hx => ?_, h.uniq, fun j hj hLj => h.pendOk j hj fun hl => hLj ((hL' j).2 (.inl hl))⟩
  · rcases (hL' j).1 hj with hj | rfl
    · exact h.sub j hj
    · exact hi
  · rcases (hL' x).1 hx with hx | rfl
    · exact (hL' y).2 (.inl (h.down x y hxy hx))
    · exact (hL' y).2 (.inl (hr y hxy))

/-- what makes memory is done -/
theorem DS.effect {K : List CV → Mem → Prop} {L L' : Nat → Prop} {bf : List Nat} {c : Bool} {i : Nat} {l : List Nat} {R : Sch} {val : Nat → CV} {pend : List (Nat × LO × List CV × CV)} {e env : List CV} {m : Mem}
    (h : DS P los ms n aft e0 K L bf c (.cons i (some l) R) val pend e env m) (hms : ∀ i j, hasM ms i j = true → Anc aft i j) (hr : ∀ k, Edge aft i k → L k) (hL' : ∀ k, L' k ↔ L k ∨ k = i)
    {ops : Array Oper} {o : Oper} {lo : LO} (ho : ops[i]? = some o) (hlo : nth los i = some lo) (hlow : lowO P ops o = some lo) {ρ : Rho} {a : Act} {w : World} (hI : Inv N ρ0 m0 w0 ⟨env, m⟩ ρ a w)
    {K1 : Act → World → Prop} {Q : Exit → Act → World → Prop}
    (hn : ∀ val' pend' e' env' m' ρ' a' w', Inv N ρ0 m0 w0 ⟨env', m'⟩ ρ' a' w' → DS P los ms n aft e0 K L' (i :: bf) true R val' pend' e' env' m' → K1 a' w') : wpOp P ops Q i K1 a w := by
  have hgo := h.go
  simp only [schedGo, Bool.and_eq_true] at hgo
  obtain ⟨_, hbase, g7, g8⟩ := hgo
  obtain ⟨g1, g2, g4, g5⟩ := baseB_spec hbase
  have hc := h.cps
  simp only [dops_cons, dopsF] at hc
  obtain ⟨lo', hlo', hc⟩ := ok_iff.1 hc
  rw [hlo] at hlo'
  cases hlo'
  have hiL : ¬ L i := fun hl => g2 (h.sub i hl)
  have hanc : ∀ k, hasM ms i k = true → L k := fun k hm => hms i k hm L h.down hr
  have hc2 : vstep P lo e m fun _ v m' => chk P m' pend l ∧ dops P los R pend K (putE lo.dst v e) m' := by
    rw [vstep_iff] at hc ⊢
    rcases hc with ⟨h1, h2⟩ | ⟨h1, h2⟩
    · exact .inl ⟨h1, step_mono h2 fun v m' hk => put_iff.1 hk⟩
    · exact .inr ⟨h1, put_iff.1 h2⟩
  have hdst : dstI los i = lo.dst := by simp [dstI, hlo]
  have hag : ∀ t, t ∈ lo.looks → getE e t = getE env t := fun t ht => by
    rw [getE_eq, getE_eq]
    rcases Nat.lt_or_ge t e0.length with hlt | hge
    · by_cases hex : ∃ k, k ∈ bf ∧ writes los t k = true
      · obtain ⟨k, hk, hw⟩ := hex
        rw [h.eabs.on t k hk hw hlt, h.eact.on t k (hanc k (g4 t (by simpa [looksI, hlo] using ht) k hk hw)) hw hlt]
      · have hoff : ∀ k, k ∈ bf → writes los t k = false := fun k hk => by
          cases hw : writes los t k with
          | false => rfl
          | true => exact absurd ⟨k, hk, hw⟩ hex
        rw [h.eabs.off t hoff, h.eact.off t fun k hk => hoff k (h.sub k hk)]
    · rw [List.getElem?_eq_none (by rw [h.eabs.len]; exact hge), List.getElem?_eq_none (by rw [h.eact.len]; exact hge)]
  have hv := vstep_congr hag hc2
  have hwr : ∀ t k, k ∈ bf → lo.dst = some t → writes los t k = false := fun t k hk hd => (g5 t (by rw [hdst]; exact hd) k hk).1
  have hwq : ∀ t, writes los t i = true → lo.dst = some t := fun t hw => by
    obtain ⟨lo', h1, h2⟩ := writes_iff.1 hw
    rw [hlo] at h1
    cases h1
    exact h2
  refine vop_sound ho hlow hI hv fun v m' ρ' a' w' hk hI' => ?_
  obtain ⟨hchk, hd⟩ := hk
  let val' : Nat → CV := fun k => if k = i then v else val k
  have hval : ∀ k, k ∈ bf → val' k = val k := fun k hk => if_neg fun (e : k = i) => g2 (e ▸ hk)
  refine hn val' pend _ _ m' ρ' a' w' hI' ⟨g8, hd, h.eabs.step hlo hwr (by simp [val']) hval (by simp [or_comm]),
    h.eact.step hlo (fun t k hk hd => hwr t k (h.sub k hk) hd) (by simp [val']) (fun k hk => hval k (h.sub k hk)) hL', fun j hj => ?_, fun x y hxy hx => ?_, fun t j k hj hk hwj hwk => ?_, fun j hj hLj => ?_⟩
  · rcases (hL' j).1 hj with hj | rfl
    · simp [h.sub j hj]
    · simp
  · rcases (hL' x).1 hx with hx | rfl
    · exact (hL' y).2 (.inl (h.down x y hxy hx))
    · exact (hL' y).2 (.inl (hr y hxy))
  · rcases List.mem_cons.1 hj with e1 | hj1 <;> rcases List.mem_cons.1 hk with e2 | hk1
    · rw [e1, e2]
    · rw [e1] at hwj; rw [hwr t k hk1 (hwq t hwj)] at hwk; cases hwk
    · rw [e2] at hwk; rw [hwr t j hj1 (hwq t hwk)] at hwj; cases hwj
    · exact h.uniq t j k hj1 hk1 hwj hwk
  · have hjL : ¬ L j := fun hl => hLj ((hL' j).2 (.inl hl))
    have hji : j ≠ i := fun e => hLj ((hL' j).2 (.inr e))
    have hj1 : j ∈ bf := by
      rcases List.mem_cons.1 hj with e | h
      · exact absurd e hji
      · exact h
    obtain ⟨lo', e1, h1, h2, h3, h4, h5, h6⟩ := h.pendOk j hj1 hjL
    refine ⟨lo', e1, h1, h2, by rw [hval j hj1]; exact h3, ?_, h5, fun t ht hlt => ?_⟩
    · rw [hval j hj1]
      have g7j := List.all_eq_true.1 g7 j hj1
      have hqj : quietAt los j = true := by simpa [quietAt, h1] using h2
      simp only [hqj, Bool.not_true, Bool.false_or, Bool.or_eq_true, List.contains_iff_mem] at g7j
      rcases g7j with hm | hp | hl
      · exact absurd (hanc j hm) hjL
      · exact h4.pure (by simpa [pureAt, h1] using hp) m'
      · have := find_chk hchk hl
        rw [h3] at this
        obtain ⟨_, hx, hx2⟩ := ok_iff.1 this
        cases hx
        obtain ⟨v', hv', hq⟩ := vstep_quiet h2 hx2
        simp only at hv'
        rw [← hv']
        exact hq
    · rcases h6 t ht hlt with ⟨k, hk, hw, hm, he⟩ | ⟨hall, he⟩
      · exact .inl ⟨k, by simp [hk], hw, hm, by rw [hval k hk]; exact he⟩
      · refine .inr ⟨fun k hk hw => ?_, he⟩
        rcases List.mem_cons.1 hk with e2 | hk1
        · rw [e2] at hw ⊢; exact .inr ((g5 t (by rw [hdst]; exact hwq t hw) j hj1).2 ht)
        · exact hall k hk1 hw

/-- one goes on to whatever comes up -/
theorem DS.any {K : List CV → Mem → Prop} {L L' : Nat → Prop} (hms : ∀ i j, hasM ms i j = true → Anc aft i j) {i : Nat} (hin : i < n) (hL : ¬ L i) (hr : ∀ k, Edge aft i k → L k) (hL' : ∀ k, L' k ↔ L k ∨ k = i)
    {ops : Array Oper} {o : Oper} {lo : LO} (ho : ops[i]? = some o) (hlo : nth los i = some lo) (hlow : lowO P ops o = some lo) {env : List CV} {m : Mem} {ρ : Rho} {a : Act} {w : World} (hI : Inv N ρ0 m0 w0 ⟨env, m⟩ ρ a w)
    {K1 : Act → World → Prop} {Q : Exit → Act → World → Prop}
    (hn : ∀ bf R val' pend' e' env' m' ρ' a' w', Inv N ρ0 m0 w0 ⟨env', m'⟩ ρ' a' w' → DS P los ms n aft e0 K L' bf true R val' pend' e' env' m' → K1 a' w') :
    ∀ (R : Sch) (bf : List Nat) (c : Bool) (val : Nat → CV) (pend : List (Nat × LO × List CV × CV)) (e : List CV), (c = false → i ∈ R.hd) → DS P los ms n aft e0 K L bf c R val pend e env m → wpOp P ops Q i K1 a w := by
  intro R
  induction R with
  | nil =>
    intro bf c val pend e hc h
    cases c with
    | false => have := hc rfl; simp [Sch.hd] at this
    | true =>
      have hgo := h.go
      simp only [schedGo, Bool.true_and, List.all_eq_true] at hgo
      have hi : i ∈ bf := by simpa using hgo i (by simpa using hin)
      exact h.known hms hi hL hr hL' ho hlo hlow hI fun env' ρ' a' w' => hn _ _ _ _ _ env' m ρ' a' w'
  | cons q eff R ih =>
    intro bf c val pend e hc h
    cases eff with
    | none =>
      have hct : c = true := by
        have hgo := h.go
        simp only [schedGo, Bool.and_eq_true] at hgo
        exact hgo.1
      subst hct
      by_cases hi : i ∈ bf
      · exact h.known hms hi hL hr hL' ho hlo hlow hI fun env' ρ' a' w' => hn _ _ _ _ _ env' m ρ' a' w'
      · obtain ⟨val', pend', e', h'⟩ := h.ahead
        exact ih _ _ _ _ _ (fun h => by cases h) h'
    | some l =>
      have hgo := h.go
      simp only [schedGo, Bool.and_eq_true] at hgo
      obtain ⟨hcov, hbase, _⟩ := hgo
      obtain ⟨_, g2, _⟩ := baseB_spec hbase
      by_cases hi : i ∈ bf
      · cases c with
        | false =>
          have hq := hc rfl
          simp only [Sch.hd, List.mem_singleton] at hq
          subst hq
          exact absurd hi g2
        | true => exact h.known hms hi hL hr hL' ho hlo hlow hI fun env' ρ' a' w' => hn _ _ _ _ _ env' m ρ' a' w'
      · have hqi : q = i := by
          cases c with
          | false =>
            have hq := hc rfl
            simp only [Sch.hd, List.mem_singleton] at hq
            exact hq.symm
          | true =>
            simp only [Bool.not_true, Bool.false_or] at hcov
            rcases covB_spec hcov hin hi with hq | ⟨f, hf, hm⟩
            · simpa using Eq.symm (by simpa using hq)
            · simp only [List.mem_singleton] at hf
              subst hf
              exact absurd (h.sub _ (hms i _ hm L h.down hr)) g2
        subst hqi
        exact h.effect hms hr hL' ho hlo hlow hI fun val' pend' e' env' m' ρ' a' w' => hn _ _ _ _ _ env' m' ρ' a' w'
  | alt x y ihx ihy =>
    intro bf c val pend e hc h
    have hgo := h.go
    simp only [schedGo, Bool.and_eq_true] at hgo
    obtain ⟨hcov, hgx, hgy⟩ := hgo
    obtain ⟨_, hhx⟩ := schedGo_hd hgx
    obtain ⟨_, hhy⟩ := schedGo_hd hgy
    have hcps := h.cps
    simp only [dops_alt] at hcps
    have goX : i ∈ x.hd → wpOp P ops Q i K1 a w := fun hi => ihx bf false val pend e (fun _ => hi) ⟨hgx, hcps.1, h.eabs, h.eact, h.sub, h.down, h.uniq, h.pendOk⟩
    have goY : i ∈ y.hd → wpOp P ops Q i K1 a w := fun hi => ihy bf false val pend e (fun _ => hi) ⟨hgy, hcps.2, h.eabs, h.eact, h.sub, h.down, h.uniq, h.pendOk⟩
    cases c with
    | false =>
      have hq := hc rfl
      simp only [Sch.hd, List.mem_append] at hq
      exact hq.elim goX goY
    | true =>
      by_cases hi : i ∈ bf
      · exact h.known hms hi hL hr hL' ho hlo hlow hI fun env' ρ' a' w' => hn _ _ _ _ _ env' m ρ' a' w'
      · simp only [Bool.not_true, Bool.false_or] at hcov
        rcases covB_spec hcov hin hi with hq | ⟨f, hf, hm⟩
        · rcases List.mem_append.1 hq with hq | hq
          · exact goX hq
          · exact goY hq
        · have hfL := h.sub _ (hms i f hm L h.down hr)
          rcases List.mem_append.1 hf with hf | hf
          · exact absurd hfL (hhx f hf).2
          · exact absurd hfL (hhy f hf).2

theorem count_set : ∀ (l : List Bool) (i : Nat), l[i]? = some false → (l.set i true).count false + 1 = l.count false
  | [], i, h => by simp at h
  | b :: r, 0, h => by simp at h; subst h; simp
  | b :: r, i + 1, h => by
    have := count_set r i (by simpa using h)
    cases b <;> simp [List.count_cons] at this ⊢ <;> omega

theorem draw_go {md : Region.Mode} {ops : Array Oper} {Q : Exit → Act → World → Prop} {K : List CV → Mem → Prop} (hQ : ∀ env m ρ a w, K env m → Inv N ρ0 m0 w0 ⟨env, m⟩ ρ a w → Q .normal a w)
    (hms : ∀ i j, hasM ms i j = true → Anc (aftOf md ops) i j) (hord : ∃ l, ordGo (aftOf md ops) n [] l = true) (hlos : ∀ (i : Nat) o, ops[i]? = some o → ∃ lo, nth los i = some lo ∧ lowO P ops o = some lo) (hn : n = ops.size) (hnl : n = los.length) :
    ∀ (fuel : Nat) (listed : Array Bool) (a : Act) (w : World) (ρ : Rho) (m : Mem) (env : List CV) (bf : List Nat) (R : Sch) (val : Nat → CV)
      (pend : List (Nat × LO × List CV × CV)) (e : List CV), listed.size = n → listed.toList.count false = fuel → Inv N ρ0 m0 w0 ⟨env, m⟩ ρ a w →
      DS P los ms n (aftOf md ops) e0 K (fun i => listed[i]? = some true) bf true R val pend e env m → wpAny P md ops Q fuel listed a w := by
  have hready : ∀ (listed : Array Bool) i, i ∈ Region.ready md ops listed → listed[i]? = some false ∧ i < ops.size ∧ ∀ k, Edge (aftOf md ops) i k → listed[k]? = some true := by
    intro listed i hi
    obtain ⟨h0, o, ho, hall⟩ := mem_ready.1 hi
    refine ⟨?_, (Array.getElem?_eq_some_iff.1 ho).1, fun k hk => ?_⟩
    · rw [Array.getD_eq_getD_getElem?] at h0
      cases hg : listed[i]? with
      | none => rw [hg] at h0; simp at h0
      | some b => rw [hg] at h0; simp at h0; rw [h0]
    · obtain ⟨l, hl, hkl⟩ := hk
      simp only [aftOf, List.getElem?_map, Array.getElem?_toList, ho, Option.map_some, Option.some.injEq] at hl
      subst hl
      obtain ⟨ed, hed, rfl⟩ := List.mem_map.1 hkl
      obtain ⟨hed1, hed2⟩ := List.mem_filter.1 hed
      have := hall ed (by simpa using hed1) hed2
      rw [Array.getD_eq_getD_getElem?] at this
      cases hg : listed[ed.on]? with
      | none => rw [hg] at this; simp at this
      | some b => rw [hg] at this; simp at this; rw [this]
  have hedge' : ∀ (i : Nat) o ed, ops[i]? = some o → ed ∈ o.after → Region.binds md ed = true → Edge (aftOf md ops) i ed.on := by
    intro i o ed ho hed hb
    refine ⟨(o.after.toList.filter (Region.binds md)).map (·.on), ?_, ?_⟩
    · simp [aftOf, List.getElem?_map, ho]
    · exact List.mem_map.2 ⟨ed, List.mem_filter.2 ⟨by simpa using hed, hb⟩, rfl⟩
  intro fuel
  induction fuel with
  | zero =>
    intro listed a w ρ m env bf R val pend e hsz hcnt hI h
    have hall : ∀ i, i < n → listed[i]? = some true := by
      intro i hi
      have hlt : i < listed.size := by omega
      rw [Array.getElem?_eq_getElem hlt]
      have hno := List.count_eq_zero.1 hcnt
      cases hb : listed[i] with
      | true => rfl
      | false => exact absurd (by rw [← hb]; exact Array.getElem_mem_toList hlt) hno
    constructor
    · rw [List.eq_nil_iff_forall_not_mem]
      intro i hi
      obtain ⟨h1, h2, _⟩ := hready listed i hi
      rw [hall i (by omega)] at h1
      cases h1
    · have hR : R = .nil := by
        cases R with
        | nil => rfl
        | cons q eff R =>
          have hgo := h.go
          cases eff with
          | none =>
            simp only [schedGo, Bool.and_eq_true] at hgo
            obtain ⟨g1, g2, _⟩ := baseB_spec hgo.2.1
            exact absurd (h.sub q (hall q g1)) g2
          | some l =>
            simp only [schedGo, Bool.and_eq_true] at hgo
            obtain ⟨g1, g2, _⟩ := baseB_spec hgo.2.1
            exact absurd (h.sub q (hall q g1)) g2
        | alt x y =>
          have hgo := h.go
          simp only [schedGo, Bool.and_eq_true] at hgo
          obtain ⟨⟨f, hf⟩, hx⟩ := schedGo_hd hgo.2.1
          obtain ⟨g1, g2⟩ := hx f hf
          exact absurd (h.sub f (hall f g1)) g2
      subst hR
      have hbf : ∀ i, i ∈ bf → i < n ∨ n ≤ i := fun i _ => Nat.lt_or_ge i n
      have hnw : ∀ i t, n ≤ i → writes los t i = false := by
        intro i t hi
        cases hw : writes los t i with
        | false => rfl
        | true =>
          obtain ⟨lo, hlo, _⟩ := writes_iff.1 hw
          rw [nth_eq] at hlo
          have := (List.getElem?_eq_some_iff.1 hlo).1
          omega
      have he : e = env := by
        have e1 : EnvIs los e0 (fun i => i ∈ bf ∧ i < n) val e := ⟨h.eabs.len, fun t k hk => h.eabs.on t k hk.1, fun t hall' => h.eabs.off t fun k hk => by
          rcases hbf k hk with hlt | hge
          · exact hall' k ⟨hk, hlt⟩
          · exact hnw k t hge⟩
        have e2 : EnvIs los e0 (fun i => i ∈ bf ∧ i < n) val env := h.eact.cong (fun _ _ => rfl) fun k => ⟨fun hk => hall k hk.2, fun hk => ⟨h.sub k hk, by
          have := (Array.getElem?_eq_some_iff.1 hk).1
          omega⟩⟩
        exact e1.ext e2
      subst he
      exact hQ _ _ ρ a w h.cps hI
  | succ fuel ih =>
    intro listed a w ρ m env bf R val pend e hsz hcnt hI h
    constructor
    · intro hnil
      exfalso
      have hex : ∃ i : Nat, listed[i]? = some false := by
        have : false ∈ listed.toList := by
          apply List.count_pos_iff.1
          omega
        obtain ⟨i, hi⟩ := List.getElem?_of_mem this
        exact ⟨i, by simpa using hi⟩
      obtain ⟨i, hi⟩ := hex
      obtain ⟨l, hl⟩ := hord
      have hin : i < n := by
        have := (Array.getElem?_eq_some_iff.1 hi).1
        omega
      have := ordGo_spec (L := fun i => listed[i]? = some true) (fun i hi hni => ?_) l [] hl (fun _ h => by cases h) i hin
      · rw [hi] at this
        cases this
      · refine Classical.byContradiction fun hnone => ?_
        have hlt : i < ops.size := by omega
        have hlt2 : i < listed.size := by omega
        have hf : listed[i]? = some false := by
          rw [Array.getElem?_eq_getElem hlt2] at hni ⊢
          cases hb2 : listed[i] with
          | true => rw [hb2] at hni; exact absurd rfl hni
          | false => rfl
        have hm : i ∈ Region.ready md ops listed := by
          rw [mem_ready]
          refine ⟨by rw [Array.getD_eq_getD_getElem?, hf]; rfl, ops[i], Array.getElem?_eq_getElem hlt, fun ed hed hb => ?_⟩
          have hE := hedge' i _ ed (Array.getElem?_eq_getElem hlt) hed hb
          have hL : listed[ed.on]? = some true := Classical.byContradiction fun hc => hnone ⟨_, hE, hc⟩
          rw [Array.getD_eq_getD_getElem?, hL]
          rfl
        rw [hnil] at hm
        cases hm
    · intro i hi
      obtain ⟨h1, h2, h3⟩ := hready listed i hi
      obtain ⟨lo, hlo, hlow⟩ := hlos i _ (Array.getElem?_eq_getElem h2)
      have hlt : i < listed.size := by omega
      refine DS.any (L := fun i => listed[i]? = some true) (L' := fun k => (listed.setIfInBounds i true)[k]? = some true) hms (by omega) (by rw [h1]; simp) h3 (fun k => ?_) (Array.getElem?_eq_getElem h2) hlo hlow hI
        (fun bf R val' pend' e' env' m' ρ' a' w' hI' h' => ih _ a' w' ρ' m' env' bf R val' pend' e' (by simp [hsz]) ?_ hI' h') R bf true val pend e (fun h => by cases h) h
      · by_cases hk : i = k
        · subst hk
          rw [Array.getElem?_setIfInBounds_self_of_lt hlt]
          simp
        · rw [Array.getElem?_setIfInBounds_ne hk]
          constructor
          · exact .inl
          · rintro (h | h)
            · exact h
            · exact absurd h.symm hk
      · have := count_set listed.toList i (by simpa using h1)
        rw [Array.toList_setIfInBounds]
        omega

theorem draw_sound {md : Region.Mode} {ops : Array Oper} {Q : Exit → Act → World → Prop} {K : List CV → Mem → Prop} (hQ : ∀ env m ρ a w, K env m → Inv N ρ0 m0 w0 ⟨env, m⟩ ρ a w → Q .normal a w)
    {los : List LO} (hlow : lowOs P ops ops.toList = some los) {sched : Sch} (hok : schedOk los (aftOf md ops) sched = true) {st : St} (h : dops P los sched [] K st.env st.mem) {ρ : Rho} {a : Act} {w : World}
    (hI : Inv N ρ0 m0 w0 st ρ a w) : wpAny P md ops Q ops.size (Array.replicate ops.size false) a w := by
  obtain ⟨hlen, hlos⟩ := lowOs_nth hlow
  simp only [schedOk, Bool.and_eq_true] at hok
  have hms : ∀ i j, hasM (masks los.length (aftOf md ops)) i j = true → Anc (aftOf md ops) i j := masks_anc
  have hno : ∀ i : Nat, ¬ (Array.replicate ops.size false)[i]? = some true := by
    intro i hi
    rw [Array.getElem?_replicate] at hi
    split at hi <;> simp at hi
  refine draw_go (n := los.length) (e0 := st.env) hQ hms ⟨_, hok.1⟩ (fun i o ho => hlos i o (by simpa using ho)) (by simpa using hlen.symm) rfl ops.size _ a w ρ st.mem st.env [] sched (fun _ => .undef) [] st.env
    (by simpa using hlen) (by simp) hI ?_
  exact ⟨hok.2, h, ⟨rfl, fun t k hk => (List.not_mem_nil hk).elim, fun _ _ => rfl⟩, ⟨rfl, fun t k hk => absurd hk (hno k), fun _ _ => rfl⟩, fun i hi => absurd hi (hno i), fun i j _ hi => absurd hi (hno i), fun t j k hj => (List.not_mem_nil hj).elim, fun j hj => (List.not_mem_nil hj).elim⟩

theorem dall_mem {los : List LO} {K : Ex → St → Prop} {s : St} : ∀ {l : List Sch}, dall P los K s l → ∀ x, x ∈ l → dops P los x [] (regK K) s.env s.mem
  | [], _, x, hx => by cases hx
  | [y], h, x, hx => by
    obtain rfl := List.mem_singleton.1 hx
    exact h
  | y :: z :: r, h, x, hx => by
    rcases List.mem_cons.1 hx with rfl | hx
    · exact h.1
    · exact dall_mem h.2 x hx

/-- a region of open order, whatever of its orders is drawn -/
theorem region_sound {ops : Array Oper} {Q : Exit → Act → World → Prop} {K : Ex → St → Prop} (hQ : ∀ env m ρ a w, K .normal ⟨env, m⟩ → Inv N ρ0 m0 w0 ⟨env, m⟩ ρ a w → Q .normal a w)
    {los : List LO} (hlow : lowOs P ops ops.toList = some los) {scheds : List Sch} (hok : schedsOf P los ops = some scheds) {st : St} (h : dall P los K st scheds) {ρ : Rho} {a : Act} {w : World}
    (hI : Inv N ρ0 m0 w0 st ρ a w) (t : Nat) : wpOps P ops Q (Region.schedule (P.follows .mixedOrders) ops t) a { w with drawn := w.drawn + 1 } := by
  have hall : ∀ md, md ∈ modesOf P ops → ∃ s, s ∈ scheds ∧ schedOk los (aftOf md ops) s = true := by
    simp only [schedsOf] at hok
    split at hok
    · rename_i hc
      cases hok
      exact fun md hmd => ⟨_, by simp, List.all_eq_true.1 hc md hmd⟩
    · split at hok
      · rename_i hc
        cases hok
        exact fun md hmd => by
          have := List.all_eq_true.1 hc md hmd
          obtain ⟨s, hs, hs2⟩ := List.any_eq_true.1 this
          exact ⟨s, hs, hs2⟩
      · cases hok
  have each : ∀ md, md ∈ modesOf P ops → wpAny P md ops Q ops.size (Array.replicate ops.size false) a { w with drawn := w.drawn + 1 } := fun md hmd => by
    obtain ⟨s, hs, hs2⟩ := hall md hmd
    exact draw_sound (K := regK K) hQ hlow hs2 (dall_mem h s hs) hI.drew
  unfold Region.schedule
  unfold modesOf at each
  split
  · rename_i hc
    rw [if_pos hc] at each
    exact wpAny_sound ops.size t _ a _ (each .any (by simp))
  · rename_i hc
    rw [if_neg hc] at each
    split
    · exact wpAny_sound ops.size (t / 2) _ a _ (each .text (by simp))
    · exact wpAny_sound ops.size (t / 2) _ a _ (each .gc (by simp))
end
end Go.AM
