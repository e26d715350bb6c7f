import Derived.Test.YtbemknkbegkflaaAmK
import Derived.Test.YtbemknkbegkflaaAmG
import Derived.Laws.Slices
import Derived.Laws.Strings2
import Derived.WalkSpells
import Derived.Lib.SliceRun
set_option linter.unusedVariables false
set_option linter.unusedSimpArgs false
set_option linter.unnecessarySimpa false
/-! A slice of a slice. -/
namespace Go.AM
section
variable {P : Program} {ρ : Rho} {m : Mem} {w : World} {env : List CV} {a : Act} {K : CV → Mem → Prop}

theorem run_slc {t e : TypeId} {esz : Nat} (hu : P.underlying t = some (.slice e)) (hs : szOf P e = some esz) (ad : Option Addr) (len cap : Nat) (hlc : len ≤ cap) {lo hi : Option Value} {l h : Nat}
    (hlo : (lo = none ∧ l = 0) ∨ ∃ k, lo = some (.int k (l : Int))) (hhi : (hi = none ∧ h = len) ∨ ∃ k, hi = some (.int k (h : Int))) (h1 : l ≤ h) (h2 : h ≤ cap) :
    (Instr.sliceAt t (.slice ad len cap) lo hi none).run P w = .ok (sliced ad l h cap esz) w := by
  have he : P.elem t = e := by simp [Program.elem, hu]
  have hu' : P.underlying t = some (.slice (P.elem t)) := by rw [he]; exact hu
  have hsz : (sizeOf (P.elem t)).run P w = .ok esz w := by
    rw [he]
    exact run_szOf hs
  rw [run_sliceAt_slice _ _ _ _ _ _ hu']
  rcases hlo with ⟨rfl, rfl⟩ | ⟨k, rfl⟩ <;> rcases hhi with ⟨rfl, rfl⟩ | ⟨k', rfl⟩
  · rw [run_slice_all w t ad _ cap hu', hsz]; rfl
  · rw [run_slice_h w t ad len cap hu' k' h (by omega) (by omega), hsz]; simp [Result.andThen]
  · rw [run_slice_l w t ad _ cap hu' k l (by omega) (by omega), hsz]; simp [Result.andThen]
  · rw [run_slice_lh w t ad len cap hu' k k' l h (by omega) (by omega) (by omega), hsz]; simp [Result.andThen]
theorem run_slz {t e : TypeId} {esz : Nat} (hu : P.underlying t = some (.slice e)) (hs : szOf P e = some esz) (ad : Option Addr) (len cap : Nat) {k k' : IntKind} :
    ∃ b, (Instr.sliceAt t (.slice ad len cap) none (some (.int k 0)) (some (.int k' 0))).run P w = .ok (.slice b 0 0) w := by
  have he : P.elem t = e := by simp [Program.elem, hu]
  have hu' : P.underlying t = some (.slice (P.elem t)) := by rw [he]; exact hu
  have hsz : (sizeOf (P.elem t)).run P w = .ok esz w := by
    rw [he]
    exact run_szOf hs
  rw [run_sliceAt_slice _ _ _ _ _ _ hu', run_slice_hm w t ad len cap hu' k k' 0 0 (by omega) (by omega) (by omega), hsz]
  exact ⟨_, rfl⟩

theorem natX_den {c : CV} {v : Value} {k : Nat} (h : natX c = some k) (hd : DenV ρ w c v) : ∃ kd, v = .int kd (k : Int) := by
  unfold natX at h
  split at h
  · cases h
    exact ⟨_, int_den hd⟩
  · cases h
theorem isZ_den {c : CV} {v : Value} (h : isZ c = true) (hd : DenV ρ w c v) : ∃ kd, v = .int kd 0 := by
  unfold isZ at h
  split at h
  · have := of_decide_eq_true h
    subst this
    exact ⟨_, int_den hd⟩
  · cases h
theorem lowXo_den (hE : EnvRel ρ w env a.tmps) {o : Option Operand} {o' : Option X} (h : lowXo o = some o') {d k : Nat} (hk : optN env o' d = some k) :
    (o.map a.eval = none ∧ k = d) ∨ ∃ kd, o.map a.eval = some (.int kd (k : Int)) := by
  cases o with
  | none =>
    simp [lowXo] at h
    subst h
    simp [optN] at hk
    exact .inl ⟨rfl, hk.symm⟩
  | some x =>
    simp only [lowXo, Option.bind_eq_bind, Option.bind_eq_some_iff] at h
    obtain ⟨x', hx, h⟩ := h
    cases h
    obtain ⟨kd, hv⟩ := natX_den hk (lowX_den hE hx)
    exact .inr ⟨kd, by simp [hv]⟩

theorem strs_sound (hM : MemRel ρ m w) (hE : EnvRel ρ w env a.tmps) {t : TypeId} {x : Operand} {lo hi : Option Operand} {x' : X} {lo' hi' : Option X}
    (hu : P.underlying t = some .string) (hx : lowX x = some x') (hlo : lowXo lo = some lo') (hhi : lowXo hi = some hi')
    (h : step P (.strs x' lo' hi') env m K) : Res P (do pure (Next.value (← Instr.sliceAt t (a.eval x) (lo.map a.eval) (hi.map a.eval) none))) ρ m w K := by
  have hd := lowX_den hE hx
  generalize a.eval x = v at hd ⊢
  simp only [step] at h
  generalize x'.ev env = c at hd h
  split at h
  · rename_i s
    have hv := (den_plain hd).1
    subst hv
    obtain ⟨l, hl, h⟩ := ok_iff.1 h
    obtain ⟨hh, hk, h⟩ := ok_iff.1 h
    rcases bB_iff.1 h with ⟨hb, hK⟩ | ⟨_, g⟩
    case inr => exact g.elim
    rw [Bool.and_eq_true, Nat.ble_eq, Nat.ble_eq] at hb
    have hL := lowXo_den hE hlo hl
    have hH := lowXo_den hE hhi hk
    have hrun : (Instr.sliceAt t (.string s) (lo.map a.eval) (hi.map a.eval) none).run P w = .ok (.string (s.extract l hh)) w := by
      rw [run_sliceAt_string w t _ _ _ _ hu]
      rcases hL with ⟨e1, rfl⟩ | ⟨k1, e1⟩ <;> rcases hH with ⟨e2, rfl⟩ | ⟨k2, e2⟩ <;> rw [e1, e2]
      · exact run_slice_string_all w t s hu
      · rw [run_slice_string_h w t s hu k2 _ (by omega) (by omega)]; simp
      · rw [run_slice_string_l w t s hu k1 _ (by omega) (by omega)]; simp
      · rw [run_slice_string w t s k1 k2 _ _ hu (by omega) (by omega) (by omega)]; simp
    exact Res.pure hM (by rw [Sem.run_bind, hrun]; rfl) hK (DenD.val _ rfl)
  · exact h.elim

theorem slc_sound (hM : MemRel ρ m w) (hE : EnvRel ρ w env a.tmps) {t e : TypeId} {esz : Nat} {x : Operand} {lo hi mx : Option Operand} {x' : X} {lo' hi' mx' : Option X}
    (hu : P.underlying t = some (.slice e)) (hs : szOf P e = some esz) (hx : lowX x = some x') (hlo : lowXo lo = some lo') (hhi : lowXo hi = some hi') (hmx : lowXo mx = some mx')
    (h : step P (.slc esz x' lo' hi' mx') env m K) : Res P (do pure (Next.value (← Instr.sliceAt t (a.eval x) (lo.map a.eval) (hi.map a.eval) (mx.map a.eval)))) ρ m w K := by
  have hd := lowX_den hE hx
  generalize a.eval x = v at hd ⊢
  cases mx with
  | none =>
    simp [lowXo] at hmx
    subst hmx
    simp only [step] at h
    simp only [Option.map_none]
    obtain ⟨l, hl, h⟩ := ok_iff.1 h
    have hL := lowXo_den hE hlo hl
    generalize x'.ev env = c at hd h
    split at h
    · rename_i e2 elems
      rcases bB_iff.1 h with ⟨he, g1⟩ | ⟨_, g1⟩
      case inr => exact g1.elim
      have he : e2 = esz := Nat.eq_of_beq_eq_true he
      subst he
      obtain ⟨hh, hk, g2⟩ := ok_iff.1 g1
      rcases bB_iff.1 g2 with ⟨hb, hK⟩ | ⟨_, g3⟩
      case inr => exact g3.elim
      rw [Bool.and_eq_true, Nat.ble_eq, Nat.ble_eq] at hb
      have hH := lowXo_den hE hhi hk
      cases hd with
      | nil _ ad cap hc =>
        simp at hb
        have hz : hh = 0 := by omega
        have hz2 : l = 0 := by omega
        subst hz hz2
        refine Res.pure hM (by rw [Sem.run_bind, run_slc hu hs ad 0 cap (Nat.zero_le _) hL hH (Nat.le_refl _) (Nat.zero_le _)]; rfl) hK ?_
        exact DenD.nil e2 _ (cap - 0) (by omega)
      | sl _ _ b off cap u hS hlc hcap hsz hc hden =>
        refine Res.pure hM (by rw [Sem.run_bind, run_slc hu hs _ _ cap hlc hL hH hb.1 (by omega)]; rfl) hK ?_
        show DenD ρ.S w _ (.slice (if cap = l then _ else _) (hh - l) (cap - l))
        have hlen : ((elems.take hh).drop l).length = hh - l := by simp; omega
        rcases Nat.eq_or_lt_of_le hb.1 with rfl | hlt
        · have : (elems.take l).drop l = [] := List.eq_nil_of_length_eq_zero (by rw [hlen]; omega)
          rw [this, Nat.sub_self]
          exact .nil e2 _ _ (by omega)
        · rw [if_neg (by omega)]
          have hadd : (Option.map (fun x : Addr => x.add (l * e2)) (some ⟨b, off, none⟩)) = some ⟨b, off + l * e2, none⟩ := by
            simp only [Option.map_some, Addr.add]
            split
            · rename_i h0; simp [h0]
            · rfl
          rw [hadd, ← hlen]
          have get : ∀ (i : Nat) cs, ((elems.take hh).drop l)[i]? = some cs → elems[l + i]? = some cs := fun i cs hi => by
            rw [List.getElem?_drop, List.getElem?_take] at hi
            split at hi
            · exact hi
            · cases hi
          exact DenD.sl e2 _ b (off + l * e2) (cap - l) (fun i j => u (l + i) j) hS (by omega) (by omega) (fun cs hcs => hsz cs (List.mem_of_mem_take (List.mem_of_mem_drop hcs)))
            (fun i cs j d hi hj => by
              rw [← hc (l + i) cs j d (get i cs hi) hj]
              congr 2
              rw [Nat.add_mul]; omega)
            (fun i cs j d hi hj => hden (l + i) cs j d (get i cs hi) hj)
    · rename_i id e2 lo0 hi0
      obtain ⟨bk, hb, h⟩ := ok_iff.1 h
      rw [nth_eq] at hb
      cases bk <;> simp only at h
      rename_i esz2 elems
      rcases bB_iff.1 h with ⟨he, g1⟩ | ⟨_, g1⟩
      case inr => exact g1.elim
      have he : e2 = esz := Nat.eq_of_beq_eq_true he
      subst he
      obtain ⟨hh, hk, g2⟩ := ok_iff.1 g1
      rcases bB_iff.1 g2 with ⟨hbb, hK⟩ | ⟨_, g3⟩
      case inr => exact g3.elim
      rw [Bool.and_eq_true, Nat.ble_eq, Nat.ble_eq] at hbb
      obtain ⟨h2, h3, h4, h5, hrest⟩ := hM.bk id _ hb
      clear hrest
      rw [lenOf_eq, h2] at hk
      rw [h2] at hbb
      have hH := lowXo_den hE hhi hk
      obtain ⟨q1, q2, q3, q4, q5, ad, rfl, hadr⟩ := hd
      have b1 : hi0.getD (ρ.loc (.root id)).len - lo0 ≤ (ρ.loc (.root id)).cap - lo0 := by omega
      have b2 : hh ≤ (ρ.loc (.root id)).cap - lo0 := by omega
      refine Res.pure hM (by rw [Sem.run_bind, run_slc hu hs ad _ _ b1 hL hH hbb.1 b2]; rfl) hK ?_
      rw [addN_eq, addN_eq]
      refine ⟨q1, by simp; omega, by simp; omega, q4, q5, (if (ρ.loc (.root id)).cap - lo0 = l then ad else ad.map (fun x : Addr => x.add (l * e2))), ?_, ?_⟩
      · have c1 : hh - l = (some (lo0 + hh)).getD (ρ.loc (.root id)).len - (lo0 + l) := by simp; omega
        have c2 : (ρ.loc (.root id)).cap - lo0 - l = (ρ.loc (.root id)).cap - (lo0 + l) := by omega
        show Value.slice _ (hh - l) ((ρ.loc (.root id)).cap - lo0 - l) = _
        rw [c1, c2]
      · intro hlt
        rw [if_neg (by omega), hadr (by omega)]
        simp only [Option.map_some, Addr.add]
        split
        · rename_i h0; simp [Nat.add_mul, h0]
        · simp [Nat.add_mul, Nat.add_assoc]
    · exact h.elim
  | some mo =>
    simp only [lowXo, Option.bind_eq_bind, Option.bind_eq_some_iff] at hmx
    obtain ⟨m', hm', hmx⟩ := hmx
    cases hmx
    simp only [step] at h
    rcases bB_iff.1 h with ⟨hc, hK⟩ | ⟨_, g⟩
    case inr =>
      obtain ⟨l, hl, g⟩ := ok_iff.1 g
      obtain ⟨E, hE', g⟩ := ok_iff.1 g
      obtain ⟨hh, hk, g⟩ := ok_iff.1 g
      obtain ⟨mxn, hmx, g⟩ := ok_iff.1 g
      rcases bB_iff.1 g with ⟨hc, hK⟩ | ⟨_, g⟩
      case inr => exact g.elim
      simp only [Bool.and_eq_true, Nat.ble_eq] at hc
      obtain ⟨c1, c2, c3, c4, c5⟩ := hc
      have hL := lowXo_den hE hlo hl
      have hH := lowXo_den hE hhi hk
      obtain ⟨kd, hmv⟩ := natX_den hmx (lowX_den hE hm')
      obtain ⟨ad, cap, vs, rfl, hle, hcm, _⟩ := sl_flat hM hE' hd
      cases lo with
      | none =>
        simp [lowXo] at hlo
        subst hlo
        simp at c1
      | some lo0 =>
        cases hi with
        | none =>
          simp [lowXo] at hhi
          subst hhi
          simp at c2
        | some hi0 =>
          rcases hL with ⟨hL, _⟩ | ⟨k1, hL⟩
          · simp at hL
          rcases hH with ⟨hH, _⟩ | ⟨k2, hH⟩
          · simp at hH
          have he : P.elem t = e := by simp [Program.elem, hu]
          have hu' : P.underlying t = some (.slice (P.elem t)) := by rw [he]; exact hu
          have hsz : (sizeOf (P.elem t)).run P w = .ok esz w := by
            rw [he]
            exact run_szOf hs
          refine Res.pure hM (v := sliced ad l hh mxn esz) ?_ hK trivial
          rw [hL, hH, Option.map_some, hmv, Sem.run_bind, run_sliceAt_slice _ _ _ _ _ _ hu', run_slice_lhm w t ad E.length cap hu' k1 k2 kd l hh mxn (by omega) (by omega) (by omega) (by omega), hsz]
          simp [Result.andThen]
    simp only [Bool.and_eq_true] at hc
    obtain ⟨⟨⟨c1, c2⟩, c3⟩, c4⟩ := hc
    obtain ⟨k', hmv⟩ := isZ_den c3 (lowX_den hE hm')
    cases lo with
    | some l0 =>
      simp only [lowXo, Option.bind_eq_bind, Option.bind_eq_some_iff] at hlo
      obtain ⟨l', _, hlo⟩ := hlo
      cases hlo
      simp at c1
    | none =>
      cases hi with
      | none =>
        simp [lowXo] at hhi
        subst hhi
        simp [isZO] at c2
      | some h0 =>
        simp only [lowXo, Option.bind_eq_bind, Option.bind_eq_some_iff] at hhi
        obtain ⟨h', hh', hhi⟩ := hhi
        cases hhi
        obtain ⟨k, hhv⟩ := isZ_den c2 (lowX_den hE hh')
        have hv : ∃ ad len cap, v = .slice ad len cap := by
          generalize x'.ev env = c at hd c4
          unfold isSl at c4
          split at c4
          · cases hd with
            | nil _ ad cap hc => exact ⟨_, _, _, rfl⟩
            | sl _ _ b off cap u hS hlc hcap hsz hc hden => exact ⟨_, _, _, rfl⟩
          · obtain ⟨_, _, _, _, _, ad, rfl, _⟩ := hd
            exact ⟨_, _, _, rfl⟩
          · obtain ⟨ad, rfl⟩ := hd
            exact ⟨_, _, _, rfl⟩
          · cases c4
        obtain ⟨ad, len, cap, rfl⟩ := hv
        obtain ⟨b, hb⟩ := run_slz (w := w) hu hs ad len cap (k := k) (k' := k')
        refine Res.pure hM (v := .slice b 0 0) ?_ hK ⟨b, rfl⟩
        simp only [Option.map_none, Option.map_some, hhv, hmv]
        rw [Sem.run_bind, hb]
        rfl

theorem snil_sound (hM : MemRel ρ m w) (hE : EnvRel ρ w env a.tmps) {neg : Bool} {t e : TypeId} {x : Operand} {x' : X} (hu : P.underlying t = some (.slice e)) (hx : lowX x = some x')
    (h : step P (.snil neg x') env m K) : Res P (do let v ← (do eqGuard (if neg then .neq else .eql) t x (.const (.slice none 0 0)) (a.eval x) (.slice none 0 0); binOp (if neg then .neq else .eql) t (a.eval x) (.slice none 0 0)); pure (Next.value v)) ρ m w K := by
  have hd := lowX_den hE hx
  simp only [step] at h
  generalize a.eval x = v at hd ⊢
  generalize x'.ev env = c at hd h
  have fin : ∀ (ad : Option Addr) (n cp : Nat), v = .slice ad n cp → K (vBool (if neg then !ad.isNone else ad.isNone)) m →
      Res P (do let v ← (do eqGuard (if neg then .neq else .eql) t x (.const (.slice none 0 0)) v (.slice none 0 0); binOp (if neg then .neq else .eql) t v (.slice none 0 0)); pure (Next.value v)) ρ m w K := by
    intro ad n cp hv hK
    subst hv
    refine Res.pure hM (v := .bool (if neg then !ad.isNone else ad.isNone)) ?_ hK (den_mkPlain rfl)
    have hg : ∀ op, (eqGuard op t x (.const (.slice none 0 0)) (.slice ad n cp) (.slice none 0 0)).run P w = .ok () w := fun op => by
      cases op <;> simp [eqGuard]
    rw [Sem.run_bind, Sem.run_bind, hg]
    cases neg
    · simp only [Result.andThen_ok, Bool.false_eq_true, if_false, Lib.run_eql_slice_nil w t e ad n cp 0 0 hu, Sem.run_pure]
    · simp only [Result.andThen_ok, if_true, run_neq_slice_nil_any w t e ad n cp 0 0 hu, Sem.run_pure]
  have both : ∀ (ad : Option Addr) (n cp : Nat), v = .slice ad n cp → (K (vBool true) m ∧ K (vBool false) m) → _ := fun ad n cp hv hK => fin ad n cp hv (by
    generalize (if neg then !ad.isNone else ad.isNone) = b
    cases b
    · exact hK.2
    · exact hK.1)
  split at h
  · rename_i e2 elems
    rcases bB_iff.1 h with ⟨_, g⟩ | ⟨hne, g⟩
    · cases hd with
      | nil _ ad cap hc => exact both _ _ _ rfl g
      | sl _ _ b off cap u hS hlc hcap hsz hc hden => exact both _ _ _ rfl g
    · cases hd with
      | nil _ ad cap hc => simp at hne
      | sl _ _ b off cap u hS hlc hcap hsz hc hden => exact fin _ _ _ rfl (by cases neg <;> simpa using g)
  · rename_i id e2 lo hi
    obtain ⟨bk, hb, h⟩ := ok_iff.1 h
    rw [nth_eq] at hb
    cases bk <;> simp only at h
    rename_i esz2 elems
    obtain ⟨h2, h3, h4, h5, hrest⟩ := hM.bk id _ hb
    clear hrest
    obtain ⟨q1, q2, q3, q4, q5, ad, rfl, hadr⟩ := hd
    rw [lenOf_eq, h2] at h
    rcases bB_iff.1 h with ⟨_, g⟩ | ⟨hne, g⟩
    · exact both _ _ _ rfl g
    · have hne' := Nat.ne_of_beq_eq_false hne
      have := hadr (by omega)
      subst this
      exact fin _ _ _ rfl (by cases neg <;> simpa using g)
  · obtain ⟨ad, rfl⟩ := hd
    exact both _ _ _ rfl h
  · exact h.elim
end
end Go.AM
