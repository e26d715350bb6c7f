import Derived.Test.YtbemknkbegkflaaAmH
set_option linter.unusedSimpArgs false
set_option linter.unnecessarySimpa false
set_option linter.unusedVariables false
/-! From instructions to the text: regions, branches, loops, calls. -/
namespace Go.AM
section
variable {P : Program}

theorem wp_loop_ghost {γ : Type} {c : Code} {Q : Exit → Act → World → Prop} {a : Act} {w : World} (I : γ → Act → World → Prop) (μ : γ → Nat) (g0 : γ) (h₀ : I g0 a w)
    (round : ∀ g a w, I g a w → c.wp P (Exit.then (fun a' w' => ∃ g', I g' a' w' ∧ μ g' < μ g) Q) a w) : (Code.loop c).wp P Q a w := by
  intro b k cs
  have key : ∀ n g a w, μ g = n → I g a w →
      ∃ e a' w', Q e a' w' ∧ Arrives P (lone (b.at a (.code c :: .inLoop c :: k)) cs w) b k cs e a' w' := by
    intro n
    induction n using Nat.strongRecOn with
    | _ n ih =>
      intro g a w hn hI
      obtain ⟨e, a₁, w₁, hq, harr⟩ := round g a w hI b (.inLoop c :: k) cs
      cases e with
      | normal =>
        obtain ⟨g₁, hI₁, hlt⟩ := hq
        obtain ⟨e₂, a₂, w₂, hq₂, harr₂⟩ := ih (μ g₁) (hn ▸ hlt) g₁ a₁ w₁ rfl hI₁
        exact ⟨e₂, a₂, w₂, hq₂, .of_steps (Steps.trans harr (.one step_inLoop)) harr₂⟩
      | exit id => exact ⟨_, a₁, w₁, hq, .pass (x := .inLoop c) rfl (fun _ _ => .inl (by simp)) harr⟩
      | goto l => exact ⟨_, a₁, w₁, hq, .pass (x := .inLoop c) rfl (fun _ _ => .inl (by simp)) harr⟩
      | ret => exact ⟨_, a₁, w₁, hq, .pass (x := .inLoop c) rfl (fun _ _ => .inl (by simp)) harr⟩
      | panic ch => exact ⟨_, a₁, w₁, hq, .pass (x := .inLoop c) rfl (fun _ _ => .inl (by simp)) harr⟩
      | outgrown => exact ⟨_, a₁, w₁, hq, .pass (x := .inLoop c) rfl (fun _ _ => .inl (by simp)) harr⟩
  obtain ⟨e, a', w', hq, harr⟩ := key _ g0 a w rfl h₀
  exact ⟨e, a', w', hq, .of_steps (.one step_loop) harr⟩

def exOf : Exit → Option Ex
  | .normal => some .normal
  | .exit id => some (.exit id)
  | .ret => some .ret
  | _ => none

/-- the marks of ranges over functions -/
def Dfs (N : Nat) (ρ : Rho) (w : World) (ds : List Deferred) : Prop :=
  ∃ Ds : List Nat, ds = Ds.map (fun D => { target := .collected D, args := #[] }) ∧ Ds.Nodup ∧ ∀ D, D ∈ Ds → N ≤ D ∧ ρ.S D ∧ w.heap[D]? = some (.deferred (some []))
theorem Dfs.nil {N : Nat} {ρ : Rho} {w : World} : Dfs N ρ w [] := ⟨[], rfl, List.nodup_nil, by simp⟩
theorem Dfs.ext {N : Nat} {ρ ρ' : Rho} {m m' : Mem} {w w' : World} {ds : List Deferred} (hM : MemRel ρ m w) (x : Ext ρ m w ρ' m' w') (h : Dfs N ρ w ds) : Dfs N ρ' w' ds := by
  obtain ⟨Ds, h1, h2, h3⟩ := h
  refine ⟨Ds, h1, h2, fun D hD => ?_⟩
  obtain ⟨g1, g2, g3⟩ := h3 D hD
  exact ⟨g1, x.S D g2, (x.frame D (hM.S D g2) fun k hk e => (hM.live k hk).2 (e ▸ g2)).trans g3⟩
theorem Dfs.s {N : Nat} {ρ ρ' : Rho} {w : World} {ds : List Deferred} (hS : ∀ b, ρ.S b → ρ'.S b) (h : Dfs N ρ w ds) : Dfs N ρ' w ds := by
  obtain ⟨Ds, h1, h2, h3⟩ := h
  exact ⟨Ds, h1, h2, fun D hD => ⟨(h3 D hD).1, hS D (h3 D hD).2.1, (h3 D hD).2.2⟩⟩

/-- what holds all along, from (ρ0, m0, w0) on -/
structure Inv (N : Nat) (ρ0 : Rho) (m0 : Mem) (w0 : World) (st : St) (ρ : Rho) (a : Act) (w : World) : Prop where
  ext : Ext ρ0 m0 w0 ρ st.mem w
  mem : MemRel ρ st.mem w
  env : EnvRel ρ w st.env a.tmps
  defers : Dfs N ρ w a.defers
  hN : N ≤ w0.heap.size
  n0 : m0.length ≤ st.mem.length

def Post (N : Nat) (ρ0 : Rho) (m0 : Mem) (w0 : World) (K : Ex → St → Prop) (e : Exit) (a : Act) (w : World) : Prop :=
  ∃ ex st ρ, exOf e = some ex ∧ K ex st ∧ Inv N ρ0 m0 w0 st ρ a w

variable {N : Nat} {ρ0 : Rho} {m0 : Mem} {w0 : World}

theorem Inv.step {env : List CV} {m m' : Mem} {ρ ρ' : Rho} {a : Act} {w w' : World} {d : Option Nat} {c : CV} {v : Value} (h : Inv N ρ0 m0 w0 ⟨env, m⟩ ρ a w)
    (hM : MemRel ρ' m' w') (hd : DenV ρ' w' c v) (hx : Ext ρ m w ρ' m' w') {K : List CV → Prop} (hp : put d c env K) :
    ∃ env', K env' ∧ Inv N ρ0 m0 w0 ⟨env', m'⟩ ρ' (a.put d v) w' := by
  obtain ⟨env', hK, hE, hdf⟩ := (h.env.ext h.mem hx : EnvRel ρ' w' env a.tmps).put hd hp
  refine ⟨env', hK, h.ext.trans hx, hM, hE, hdf ▸ h.defers.ext h.mem hx, h.hN, ?_⟩
  have h1 := h.n0
  have h2 := h.mem.n
  have h3 := hM.n
  have h4 := hx.n
  simp only at h1 h2 ⊢
  omega

/-- one operation that is wanted -/
theorem op_sound {o : Oper} {i : I} {env : List CV} {m : Mem} {ρ : Rho} {a : Act} {w : World} {K : List CV → Mem → Prop} {next : Act → World → Prop} {Q : Exit → Act → World → Prop}
    (hl : lowI P o = some i) (h : Inv N ρ0 m0 w0 ⟨env, m⟩ ρ a w) (hs : step P i env m fun v m' => put o.dst v env fun e' => K e' m')
    (hn : ∀ env' m' ρ' a' w', K env' m' → Inv N ρ0 m0 w0 ⟨env', m'⟩ ρ' a' w' → next a' w') : o.wp P a w next Q := by
  rcases lowI_cases hl with hl | rfl
  case inr => rw [trap_no] at hs; exact hs.elim
  by_cases hc : ∃ f xs ts, o.op = .call { callee := .value f, args := xs, argTypes := ts }
  · obtain ⟨f, xs, ts, hop⟩ := hc
    have hll : ∃ f' xs', i = .call f' xs' ∧ lowX f = some f' ∧ lowXs xs.toList = some xs' := by
      unfold lowI0 at hl
      rw [hop] at hl
      simp only [Option.bind_eq_bind, Option.bind_eq_some_iff] at hl
      obtain ⟨f1, hf, xs1, hx, hl⟩ := hl
      cases hl
      exact ⟨f1, xs1, rfl, hf, hx⟩
    obtain ⟨f', xs', rfl, hf, hx⟩ := hll
    have hd := lowX_den h.env hf
    simp only [step] at hs
    split at hs
    · rename_i g caps hfe
      rw [hfe] at hd
      obtain ⟨hcaps, hv⟩ := hd
      obtain ⟨⟨fn, hfn, hbody, hname⟩, hcall⟩ := hs
      obtain ⟨e1, e2⟩ := lowXs_den h.env hx
      simp only [app2_eq, capArgs_eq] at hcall
      have hb : fn.body ≠ none := by intro e; rw [e] at hbody; cases hbody
      have hnm : fn.name ≠ "runtime.NumGoroutine" := by intro e; rw [e] at hname; simp at hname
      have hrun : (execOp a.eval o).run P w = .ok (.enter g (xs.map a.eval ++ (caps.map fun id => Value.pointer (some ⟨(ρ.loc (.root id)).b, (ρ.loc (.root id)).base, none⟩)).toArray)) w := by
        unfold execOp
        rw [hop]
        simp [resolve, hv, Deferred.ofValue, invoke, callFunc, hfn, hnm, hb]
      unfold Oper.wp
      rw [hrun, Oper.upon_enter]
      have hcalls := hcall ρ w (xs.toList.map a.eval ++ caps.map fun id => Value.pointer (some ⟨(ρ.loc (.root id)).b, (ρ.loc (.root id)).base, none⟩)) h.mem (by simp [e1]) (fun i c hi => by
        rcases Nat.lt_or_ge i (evs env xs').length with hlt | hge
        · rw [List.getElem?_append_left hlt] at hi
          obtain ⟨v, hv2, hd2⟩ := e2 i c hi
          exact ⟨v, by rw [List.getElem?_append_left (by simpa [e1] using hlt)]; exact hv2, hd2⟩
        · rw [List.getElem?_append_right hge] at hi
          rw [List.getElem?_append_right (by simpa [e1] using hge)]
          rw [List.getElem?_map] at hi
          cases hk : caps[i - (evs env xs').length]? with
          | none => rw [hk] at hi; cases hi
          | some id =>
            rw [hk] at hi
            simp only [Option.map_some, Option.some.injEq] at hi
            subst hi
            refine ⟨_, by rw [List.length_map, ← e1, List.getElem?_map, hk]; rfl, hcaps id (List.mem_of_getElem? hk), by simp⟩)
      have hargs : (xs.toList.map a.eval ++ caps.map fun id => Value.pointer (some ⟨(ρ.loc (.root id)).b, (ρ.loc (.root id)).base, none⟩)).toArray =
          xs.map a.eval ++ (caps.map fun id => Value.pointer (some ⟨(ρ.loc (.root id)).b, (ρ.loc (.root id)).base, none⟩)).toArray := by
        apply Array.ext'
        simp
      rw [hargs] at hcalls
      refine hcalls.mono fun e w' hR => ?_
      obtain ⟨v, r, m', ρ', rfl, hK, hM', hd', hx'⟩ := hR
      obtain ⟨env', hK', hI⟩ := h.step (d := o.dst) hM' hd' hx' hK
      exact hn env' m' ρ' _ w' hK' hI
    · exact hs.elim
  · obtain ⟨nx, v, w', cv, m', ρ', hr, hnx, hK, hM', hd', hx'⟩ := step_sound hl (fun f xs ts e => hc ⟨f, xs, ts, e⟩) h.mem h.env hs
    obtain ⟨env', hK', hI⟩ := h.step (d := o.dst) hM' hd' hx' hK
    unfold Oper.wp
    rw [hr]
    rcases hnx with rfl | ⟨rfl, rfl⟩
    · exact hn env' m' ρ' _ w' hK' hI
    · exact hn env' m' ρ' _ w' hK' hI

theorem lowOs_get {ops : Array Oper} : ∀ {l : List Oper} {los : List LO}, lowOs P ops l = some los → ∀ (o : Oper) (r : List Oper), l = o :: r → ∃ lo lr, los = lo :: lr ∧ lowO P ops o = some lo ∧ lowOs P ops r = some lr := by
  rintro l los h o r rfl
  simp only [lowOs, Option.bind_eq_bind, Option.bind_eq_some_iff] at h
  obtain ⟨lo, h1, lr, h2, h3⟩ := h
  cases h3
  exact ⟨lo, lr, rfl, h1, h2⟩

theorem setSame {env : List CV} {s : Nat} {t : Bool} (h : getE env s = vBool t) : setN env s (vBool t) = env := by
  rw [setN_eq]
  rw [getE_eq] at h
  cases hg : env[s]? with
  | none => rw [hg] at h; cases h
  | some c =>
    rw [hg] at h
    simp only [Option.getD_some] at h
    subst h
    exact List.ext_getElem? fun i => by
      by_cases hi : s = i
      · subst hi
        rw [List.getElem?_set_self (List.getElem?_eq_some_iff.1 hg).1, hg]
      · rw [List.getElem?_set_ne hi]

theorem aops_sound {ops : Array Oper} {Q : Exit → Act → World → Prop} {K : List CV → Mem → Prop}
    (hQ : ∀ env m ρ a w, K env m → Inv N ρ0 m0 w0 ⟨env, m⟩ ρ a w → Q .normal a w) :
    ∀ (l : List Oper) (k : Nat) (los : List LO) (env : List CV) (m : Mem) (ρ : Rho) (a : Act) (w : World), ops.toList.drop k = l → lowOs P ops l = some los → aops P los K env m → Inv N ρ0 m0 w0 ⟨env, m⟩ ρ a w →
      wpOps P ops Q (List.range' k l.length) a w
  | [], k, los, env, m, ρ, a, w, hl, hlow, h, hI => by
    simp [lowOs] at hlow; subst hlow
    exact hQ env m ρ a w h hI
  | o :: r, k, los, env, m, ρ, a, w, hl, hlow, h, hI => by
    obtain ⟨lo, lr, rfl, h1, h2⟩ := lowOs_get hlow o r rfl
    have hok : ops[k]? = some o := by
      have : (ops.toList.drop k)[0]? = some o := by rw [hl]; rfl
      simpa using this
    have hr : ops.toList.drop (k + 1) = r := by rw [← List.tail_drop, hl]; rfl
    have ih := fun env m ρ a w => aops_sound hQ r (k + 1) lr env m ρ a w hr h2
    simp only [lowO, Option.bind_eq_bind, Option.bind_eq_some_iff] at h1
    obtain ⟨i, hi, g, hg, h1⟩ := h1
    cases h1
    simp only [List.length_cons, List.range'_succ, wpOps, hok]
    have skip : ∀ (e : List CV), Inv N ρ0 m0 w0 ⟨e, m⟩ ρ a w → (put o.dst .undef e fun e' => aops P lr K e' m) → wpOps P ops Q (List.range' (k + 1) r.length) (a.put o.dst Go.undef) w := fun e hIe hp => by
      obtain ⟨env', hK', hI'⟩ := hIe.step (d := o.dst) (c := .undef) (v := Go.undef) hIe.mem rfl (Ext.refl _ _ _) hp
      exact ih _ _ _ _ _ hK' hI'
    have exec : ∀ (e : List CV), Inv N ρ0 m0 w0 ⟨e, m⟩ ρ a w → (step P i e m fun v m' => put o.dst v e fun e' => aops P lr K e' m') → o.wp P a w (wpOps P ops Q (List.range' (k + 1) r.length)) Q := fun e hIe hp =>
      op_sound hi hIe hp fun env' m' ρ' a' w' hK' hI' => ih _ _ _ _ _ hK' hI'
    cases hgd : o.guard with
    | none =>
      rw [hgd] at hg
      simp [lowG] at hg
      subst hg
      have hw : Region.wanted o (yielded ops a.tmps) = true := by simp [Region.wanted, hgd]
      rw [if_pos hw]
      simp only [aops_cons, aopsF, force_eq] at h
      exact .inl (exec env hI h)
    | some jb =>
      obtain ⟨j, want⟩ := jb
      rw [hgd] at hg
      simp only [lowG, Option.bind_eq_bind, Option.bind_eq_some_iff] at hg
      obtain ⟨oj, hoj, s, hs, hg⟩ := hg
      cases hg
      have hy : yielded ops a.tmps j = match a.tmps[s]? with | some (.bool b) => some b | _ => none := by
        simp [yielded, hoj, hs]
        rfl
      simp only [aops_cons, aopsF] at h
      split at h
      · rename_i hge
        have hden := hI.env.get s
        rw [hge] at hden
        have hu : a.tmps[s]? = some Go.undef ∨ a.tmps[s]? = none := by
          simp only [DenV, Array.getD_eq_getD_getElem?] at hden
          cases ht : a.tmps[s]? with
          | none => exact .inr rfl
          | some v => rw [ht] at hden; simp at hden; exact .inl (by rw [hden])
        have hw : Region.wanted o (yielded ops a.tmps) = false := by
          simp only [Region.wanted, hgd, hy]
          rcases hu with hu | hu <;> rw [hu] <;> rfl
        rw [if_neg (by simp [hw])]
        exact skip env hI h
      · rename_i t hge
        have hden := hI.env.get s
        rw [hge] at hden
        have ht : a.tmps[s]? = some (.bool t) := by
          have := (den_plain hden).1
          rw [Array.getD_eq_getD_getElem?] at this
          cases ht : a.tmps[s]? with
          | none => rw [ht] at this; cases this
          | some v => rw [ht] at this; simp at this; rw [this]
        have hw : Region.wanted o (yielded ops a.tmps) = (t == want) := by
          simp [Region.wanted, hgd, hy, ht]
        have hsame : ∀ b, t = b → setN env s (vBool b) = env := fun b hb => by subst hb; exact setSame hge
        rcases bB_iff.1 h with ⟨rfl, h⟩ | ⟨rfl, h⟩
        · simp only [force_eq, hsame true rfl] at h
          cases want with
          | true => rw [if_pos (by simp [hw])]; exact .inl (exec env hI h)
          | false => rw [if_neg (by simp [hw])]; exact skip env hI h
        · simp only [force_eq, hsame false rfl] at h
          cases want with
          | false => rw [if_pos (by simp [hw])]; exact .inl (exec env hI h)
          | true => rw [if_neg (by simp [hw])]; exact skip env hI h
      · exact h.elim

theorem DenC.idsLt {ρ : Rho} {w : World} {pos : Option (Nat × Nat × Nat)} {c : CC} {v : Value} (h : DenC ρ w pos c v) : c.idsLt ρ.n := by
  cases c <;> simp only [DenC] at h <;> simp only [CC.idsLt]
  case ptr => exact h.1
  case eptr => exact h.1
  case row => exact h.1
  case map => exact h.1
  case fn => exact h.1
theorem DenR.idsLt {ρ : Rho} {w : World} {r : RV} {v : Value} (h : DenR ρ w r v) : r.idsLt ρ.n := by
  cases r with
  | one c => exact DenC.idsLt h
  | agg cs =>
    obtain ⟨vs, _, _, hc⟩ := h
    intro c hc'
    obtain ⟨i, hi⟩ := List.getElem?_of_mem hc'
    obtain ⟨u, _, hd⟩ := hc i c hi
    exact hd.idsLt
theorem DenV.idsLt {ρ : Rho} {w : World} {c : CV} {v : Value} (h : DenV ρ w c v) : c.idsLt ρ.n := by
  cases c with
  | junk => trivial
  | undef => trivial
  | rv r => exact DenR.idsLt h
  | tup rs =>
    obtain ⟨vs, _, _, hc⟩ := h
    intro r hr
    obtain ⟨i, hi⟩ := List.getElem?_of_mem hr
    obtain ⟨u, _, hd⟩ := hc i r hi
    exact hd.idsLt
theorem BkRel.idsLt {ρ : Rho} {w : World} {id : Nat} {b : Bk} (h : BkRel ρ w id b) : b.idsLt ρ.n := by
  cases b with
  | dead => trivial
  | var cs =>
    obtain ⟨cur, _, hc⟩ := h
    intro c hc'
    obtain ⟨i, hi⟩ := List.getElem?_of_mem hc'
    obtain ⟨u, _, hd⟩ := hc i c hi
    exact hd.idsLt
  | row esz elems =>
    obtain ⟨h1, h2, h3, h4, h5⟩ := h
    intro cs hcs c hc'
    obtain ⟨i, hi⟩ := List.getElem?_of_mem hcs
    obtain ⟨j, hj⟩ := List.getElem?_of_mem hc'
    have hlt := (List.getElem?_eq_some_iff.1 hi).1
    obtain ⟨cur, _, _, hc⟩ := h5 (by omega)
    obtain ⟨u, _, hd⟩ := hc i cs j c hi hj
    exact hd.idsLt
  | mp es =>
    obtain ⟨es', ck, _, _, hc⟩ := h
    intro e he
    obtain ⟨i, hi⟩ := List.getElem?_of_mem he
    obtain ⟨e', _, _, hd⟩ := hc i e hi
    exact hd.idsLt
  | it cur left => trivial
theorem MemLe.get : ∀ {m m' : Mem}, MemLe m m' → ∀ (i : Nat) b', m'[i]? = some b' → b' = .dead ∨ m[i]? = some b'
  | _, _, .nil m, i, b', h => by simp at h
  | _, _, .cons (b := b) (b' := b1) (m := m) (m' := m') h hm, i, b', hi => by
    cases i with
    | zero => simp at hi; subst hi; rcases h with rfl | rfl <;> simp
    | succ i => simpa using hm.get i b' (by simpa using hi)
theorem Weak.idsM {n0 : Nat} {s s' : St} {ρ : Rho} {w : World} (h : Weak n0 s s') (hM : MemRel ρ s.mem w) : ∀ b, b ∈ s'.mem → b.idsLt s'.mem.length := by
  rcases h.ids with he | hi
  · intro b hb
    obtain ⟨i, hi⟩ := List.getElem?_of_mem hb
    rcases h.mem.get i b hi with rfl | hb'
    · trivial
    · have := (hM.bk i b hb').idsLt
      rw [he, ← hM.n]
      exact this
  · exact hi

theorem Weak.view {n0 : Nat} {s s' : St} (hw : Weak n0 s s') : View n0 s s' := by
  refine ⟨hw.n0, hw.len, fun ρ w hM0 => ?_⟩
  obtain ⟨hM, hlive⟩ := hM0.weak hw.mem (hw.idsM hM0)
  refine ⟨{ ρ with n := s'.mem.length }, hM, ⟨fun _ _ => rfl, fun _ h => h, fun _ h => .inl h, fun k hk => ⟨k, hlive k hk, rfl⟩⟩, fun i c hi => ?_⟩
  rcases hw.env i c hi with rfl | ⟨hi', hids⟩
  · have hlt : i < s.env.length := by
      rw [← hw.len]; exact (List.getElem?_eq_some_iff.1 hi).1
    exact ⟨_, List.getElem?_eq_getElem hlt, fun _ _ => trivial⟩
  · refine ⟨c, hi', fun v hd => ?_⟩
    have hids' : c.idsLt s'.mem.length := by
      rcases hids with he | hids
      · rw [he, ← hM0.n]; exact hd.idsLt
      · exact hids
    exact hd.cut hids'
theorem Inv.weak {st st' : St} {ρ : Rho} {a : Act} {w : World} (hI : Inv N ρ0 m0 w0 st ρ a w) (hM0 : ρ0.n = m0.length) (hw : View m0.length st st') : ∃ ρ', Inv N ρ0 m0 w0 st' ρ' a w := by
  obtain ⟨ρ', hM, hc, hd⟩ := hw.go ρ w hI.mem
  refine ⟨ρ', ⟨by rw [hM0, hM.n]; exact hw.hn, fun id hid => (hc.loc id (by rw [← hM0]; exact hid)).trans (hI.ext.loc id hid), fun b hb => hc.S b (hI.ext.S b hb), fun b hb => ?_, fun k hk => ?_, hI.ext.frame, hI.ext.size, hI.ext.os, hI.ext.tape, hI.ext.output⟩, hM, ?_, hI.defers.s hc.S, hI.hN, hw.hn⟩
  · rcases hc.S' b hb with h | ⟨k, hk, rfl⟩
    · exact hI.ext.S' b h
    · exact .inr (hI.ext.live k hk)
  · obtain ⟨k0, h0, e0⟩ := hc.live k hk
    rw [← e0]
    exact hI.ext.live k0 h0
  · refine ⟨hI.env.size.trans hw.len.symm, fun i c hi => ?_⟩
    obtain ⟨c0, hi0, hcd⟩ := hd i c hi
    obtain ⟨v, hv, hdv⟩ := hI.env.den i c0 hi0
    exact ⟨v, hv, hcd v hdv⟩

end
end Go.AM
