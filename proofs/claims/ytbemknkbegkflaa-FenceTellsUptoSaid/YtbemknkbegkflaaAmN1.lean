import Derived.Test.YtbemknkbegkflaaAmM3
set_option linter.unusedSimpArgs false
set_option linter.unnecessarySimpa false
set_option linter.unusedVariables false
/-! In a round of a range over a function, as outside; what a range over a function leaves behind. -/
namespace Go.AM
section
variable {P : Program}

/-- every function may be called; we are in a round, or not -/
def FR (r : Option Nat) : Fence := { Fence.wide with round := r }
theorem FR_none : FR none = Fence.wide := rfl
theorem FR_some (l : Nat) : FR (some l) = Fence.wide.inRound l := rfl

theorem lowI_nd {o : Oper} {i : I} (h : lowI P o = some i) : ∀ c, o.op ≠ .defer c := by
  intro c e
  unfold lowI at h
  have h0 : lowI0 P o = none := by unfold lowI0; rw [e]
  rw [h0, e] at h
  cases h
theorem lowOs_nd {ops : Array Oper} : ∀ {l : List Oper} {los : List LO}, lowOs P ops l = some los → ∀ o, o ∈ l → ∀ c, o.op ≠ .defer c
  | [], los, h, o, ho => by cases ho
  | o1 :: r, los, h, o, ho => by
    obtain ⟨lo, lr, rfl, h1, h2⟩ := lowOs_get h o1 r rfl
    cases ho with
    | head =>
      simp only [lowO, Option.bind_eq_bind, Option.bind_eq_some_iff] at h1
      obtain ⟨i, hi, _⟩ := h1
      exact lowI_nd hi
    | tail _ ho => exact lowOs_nd h2 o ho

theorem wpOps_in {r : Option Nat} {ops : Array Oper} {Q : Exit → Act → World → Prop} (hnd : ∀ o, o ∈ ops.toList → ∀ c, o.op ≠ .defer c) (hQ : ¬ LetsOut Q) :
    ∀ (l : List Nat) (a : Act) (w : World), wpOps P ops Q l a w → wpOpsIn (FR r) 0 P ops Q l a w
  | [], a, w, h => h
  | i :: rest, a, w, h => by
    simp only [wpOps] at h
    simp only [wpOpsIn]
    cases ho : ops[i]? with
    | none => rw [ho] at h; exact wpOps_in hnd hQ rest a w h
    | some o =>
      rw [ho] at h
      simp only at h ⊢
      have hmem : o ∈ ops.toList := by
        have := Array.getElem?_eq_some_iff.1 ho
        obtain ⟨h1, h2⟩ := this
        rw [← h2]
        exact Array.mem_toList_iff.2 (Array.getElem_mem h1)
      split
      · rename_i hw
        rw [if_pos hw] at h
        rcases h with h | ⟨_, h⟩
        · refine ⟨fun _ _ => trivial, ?_⟩
          have e : o.semAt (FR r).round a.eval = execOp a.eval o := Oper.semAt_eq _ _ _ (hnd o hmem)
          rw [e]
          unfold Oper.wp at h
          have up : ∀ {res : Result Next}, o.upon P a (wpOps P ops Q rest) Q res → o.uponIn (FR r) 0 P a (wpOpsIn (FR r) 0 P ops Q rest) Q res := by
            intro res h
            unfold Oper.upon at h
            split at h
            · exact wpOps_in hnd hQ rest _ _ h
            · exact wpOps_in hnd hQ rest _ _ h
            · exact wpOps_in hnd hQ rest _ _ h
            · refine ⟨by simp [FR, Fence.wide], ?_⟩
              have h2 := (callsIn_wide (n := 0 - 1)).2 h
              have h3 : CallsIn (FR r) (0 - 1) P _ _ _ _ := h2
              refine h3.mono fun e w' hR => ?_
              cases e with
              | returned v => exact wpOps_in hnd hQ rest _ _ hR
              | panicked c => exact hR
              | outgrown => exact hR
            · refine ⟨by simp [FR, Fence.wide], ?_⟩
              intro c cs _
              obtain ⟨v, w', hR, hs⟩ := h c cs
              exact ⟨v, w', wpOps_in hnd hQ rest _ _ hR, (stepsIn_wide.2 hs : StepsIn (Machine.fenced P Fence.wide) P _ _)⟩
            · exact h
            · exact h.elim
          exact up h
        · exact absurd h hQ
      · rename_i hw
        rw [if_neg hw] at h
        exact ⟨fun _ _ => trivial, wpOps_in hnd hQ rest _ _ h⟩

theorem wpIn_loop_ghost {F : Fence} {n : Nat} {γ : Type} {c : Code} {Q : Exit → Act → World → Prop} {a : Act} {w : World} (I : γ → Act → World → Prop) (μ : γ → Nat) (g0 : γ) (h₀ : I g0 a w)
    (round : ∀ g a w, I g a w → c.wpIn F n P (Exit.then (fun a' w' => ∃ g', I g' a' w' ∧ μ g' < μ g) Q) a w) : (Code.loop c).wpIn F n P Q a w := by
  intro b k cs hro hb hr
  have key : ∀ j g a w, μ g = j → I g a w →
      ∃ e a' w', Q e a' w' ∧ ArrivesIn (Machine.fenced P F) P (lone (b.atR a (.code c :: .inLoop c :: k)) cs w) b k cs e a' w' := by
    intro j
    induction j using Nat.strongRecOn with
    | _ j ih =>
      intro g a w hn hI
      obtain ⟨e, a₁, w₁, hq, harr⟩ := round g a w hI b (.inLoop c :: k) cs hro hb hr
      cases e with
      | normal =>
        obtain ⟨g₁, hI₁, hlt⟩ := hq
        obtain ⟨e₂, a₂, w₂, hq₂, harr₂⟩ := ih (μ g₁) (hn ▸ hlt) g₁ a₁ w₁ rfl hI₁
        exact ⟨e₂, a₂, w₂, hq₂, .of_steps (StepsIn.trans harr (.one (fenced_calm hb hr rfl) stepR_inLoop)) harr₂⟩
      | exit id => exact ⟨_, a₁, w₁, hq, .pass (x := .inLoop c) rfl (fun _ _ => .inl (by simp)) harr⟩
      | goto l => exact ⟨_, a₁, w₁, hq, .pass (x := .inLoop c) rfl (fun _ _ => .inl (by simp)) harr⟩
      | ret => exact ⟨_, a₁, w₁, hq, .pass (x := .inLoop c) rfl (fun _ _ => .inl (by simp)) harr⟩
      | panic ch => exact ⟨_, a₁, w₁, hq, .pass (x := .inLoop c) rfl (fun _ _ => .inl (by simp)) harr⟩
      | outgrown => exact ⟨_, a₁, w₁, hq, .pass (x := .inLoop c) rfl (fun _ _ => .inl (by simp)) harr⟩
  obtain ⟨e, a', w', hq, harr⟩ := key _ g0 a w rfl h₀
  exact ⟨e, a', w', hq, .of_steps (.one (fenced_calm hb hr rfl) stepR_loop) harr⟩

/-! ### the world's other blocks -/
/-- the blocks that are known of lie as they lay -/
structure Lies (ρ : Rho) (m : Mem) (w w' : World) : Prop where
  size : w.heap.size ≤ w'.heap.size
  S : ∀ b, ρ.S b → w'.heap[b]? = w.heap[b]?
  live : ∀ k, Live ρ m k → w'.heap[(ρ.loc k).b]? = w.heap[(ρ.loc k).b]?

theorem Lies.goes {ρ : Rho} {m : Mem} {w w' : World} (h : Lies ρ m w w') : Goes ρ w ρ w' := ⟨Nat.le_refl _, fun _ _ => rfl, fun _ h => h, h.S⟩

theorem MemRel.lies {ρ : Rho} {m : Mem} {w w' : World} (hM : MemRel ρ m w) (h : Lies ρ m w w') : MemRel ρ m w' := by
  have g := h.goes
  refine ⟨hM.n, fun b hb => Nat.lt_of_lt_of_le (hM.S b hb) h.size, fun k hk => ⟨Nat.lt_of_lt_of_le (hM.live k hk).1 h.size, (hM.live k hk).2⟩, hM.inj, fun id b hb => ?_, fun id i j esz el ho hcap => ?_⟩
  · have h1 := hM.bk id b hb
    cases b with
    | dead => trivial
    | var cs =>
      obtain ⟨cur, hcur, h2⟩ := h1
      exact ⟨cur, hcur.same (h.live (.root id) ⟨_, hb, by simp, by simp⟩), fun j c hj => let ⟨u, hu, hd⟩ := h2 j c hj; ⟨u, hu, DenC.goes g (by simp) hd⟩⟩
    | row esz elems =>
      obtain ⟨h2, h3, h4, h5, h6⟩ := h1
      refine ⟨h2, h3, h4, h5, fun hp => ?_⟩
      obtain ⟨cur, hcur, h7, h8⟩ := h6 hp
      exact ⟨cur, hcur.same (h.live (.root id) ⟨_, hb, by simp, fun _ => hp⟩), h7, fun i cs j c hi hj => let ⟨u, hu, hd⟩ := h8 i cs j c hi hj; ⟨u, hu, DenC.goes g (by
        intro id' i' j' e'
        cases e'
        rw [hM.n]
        exact (List.getElem?_eq_some_iff.1 hb).1) hd⟩⟩
    | mp es =>
      obtain ⟨es', ck, h2, h3, h4⟩ := h1
      exact ⟨es', ck, ⟨(h.live (.root id) ⟨_, hb, by simp, by simp⟩).trans h2.1, h2.2⟩, h3, fun i e he => let ⟨e', he', hk, hd⟩ := h4 i e he; ⟨e', he', hk, DenR.goes g hd⟩⟩
    | it cur left =>
      obtain ⟨mb, seen, ck, es', h2, h3, h4, h5, h6⟩ := h1
      exact ⟨mb, seen, ck, es', (h.live (.root id) ⟨_, hb, by simp, by simp⟩).trans h2, h3, h4, (h.S mb h4).trans h5, h6⟩
  · obtain ⟨cur, hcur, h2, h3, h4⟩ := hM.own id i j esz el ho hcap
    exact ⟨cur, hcur.same (h.live (.sub id i j) ⟨⟨_, _, ho⟩, hcap⟩), h2, h3, fun i cs j d hi hj => let ⟨u, hu, hd⟩ := h4 i cs j d hi hj; ⟨u, hu, DenD.mono g.S g.heap hd⟩⟩

theorem EnvRel.goes {ρ ρ' : Rho} {w w' : World} {env : List CV} {tmps : Array Value} (g : Goes ρ w ρ' w') (hE : EnvRel ρ w env tmps) : EnvRel ρ' w' env tmps :=
  ⟨hE.size, fun i c hi => let ⟨v, hv, hd⟩ := hE.den i c hi; ⟨v, hv, DenV.goes g hd⟩⟩

theorem Dfs.lies {N : Nat} {ρ : Rho} {m : Mem} {w w' : World} {ds : List Deferred} (h : Lies ρ m w w') (hd : Dfs N ρ w ds) : Dfs N ρ w' ds := by
  obtain ⟨Ds, h1, h2, h3⟩ := hd
  exact ⟨Ds, h1, h2, fun D hD => ⟨(h3 D hD).1, (h3 D hD).2.1, (h.S D (h3 D hD).2.1).trans (h3 D hD).2.2⟩⟩

variable {N : Nat} {ρ0 : Rho} {m0 : Mem} {w0 : World}
theorem Inv.lies {st : St} {ρ : Rho} {a : Act} {w w' : World} (hI : Inv N ρ0 m0 w0 st ρ a w) (h : Lies ρ st.mem w w') (hb : ∀ b, b < w0.heap.size → w'.heap[b]? = w.heap[b]?)
    (ho : w'.os = w.os) (ht : w'.tape = w.tape) (hu : w'.output = w.output) : Inv N ρ0 m0 w0 st ρ a w' :=
  ⟨⟨hI.ext.n, hI.ext.loc, hI.ext.S, hI.ext.S', hI.ext.live, fun b hb' hk => (hb b hb').trans (hI.ext.frame b hb' hk), Nat.le_trans hI.ext.size h.size, ho.trans hI.ext.os, ht.trans hI.ext.tape, hu.trans hI.ext.output⟩,
    hI.mem.lies h, hI.env.goes h.goes, hI.defers.lies h, hI.hN, hI.n0⟩

/-- a block that is not known of -/
def Off (ρ : Rho) (m : Mem) (b : Nat) : Prop := ¬ ρ.S b ∧ ∀ k, Live ρ m k → (ρ.loc k).b ≠ b
theorem Off.ext {ρ ρ' : Rho} {m m' : Mem} {w w' : World} {b : Nat} (h : Off ρ m b) (x : Ext ρ m w ρ' m' w') (hb : b < w.heap.size) : Off ρ' m' b := by
  refine ⟨fun hs => ?_, fun k hk e => ?_⟩
  · rcases x.S' b hs with h1 | h1 | ⟨k, hk, e⟩
    · exact h.1 h1
    · omega
    · exact h.2 k hk e
  · rcases x.live k hk with h1 | ⟨k0, h0, e0⟩
    · omega
    · exact h.2 k0 h0 (e0.trans e)
theorem Off.chg {n0 : Nat} {ρ ρ' : Rho} {m m' : Mem} {b : Nat} (h : Off ρ m b) (x : Chg n0 ρ m ρ' m') : Off ρ' m' b := by
  refine ⟨fun hs => ?_, fun k hk e => ?_⟩
  · rcases x.S' b hs with h1 | ⟨k, hk, e⟩
    · exact h.1 h1
    · exact h.2 k hk e
  · obtain ⟨k0, h0, e0⟩ := x.live k hk
    exact h.2 k0 h0 (e0.trans e)
theorem Lies.put {ρ : Rho} {m : Mem} {w : World} {l : Nat} (h : Off ρ m l) (o : Obj) : Lies ρ m w (w.putObj l o) :=
  ⟨by simp, fun b hb => World.putObj_heap_other (by rintro rfl; exact h.1 hb), fun k hk => World.putObj_heap_other (h.2 k hk)⟩
theorem Inv.put {st : St} {ρ : Rho} {a : Act} {w : World} {l : Nat} (hI : Inv N ρ0 m0 w0 st ρ a w) (h : Off ρ st.mem l) (hl : w0.heap.size ≤ l) (o : Obj) : Inv N ρ0 m0 w0 st ρ a (w.putObj l o) :=
  hI.lies (Lies.put h o) (fun b hb => World.putObj_heap_other (by omega)) rfl rfl rfl
theorem Inv.view {st st' : St} {ρ : Rho} {a : Act} {w : World} (hI : Inv N ρ0 m0 w0 st ρ a w) (hM0 : ρ0.n = m0.length) (hw : View m0.length st st') :
    ∃ ρ', Inv N ρ0 m0 w0 st' ρ' a w ∧ ∀ b, Off ρ st.mem b → Off ρ' st'.mem b := by
  obtain ⟨ρ', hM, hc, hd⟩ := hw.go ρ w hI.mem
  refine ⟨ρ', ⟨⟨by rw [hM0, hM.n]; exact hw.hn, fun id hid => (hc.loc id (by rw [← hM0]; exact hid)).trans (hI.ext.loc id hid), fun b hb => hc.S b (hI.ext.S b hb), fun b hb => ?_, fun k hk => ?_, hI.ext.frame, hI.ext.size, hI.ext.os, hI.ext.tape, hI.ext.output⟩, hM, ?_, hI.defers.s hc.S, hI.hN, hw.hn⟩, fun b h => h.chg hc⟩
  · rcases hc.S' b hb with h | ⟨k, hk, rfl⟩
    · exact hI.ext.S' b h
    · exact .inr (hI.ext.live k hk)
  · obtain ⟨k0, h0, e0⟩ := hc.live k hk
    rw [← e0]
    exact hI.ext.live k0 h0
  · refine ⟨hI.env.size.trans hw.len.symm, fun i c hi => ?_⟩
    obtain ⟨c0, hi0, hcd⟩ := hd i c hi
    obtain ⟨v, hv, hdv⟩ := hI.env.den i c0 hi0
    exact ⟨v, hv, hcd v hdv⟩

/-! ### the captured cells -/
theorem killL_len : ∀ (m : Mem) (ids : List Nat), (killL m ids).length = m.length
  | m, [] => rfl
  | m, id :: r => by rw [killL, killL_len, setN_eq, List.length_set]
theorem killL_get : ∀ (m : Mem) (ids : List Nat) (i : Nat) (bk : Bk), (killL m ids)[i]? = some bk → bk = .dead ∨ (m[i]? = some bk ∧ i ∉ ids)
  | m, [], i, bk, h => .inr ⟨h, by simp⟩
  | m, id :: r, i, bk, h => by
    rcases killL_get _ r i bk h with h | ⟨h, hn⟩
    · exact .inl h
    · rw [setN_eq] at h
      by_cases hi : id = i
      · subst hi
        have hlt : id < m.length := by
          have := (List.getElem?_eq_some_iff.1 h).1
          simpa using this
        rw [List.getElem?_set_self hlt] at h
        exact .inl (by cases h; rfl)
      · rw [List.getElem?_set_ne hi] at h
        exact .inr ⟨h, by simp; exact ⟨fun e => hi e.symm, hn⟩⟩
theorem killL_le : ∀ (m : Mem) (ids : List Nat), MemLe m (killL m ids) := by
  have one : ∀ (m : Mem) (id : Nat), MemLe m (setN m id .dead) := by
    intro m
    induction m with
    | nil => intro id; exact .nil _
    | cons b r ih =>
      intro id
      cases id with
      | zero => exact .cons (.inr rfl) (by
          clear ih
          induction r with
          | nil => exact .nil _
          | cons b r ih => exact .cons (.inl rfl) ih)
      | succ id => exact .cons (.inl rfl) (ih id)
  have tr : ∀ {a b c : Mem}, MemLe a b → MemLe b c → MemLe a c := by
    intro a b c h1
    induction h1 generalizing c with
    | nil m => intro h2; cases h2; exact .nil _
    | cons h hm ih =>
      intro h2
      cases h2 with
      | nil => exact .nil _
      | cons h' hm' =>
        refine .cons ?_ (ih hm')
        rcases h' with rfl | rfl
        · exact h
        · exact .inr rfl
  intro m ids
  induction ids generalizing m with
  | nil =>
    induction m with
    | nil => exact .nil _
    | cons b r ih => exact .cons (.inl rfl) ih
  | cons id r ih => exact tr (one m id) (ih _)

theorem capsAre_get : ∀ {m : Mem} {ids : List Nat} {cs : List Value}, capsAre m ids cs → ids.length = cs.length ∧ ∀ (i : Nat) id v, ids[i]? = some id → cs[i]? = some v → m[id]? = some (.var [.dat (.val v)]) ∧ plainV v = true
  | m, [], [], _ => ⟨rfl, by simp⟩
  | m, id :: r, v :: vs, h => by
    obtain ⟨h1, h2⟩ := h
    obtain ⟨e, g⟩ := capsAre_get h2
    refine ⟨by simp [e], fun i id' v' hi hv => ?_⟩
    cases i with
    | zero => simp at hi hv; subst hi hv; rw [← nth_eq]; exact h1
    | succ i => exact g i id' v' (by simpa using hi) (by simpa using hv)

end
end Go.AM
