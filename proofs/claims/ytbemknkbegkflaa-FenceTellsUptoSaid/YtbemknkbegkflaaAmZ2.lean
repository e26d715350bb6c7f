import Derived.Test.YtbemknkbegkflaaAmZ1
set_option linter.unusedVariables false
set_option linter.unusedSimpArgs false
set_option linter.unnecessarySimpa false
/-! A call that looks at one variable of its caller's. -/
namespace Go.AM
section
variable {P : Program}

theorem CC.ren_isD {σ : Nat → Nat} {c : CC} (h : c.isD = true) : c.ren σ = c := by
  cases c
  case fn f caps =>
    cases caps with
    | nil => rfl
    | cons c r => simp [CC.isD] at h
  all_goals first | rfl | simp [CC.isD] at h
theorem RV.ren_isD {σ : Nat → Nat} {r : RV} (h : r.isD = true) : r.ren σ = r := by
  cases r with
  | one c => exact congrArg RV.one (CC.ren_isD h)
  | agg cs =>
    refine congrArg RV.agg ?_
    conv => rhs; rw [← List.map_id cs]
    exact List.map_congr_left fun c hc => CC.ren_isD (List.all_eq_true.1 h c hc)
theorem CV.ren_isDT {σ : Nat → Nat} {v : CV} (h : v.isDT = true) : v.ren σ = v := by
  cases v with
  | rv r => exact congrArg CV.rv (RV.ren_isD h)
  | tup rs =>
    refine congrArg CV.tup ?_
    conv => rhs; rw [← List.map_id rs]
    exact List.map_congr_left fun c hc => RV.ren_isD (List.all_eq_true.1 h c hc)
  | _ => rfl
theorem Bk.ren_varD {σ : Nat → Nat} (ds : List Dt) : (Bk.var (ds.map .dat)).ren σ = .var (ds.map .dat) := by
  simp [Bk.ren, CC.ren, Function.comp_def]
theorem weave_same {m : Mem} {id : Nat} {b : Bk} (h : nth m id = some b) : weave m [id] [b] = m := by
  rw [nth_eq] at h
  simp only [weave, app2_eq, List.append_nil, setN_eq]
  exact List.ext_getElem? fun i => by
    rw [List.getElem?_set]
    split
    · rename_i hi
      subst hi
      have := (List.getElem?_eq_some_iff.1 h).1
      rw [if_pos this, h]
    · rfl
/-- a call that borrows one variable, and leaves it as it was -/
theorem acall_look {f : Nat} {args args0 : List CV} {m : Mem} {cs : List Dt} {r0 : CV} {K : CV → Mem → Prop} (id : Nat) (hb : nth m id = some (.var (cs.map .dat))) (hargs : args = args0.map (CV.ren (sg [id] m.length)))
    (hr : r0.isDT = true) (h : ∀ K : CV → Mem → Prop, K r0 [.var (cs.map .dat)] → ACall P f args0 [.var (cs.map .dat)] K) (hK : K r0 m) : ACall P f args m K := by
  have hid : id < m.length := by
    rw [nth_eq] at hb
    exact (List.getElem?_eq_some_iff.1 hb).1
  refine acall_borrow (K0 := fun r m1 => r = r0 ∧ m1 = [.var (cs.map .dat)]) [id] m.length rfl rfl rfl ?_ hargs (fun i b' hi => ?_) (h _ ⟨rfl, rfl⟩) (fun r m1 hr1 => ?_)
  · simp [allLt, hid]
  · cases i with
    | zero =>
      simp at hi
      subst hi
      refine .inr ⟨fun h => h, .var (cs.map .dat), ?_, .varDE rfl⟩
      rw [nth_eq] at hb
      exact hb
    | succ i => simp at hi
  · obtain ⟨rfl, rfl⟩ := hr1
    refine ⟨Nat.le_refl _, ?_⟩
    rw [CV.ren_isDT hr]
    have : weave m [id] (renM (sg [id] m.length) [.var (cs.map .dat)]) = m := by
      show weave m [id] [Bk.ren _ _] = m
      rw [Bk.ren_varD]
      exact weave_same hb
    rw [this]
    exact hK
/-- of what a call left in memory only the one variable is told -/
theorem acall_trim {f : Nat} {args : List CV} {cs : List Dt} {r0 : CV} {K : CV → Mem → Prop} (hr : r0.isDT = true)
    (h : ACall P f args [.var (cs.map .dat)] fun r m => r = r0 ∧ ∃ ex, m = .var (cs.map .dat) :: ex) (hK : K r0 [.var (cs.map .dat)]) : ACall P f args [.var (cs.map .dat)] K := by
  refine acall_view h fun r m1 ⟨h1, ex, h2⟩ => ⟨r0, [.var (cs.map .dat)], ?_, hK⟩
  subst h1; subst h2
  refine View.of (ex.length + 1) [0] [] (by simp) rfl rfl rfl rfl (by simp [allLt]) ?_ ?_
  · exact .eq (CV.ren_isDT hr) .nil
  · exact .put (by simp [memN]) rfl (.varDE rfl) (.nil _)
/-- the last row is said anew -/
theorem VwB.snoc {σ : Nat → Nat} {m : Mem} {Z : Nat → Prop} {id s : Nat} {R R' : List (List CC)} {x y : List CC} (hR : R'.map (fun cs => cs.map (CC.ren σ)) = R) (hx : x.length = y.length)
    (hxy : ∀ (j : Nat) c c', x[j]? = some c → y[j]? = some c' → VwC σ m Z (some id) c c') : VwB σ m Z id (.row s (R ++ [x])) (.row s (R' ++ [y])) := by
  subst hR
  refine .row s (by simp) (fun i cs cs' h1 h2 => ?_) (fun i cs cs' j c c' h1 h2 h3 h4 => ?_)
  · rcases Nat.lt_or_ge i R'.length with h | h
    · rw [List.getElem?_append_left (by simpa using h), List.getElem?_map] at h1
      rw [List.getElem?_append_left h] at h2
      rw [h2] at h1
      cases h1
      simp
    · rw [List.getElem?_append_right (by simpa using h), List.length_map] at h1
      rw [List.getElem?_append_right h] at h2
      cases hi : i - R'.length with
      | zero =>
        rw [hi] at h1 h2
        cases h1
        cases h2
        exact hx
      | succ n => rw [hi] at h1; simp at h1
  · rcases Nat.lt_or_ge i R'.length with h | h
    · rw [List.getElem?_append_left (by simpa using h), List.getElem?_map] at h1
      rw [List.getElem?_append_left h] at h2
      rw [h2] at h1
      cases h1
      rw [List.getElem?_map, h4] at h3
      cases h3
      exact .ren c'
    · rw [List.getElem?_append_right (by simpa using h), List.length_map] at h1
      rw [List.getElem?_append_right h] at h2
      cases hi : i - R'.length with
      | zero =>
        rw [hi] at h1 h2
        cases h1
        cases h2
        exact hxy j c c' h3 h4
      | succ n => rw [hi] at h1; simp at h1
theorem MemVw.keepB {σ : Nat → Nat} {m : Mem} {Z : Nat → Prop} {k : Nat} {b : Bk} {r : Mem} (hz : ¬ Z (σ k)) (hb : nth m (σ k) = some b) (hr : b.ren σ = b) (h : MemVw σ m Z (k + 1) r) : MemVw σ m Z k (b :: r) := by
  cases b with
  | dead => exact .dead h
  | _ => exact .put hz hb (.eq hr (by simp)) h
/-! arguments of which less is said: an empty slice is data, in an aggregate too -/
inductive CCLe : CC → CC → Prop
  | same (c : CC) : CCLe c c
  | esl (s : Nat) : CCLe .esl (.dat (.sl s []))
  | no : CCLe .esl (.dat (.val (.slice none 0 0)))
theorem CCLe.den {c c' : CC} (h : CCLe c c') {ρ : Rho} {w : World} {v : Value} (hd : DenC ρ w none c v) : DenC ρ w none c' v := by
  cases h with
  | same => exact hd
  | esl s =>
    obtain ⟨a, rfl⟩ := hd
    exact .nil s a 0 (Nat.zero_le _)
  | no =>
    obtain ⟨a, rfl⟩ := hd
    exact .no a
inductive CsLe : List CC → List CC → Prop
  | nil : CsLe [] []
  | cons {c c' : CC} {r r' : List CC} (h : CCLe c c') (t : CsLe r r') : CsLe (c :: r) (c' :: r')
theorem CsLe.len {a b : List CC} (h : CsLe a b) : a.length = b.length := by
  induction h <;> simp [*]
theorem CsLe.get {a b : List CC} (h : CsLe a b) : ∀ (i : Nat) c', b[i]? = some c' → ∃ c, a[i]? = some c ∧ CCLe c c' := by
  induction h with
  | nil => intro i c' h; simp at h
  | cons h t ih =>
    intro i c' hi
    cases i with
    | zero => simp at hi; subst hi; exact ⟨_, rfl, h⟩
    | succ i => simpa using ih i c' (by simpa using hi)
inductive ArgsL : List CV → List CV → Prop
  | nil : ArgsL [] []
  | same (c : CV) {r r' : List CV} (t : ArgsL r r') : ArgsL (c :: r) (c :: r')
  | one {c c' : CC} {r r' : List CV} (h : CCLe c c') (t : ArgsL r r') : ArgsL (.rv (.one c) :: r) (.rv (.one c') :: r')
  | agg {cs cs' : List CC} {r r' : List CV} (h : CsLe cs cs') (t : ArgsL r r') : ArgsL (.rv (.agg cs) :: r) (.rv (.agg cs') :: r')
theorem ArgsL.len {a b : List CV} (h : ArgsL a b) : a.length = b.length := by
  induction h <;> simp [*]
theorem ArgsL.get {a b : List CV} (h : ArgsL a b) : ∀ (i : Nat) c', b[i]? = some c' → ∃ c, a[i]? = some c ∧ ∀ ρ w v, DenV ρ w c v → DenV ρ w c' v := by
  induction h with
  | nil => intro i c' h; simp at h
  | same c t ih =>
    intro i c' hi
    cases i with
    | zero => simp at hi; subst hi; exact ⟨_, rfl, fun _ _ _ h => h⟩
    | succ i => simpa using ih i c' (by simpa using hi)
  | one h t ih =>
    intro i c' hi
    cases i with
    | zero => simp at hi; subst hi; exact ⟨_, rfl, fun _ _ _ hd => h.den hd⟩
    | succ i => simpa using ih i c' (by simpa using hi)
  | agg h t ih =>
    intro i c' hi
    cases i with
    | zero =>
      simp at hi
      subst hi
      refine ⟨_, rfl, fun ρ w v hd => ?_⟩
      obtain ⟨vs, hv, hl, hc⟩ := hd
      exact ⟨vs, hv, hl.trans h.len, fun i c' hi => let ⟨c, hc', hle⟩ := h.get i c' hi; let ⟨u, hu, hdu⟩ := hc i c hc'; ⟨u, hu, hle.den hdu⟩⟩
    | succ i => simpa using ih i c' (by simpa using hi)
theorem acall_le {f : Nat} {args args' : List CV} {m : Mem} {K : CV → Mem → Prop} (ha : ArgsL args args') (h : ACall P f args' m K) : ACall P f args m K := by
  refine ⟨h.1, fun ρ w vs hM hl hd => h.2 ρ w vs hM (hl.trans ha.len) fun i c' hi => ?_⟩
  obtain ⟨c, hc, hcd⟩ := ha.get i c' hi
  obtain ⟨v, hv, hdv⟩ := hd i c hc
  exact ⟨v, hv, hcd _ _ _ hdv⟩
/-- what is known ahead of a call is said in another way -/
theorem acall_pre {f : Nat} {args args' : List CV} {m m' : Mem} {K : CV → Mem → Prop} (hv : View m.length ⟨args, m⟩ ⟨args', m'⟩) (h : ACall P f args' m' K) : ACall P f args m K := by
  refine ⟨h.1, fun ρ w vs hM hl hd => ?_⟩
  obtain ⟨ρ', hM', hc, hdv⟩ := hv.go ρ w hM
  have hlen : args'.length = args.length := hv.len
  refine (h.2 ρ' w vs hM' (hl.trans hlen.symm) fun i c' hi => ?_).mono fun e w' ⟨v, r, m1, ρ1, he, hk, hM1, hd1, hx⟩ => ?_
  · obtain ⟨c, hc0, hd'⟩ := hdv i c' hi
    obtain ⟨v, hv, hden⟩ := hd i c hc0
    exact ⟨v, hv, hd' v hden⟩
  · have hx0 : Ext ρ m w ρ' m' w := ⟨by rw [hM.n, hM'.n]; exact hv.hn, fun id hid => hc.loc id (by rw [← hM.n]; exact hid), hc.S, fun b hb => (hc.S' b hb).elim .inl fun h => .inr (.inr h), fun k hk => .inr (hc.live k hk), fun _ _ _ => rfl, Nat.le_refl _, rfl, rfl, rfl⟩
    exact ⟨v, r, m1, ρ1, he, hk, hM1, hd1, hx0.trans hx⟩
end
end Go.AM
