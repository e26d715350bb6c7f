import Derived.Test.YtbemknkbegkflaaAmX
set_option linter.unusedVariables false
set_option linter.unusedSimpArgs false
set_option linter.unnecessarySimpa false
/-! More ways of saying: an empty slice is a row; loops whose memory is told; cells one by one. -/
namespace Go.AM
section
variable {P : Program}

/-- an empty slice is a row of its own, of no room -/
theorem View.esl {n0 : Nat} {e : List CV} {m : Mem} (t esz n : Nat) (hn : m.length = n) (he : getE e t = .rv (.one .esl)) (h0 : Nat.ble n0 n = true) :
    View n0 ⟨e, m⟩ ⟨setN e t (.rv (.one (.row n esz 0 none))), app2 m [.row esz []]⟩ := by
  subst hn
  have h0 := Nat.le_of_ble_eq_true h0
  rw [setN_eq, app2_eq]
  refine ⟨by simp; omega, by simp, fun ρ w hM => ?_⟩
  have hn : ρ.n = m.length := hM.n
  let ρ' : Rho := { n := m.length + 1, loc := fun k => if k.id = m.length then ⟨0, 0, 0, 0⟩ else ρ.loc k, S := ρ.S }
  have hloc : ∀ k : Key, k.id < ρ.n → ρ'.loc k = ρ.loc k := fun k hk => by simp only [ρ']; rw [if_neg (by omega)]
  have g : Goes ρ w ρ' w := ⟨by show ρ.n ≤ m.length + 1; omega, hloc, fun _ h => h, fun _ _ => rfl⟩
  have hlive : ∀ k, Live ρ' (m ++ [.row esz []]) k → Live ρ m k := by
    intro k hk
    have hlt := hk.id_lt
    simp at hlt
    cases k with
    | root id =>
      obtain ⟨bk, hb, hnd, hcap⟩ := hk
      simp only [Key.id] at hlt
      rcases Nat.lt_or_ge id m.length with h | h
      · rw [List.getElem?_append_left h] at hb
        rw [hloc (.root id) (by simp only [Key.id]; omega)] at hcap
        exact ⟨bk, hb, hnd, hcap⟩
      · have : id = m.length := by omega
        subst this
        simp at hb
        subst hb
        have := hcap ⟨_, _, rfl⟩
        simp [ρ', Key.id] at this
    | sub id i j =>
      obtain ⟨⟨s, el, es, rows, cs, hb, hi, hj⟩, hcap⟩ := hk
      simp only [Key.id] at hlt
      rcases Nat.lt_or_ge id m.length with h | h
      · rw [List.getElem?_append_left h] at hb
        rw [hloc (.sub id i j) (by simp only [Key.id]; omega)] at hcap
        exact ⟨⟨s, el, es, rows, cs, hb, hi, hj⟩, hcap⟩
      · have : id = m.length := by omega
        subst this
        simp at hb
        obtain ⟨_, rfl⟩ := hb
        simp at hi
  have hloc' : ∀ k, Live ρ m k → ρ'.loc k = ρ.loc k := fun k hk => hloc k (by rw [hn]; exact hk.id_lt)
  refine ⟨ρ', ⟨by simp [ρ'], hM.S, fun k hk => ?_, fun k k' hk hk' hee => ?_, fun id b hb => ?_, fun id i j s el ho hcap => ?_⟩, ⟨fun id hid => hloc (.root id) (by simp only [Key.id]; omega), fun _ h => h, fun _ h => .inl h, fun k hk => ⟨k, hlive k hk, (by rw [hloc' k (hlive k hk)])⟩⟩, fun i c' hi => ?_⟩
  · rw [hloc' k (hlive k hk)]
    exact hM.live k (hlive k hk)
  · rw [hloc' k (hlive k hk), hloc' k' (hlive k' hk')] at hee
    exact hM.inj k k' (hlive k hk) (hlive k' hk') hee
  · rcases Nat.lt_or_ge id m.length with h | h
    · rw [List.getElem?_append_left h] at hb
      exact (hM.bk id b hb).goes g (by omega) fun _ _ => rfl
    · have hlt := (List.getElem?_eq_some_iff.1 hb).1
      simp at hlt
      have : id = m.length := by omega
      subst this
      simp at hb
      subst hb
      simp [BkRel, ρ', Key.id]
  · have hk : Live ρ m (.sub id i j) := hlive (.sub id i j) ⟨⟨_, _, ho⟩, hcap⟩
    have hid := hk.id_lt
    simp only [Key.id] at hid
    rw [hloc' _ hk] at hcap ⊢
    obtain ⟨es, rows, cs, hb, hi, hj⟩ := ho
    rw [List.getElem?_append_left hid] at hb
    obtain ⟨cur, hc, q1, q2, q3⟩ := hM.own id i j s el ⟨es, rows, cs, hb, hi, hj⟩ hcap
    exact ⟨cur, hc, q1, q2, q3⟩
  · simp only at hi
    have hlt := (List.getElem?_eq_some_iff.1 hi).1
    simp at hlt
    rw [List.getElem?_set] at hi
    split at hi
    · rename_i hti
      subst hti
      rw [if_pos hlt] at hi
      cases hi
      refine ⟨.rv (.one .esl), ?_, fun v hd => ?_⟩
      · rw [getE_eq, List.getElem?_eq_getElem hlt] at he
        rw [List.getElem?_eq_getElem hlt]
        simpa using he
      · obtain ⟨a, rfl⟩ := hd
        simp [DenV, DenR, DenC, ρ', Key.id]
    · exact ⟨c', hi, fun v hd => DenV.goes g hd⟩

/-- a loop: what changes from round to round, and what memory holds -/
theorem loop_mem {n0 : Nat} {b : LC} {K : Ex → St → Prop} {s : St} {α : Type} (J : α → Prop) (f : α → List (Nat × CV)) (M : α → Mem) (μ : α → Nat) (a0 : α) (h0 : J a0)
    (start : View n0 s ⟨updE s.env (f a0), M a0⟩)
    (round : ∀ a, J a → aw P n0 b (loopK n0 J (fun a => ⟨updE s.env (f a), M a⟩) μ (μ a) K) ⟨updE s.env (f a), M a⟩) : aw P n0 (.loop b) K s :=
  ⟨α, J, fun a => ⟨updE s.env (f a), M a⟩, μ, ⟨a0, h0, start⟩, round⟩

theorem readN_one : ∀ {cs : List CC} {k : Nat} {c : CC}, cs[k]? = some c → readN cs k 1 = some [c]
  | [], k, c, h => by simp at h
  | x :: r, 0, c, h => by simp at h; subst h; cases r <;> rfl
  | x :: r, k + 1, c, h => by
    show readN r k 1 = _
    exact readN_one (by simpa using h)
theorem writeN_one : ∀ {cs : List CC} {k : Nat} {c : CC}, k < cs.length → writeN cs k [c] = some (cs.set k c)
  | [], k, c, h => by simp at h
  | x :: r, 0, c, h => by cases r <;> rfl
  | x :: r, k + 1, c, h => by
    simp only [writeN, writeN_one (cs := r) (k := k) (c := c) (by simpa using h)]
    rfl
theorem VwB.rowDE {σ : Nat → Nat} {m : Mem} {Z : Nat → Prop} {id s : Nat} {es : List (List CC)} {ds : List (List Dt)} (h : es = dRows ds) : VwB σ m Z id (.row s es) (.row s (dRows ds)) := by
  subst h
  have := VwB.ren' (σ := σ) (m := m) (Z := Z) (id := id) (.row s (dRows ds)) (by simp)
  rwa [Bk.ren_dRows] at this
theorem notF {F : List Nat} {k : Nat} (h : memN F k = false) : ¬ memN F k = true := by rw [h]; simp
theorem VwB.eq {σ : Nat → Nat} {m : Mem} {Z : Nat → Prop} {id : Nat} {b b' : Bk} (h : b'.ren σ = b) (hd : b' ≠ .dead) : VwB σ m Z id b b' := h ▸ .ren' b' hd
theorem VwB.varDE {σ : Nat → Nat} {m : Mem} {Z : Nat → Prop} {id : Nat} {cs : List CC} {ds : List Dt} (h : cs = ds.map .dat) : VwB σ m Z id (.var cs) (.var (ds.map .dat)) := by
  subst h
  have := VwB.ren' (σ := σ) (m := m) (Z := Z) (id := id) (.var (ds.map .dat)) (by simp)
  simpa [Bk.ren, CC.ren, Function.comp_def] using this
theorem readN_all : ∀ {cs : List CC} {n : Nat}, cs.length = n → readN cs 0 n = some cs
  | [], 0, _ => rfl
  | [], n + 1, h => by simp at h
  | x :: r, 0, h => by simp at h
  | x :: r, n + 1, h => by simp only [readN, readN_all (cs := r) (n := n) (by simpa using h)]
theorem writeN_all : ∀ {cs xs : List CC}, xs.length = cs.length → writeN cs 0 xs = some xs
  | [], [], _ => rfl
  | [], x :: xs, h => by simp at h
  | x :: r, [], h => by simp at h
  | x :: r, y :: xs, h => by simp only [writeN, writeN_all (cs := r) (xs := xs) (by simpa using h)]
/-- a row's end is told -/
theorem VwV.hi {σ : Nat → Nat} {m : Mem} {Z : Nat → Prop} {id' id e lo n esz : Nat} {elems : List (List CC)} (hσ : σ id = id') (hb : nth m id' = some (.row esz elems)) (hn : elems.length = n) :
    VwV σ m Z (.rv (.one (.row id' e lo none))) (.rv (.one (.row id e lo (some n)))) := by
  subst hσ; subst hn
  exact .rv (.one (.hi id e lo (by rw [← nth_eq]; exact hb)))
/-- arguments of which less is said -/
inductive ArgsLe : List CV → List CV → Prop
  | nil : ArgsLe [] []
  | same {c : CV} {r r' : List CV} (h : ArgsLe r r') : ArgsLe (c :: r) (c :: r')
  | esl (esz : Nat) {r r' : List CV} (h : ArgsLe r r') : ArgsLe (.rv (.one .esl) :: r) (.rv (.one (.dat (.sl esz []))) :: r')
theorem ArgsLe.len {a b : List CV} (h : ArgsLe a b) : a.length = b.length := by
  induction h <;> simp [*]
theorem ArgsLe.get {a b : List CV} (h : ArgsLe a b) : ∀ (i : Nat) c', b[i]? = some c' → ∃ c, a[i]? = some c ∧ ∀ ρ w v, DenV ρ w c v → DenV ρ w c' v := by
  induction h with
  | nil => intro i c' h; simp at h
  | same h ih =>
    intro i c' hi
    cases i with
    | zero => simp at hi; subst hi; exact ⟨_, rfl, fun _ _ _ h => h⟩
    | succ i => simpa using ih i c' (by simpa using hi)
  | esl esz h ih =>
    intro i c' hi
    cases i with
    | zero =>
      simp at hi
      subst hi
      refine ⟨_, rfl, fun ρ w v hd => ?_⟩
      obtain ⟨a, rfl⟩ := hd
      exact .nil esz a 0 (Nat.zero_le _)
    | succ i => simpa using ih i c' (by simpa using hi)
theorem acall_sub {f : Nat} {args args' : List CV} {m : Mem} {K : CV → Mem → Prop} (ha : ArgsLe args args') (h : ACall P f args' m K) : ACall P f args m K := by
  refine ⟨h.1, fun ρ w vs hM hl hd => h.2 ρ w vs hM (hl.trans ha.len) fun i c' hi => ?_⟩
  obtain ⟨c, hc, hcd⟩ := ha.get i c' hi
  obtain ⟨v, hv, hdv⟩ := hd i c hc
  exact ⟨v, hv, hcd _ _ _ hdv⟩
theorem bB_dec {p : Prop} {i : Decidable p} {A B : Prop} (ha : p → A) (hb : ¬ p → B) : @Bool.rec (fun _ => Prop) B A (@decide p i) := by
  cases hd : @decide p i
  · exact hb (of_decide_eq_false hd)
  · exact ha (of_decide_eq_true hd)
theorem bB_beq {a b : Int} {A B : Prop} (ha : a = b → A) (hb : a ≠ b → B) : @Bool.rec (fun _ => Prop) B A (a == b) := by
  cases hd : (a == b)
  · exact hb (by simpa using hd)
  · exact ha (by simpa using hd)
theorem bB_bne {a b : Int} {A B : Prop} (ha : a ≠ b → A) (hb : a = b → B) : @Bool.rec (fun _ => Prop) B A (a != b) := by
  cases hd : (a != b)
  · exact hb (by simpa using hd)
  · exact ha (by simpa using hd)
theorem ghost_mem {n0 : Nat} {b : LC} {K : Ex → St → Prop} {s : St} (f : List (Nat × CV)) (M : Mem) (hv : View n0 s ⟨updE s.env f, M⟩) (h : aw P n0 b K ⟨updE s.env f, M⟩) : aw P n0 (.ghost b) K s := ⟨_, hv, h⟩
/-- a row becomes data -/
theorem VwV.frz {σ : Nat → Nat} {m : Mem} {F : List Nat} (id : Nat) (ds : List (List Dt)) {esz : Nat} (hz : memN F id = true) (hb : nth m id = some (.row esz (dRows ds))) :
    VwV σ m (fun k => memN F k = true) (.rv (.one (.row id esz 0 none))) (.rv (.one (.dat (.sl esz ds)))) :=
  .rv (.one (.frz (FrzD.rowD (Z := fun k => memN F k = true) hz (by rw [← nth_eq]; exact hb) 0 none)))
def lookO (i : Nat) : List (Nat × CV) → Option CV
  | [] => none
  | (j, x) :: r => match Nat.beq i j with | true => some x | false => lookO i r
def kpV (keep : List Nat) (f : List (Nat × CV)) (i : Nat) (v : CV) : CV :=
  match lookO i f with
  | some x => x
  | none => match memN keep i with | true => v | false => .junk
def kpGo (keep : List Nat) (f : List (Nat × CV)) : Nat → List CV → (List CV → List CV) → List CV
  | _, [], k => k []
  | i, v :: r, k => fV (kpV keep f i v) fun v' => kpGo keep f (i + 1) r fun r' => k (v' :: r')
/-- the slots of keep, and those that f says anew; of all others nothing is said -/
def kpE (keep : List Nat) (e : List CV) (f : List (Nat × CV)) : List CV := kpGo keep f 0 e fun e => e
/-- a loop: what stays, what changes from round to round; all else is junk -/
theorem loop_keep {n0 : Nat} {b : LC} {K : Ex → St → Prop} {s : St} {α : Type} (J : α → Prop) (keep : List Nat) (f : α → List (Nat × CV)) (M : α → Mem) (μ : α → Nat) (a0 : α) (h0 : J a0)
    (start : View n0 s ⟨kpE keep s.env (f a0), M a0⟩)
    (round : ∀ a, J a → aw P n0 b (loopK n0 J (fun a => ⟨kpE keep s.env (f a), M a⟩) μ (μ a) K) ⟨kpE keep s.env (f a), M a⟩) : aw P n0 (.loop b) K s :=
  ⟨α, J, fun a => ⟨kpE keep s.env (f a), M a⟩, μ, ⟨a0, h0, start⟩, round⟩
theorem ghost_keep {n0 : Nat} {b : LC} {K : Ex → St → Prop} {s : St} (keep : List Nat) (f : List (Nat × CV)) (M : Mem) (hv : View n0 s ⟨kpE keep s.env f, M⟩) (h : aw P n0 b K ⟨kpE keep s.env f, M⟩) : aw P n0 (.ghost b) K s := ⟨_, hv, h⟩
end
end Go.AM
