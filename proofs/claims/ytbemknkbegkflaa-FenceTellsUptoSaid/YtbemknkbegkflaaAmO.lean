import Derived.Test.YtbemknkbegkflaaAmL
import Derived.IntWalk
set_option linter.unusedSimpArgs false
set_option linter.unnecessarySimpa false
set_option linter.unusedVariables false
/-! How a body is reckoned. -/
namespace Go.AM
section
variable {P : Program}

theorem bB_split {t : Bool} {A B : Prop} (ha : t = true → A) (hb : t = false → B) : @Bool.rec (fun _ => Prop) B A t := by
  cases t
  · exact hb rfl
  · exact ha rfl
theorem bB_yes {t : Bool} {A B : Prop} (h : t = true) (ha : A) : @Bool.rec (fun _ => Prop) B A t := by
  subst h; exact ha
theorem bB_no {t : Bool} {A B : Prop} (h : t = false) (ha : B) : @Bool.rec (fun _ => Prop) B A t := by
  subst h; exact ha
theorem ok_some {α : Type} {o : Option α} {K : α → Prop} {x : α} (h : o = some x) (k : K x) : @Option.rec α (fun _ => Prop) False K o := by
  subst h; exact k

theorem getZ_eq {α : Type} (l : List α) (n : Int) : getZ l n = if 0 ≤ n then l[n.toNat]? else none := by
  cases n with
  | ofNat k => simp [getZ, nth_eq]
  | negSucc k => simp [getZ]
theorem getZ_nat {α : Type} (l : List α) (k : Nat) : getZ l (k : Int) = l[k]? := by simp [getZ_eq]
theorem idxZ_eq (n : Int) (len : Nat) : idxZ n len = if 0 ≤ n ∧ n.toNat < len then some n.toNat else none := by
  cases n with
  | ofNat k =>
    simp only [idxZ]
    cases h : Nat.blt k len
    · have : ¬ k < len := fun hh => by rw [← Nat.blt_eq] at hh; rw [hh] at h; cases h
      simp [this]
    · rw [Nat.blt_eq] at h
      simp [h]
  | negSucc k => simp [idxZ]
theorem idxZ_nat {k len : Nat} (h : k < len) : idxZ (k : Int) len = some k := by rw [idxZ_eq, if_pos ⟨by omega, by simpa using h⟩]; simp

inductive EnvLe : List CV → List CV → Prop
  | nil : EnvLe [] []
  | junk {v : CV} {e e' : List CV} (h : EnvLe e e') : EnvLe (v :: e) (.junk :: e')
  | keep {v : CV} {e e' : List CV} (h : EnvLe e e') : EnvLe (v :: e) (v :: e')
theorem EnvLe.len {e e' : List CV} (h : EnvLe e e') : e'.length = e.length := by
  induction h <;> simp [*]
theorem EnvLe.get {e e' : List CV} (h : EnvLe e e') : ∀ (i : Nat) v, e'[i]? = some v → v = .junk ∨ e[i]? = some v := by
  induction h with
  | nil => intro i v h; simp at h
  | junk h ih =>
    intro i v hv
    cases i with
    | zero => simp at hv; exact .inl hv.symm
    | succ i => simpa using ih i v (by simpa using hv)
  | keep h ih =>
    intro i v hv
    cases i with
    | zero => simp at hv; exact .inr (by simp [hv])
    | succ i => simpa using ih i v (by simpa using hv)
theorem EnvLe.put {v v' : CV} {e e' : List CV} (hv : v = v') (h : EnvLe e e') : EnvLe (v :: e) (v' :: e') := by subst hv; exact .keep h
theorem wrapN {n : Nat} (h : n ≤ 9223372036854775807) : IntKind.i64.wrap (n : Int) = n := IntWalk.i64_in n (by omega)
/-- a counter, one further -/
theorem next_i64 {k : Nat} (h : k < 9223372036854775807) : (CV.rv (.one (.dat (.val (.int .i64 (IntKind.i64.wrap ((k : Int) + 1))))))) = vInt .i64 ((k + 1 : Nat) : Int) := by
  have := wrapN (n := k + 1) (by omega)
  unfold vInt
  rw [← this]
  rfl
theorem MemLe.refl : ∀ (m : Mem), MemLe m m
  | [] => .nil []
  | b :: r => .cons (.inl rfl) (MemLe.refl r)
/-- some slots are no longer spoken of -/
theorem weak_env {n0 : Nat} {e e' : List CV} {m : Mem} (hn : n0 ≤ m.length) (h : EnvLe e e') : View n0 ⟨e, m⟩ ⟨e', m⟩ :=
  Weak.view ⟨hn, h.len, fun i v hv => (h.get i v hv).imp id fun h => ⟨h, .inl rfl⟩, MemLe.refl m, .inl rfl⟩

def lookF (i : Nat) (v : CV) : List (Nat × CV) → CV
  | [] => v
  | (j, x) :: r => match Nat.beq i j with | true => x | false => lookF i v r
def updGo (f : List (Nat × CV)) : Nat → List CV → (List CV → List CV) → List CV
  | _, [], k => k []
  | i, v :: r, k => fV (lookF i v f) fun v' => updGo f (i + 1) r fun r' => k (v' :: r')
def updE (e : List CV) (f : List (Nat × CV)) : List CV := updGo f 0 e fun e => e
def updM (m : Mem) : List (Nat × Bk) → Mem
  | [] => m
  | (i, v) :: r => setN (updM m r) i v
/-- a loop: what changes from round to round -/
theorem loop_upd {n0 : Nat} {b : LC} {K : Ex → St → Prop} {s : St} {α : Type} (J : α → Prop) (f : α → List (Nat × CV)) (g : α → List (Nat × Bk)) (μ : α → Nat) (a0 : α) (h0 : J a0)
    (start : View n0 s ⟨updE s.env (f a0), updM s.mem (g a0)⟩)
    (round : ∀ a, J a → aw P n0 b (loopK n0 J (fun a => ⟨updE s.env (f a), updM s.mem (g a)⟩) μ (μ a) K) ⟨updE s.env (f a), updM s.mem (g a)⟩) : aw P n0 (.loop b) K s :=
  ⟨α, J, fun a => ⟨updE s.env (f a), updM s.mem (g a)⟩, μ, ⟨a0, h0, start⟩, round⟩
end
end Go.AM
