import Derived.Test.YtbemknkbegkflaaAmI
set_option linter.unusedVariables false
set_option linter.unusedSimpArgs false
set_option linter.unnecessarySimpa false
/-! Instructions: what they say of the continuation. -/
namespace Go.AM
section
variable {P : Program}

theorem ok_mono {α : Type} {o : Option α} {K K' : α → Prop} (h : ok o K) (hK : ∀ x, o = some x → K x → K' x) : ok o K' := by
  obtain ⟨x, hx, h⟩ := ok_iff.1 h
  exact ok_iff.2 ⟨x, hx, hK x hx h⟩
theorem bB_mono {t : Bool} {A B A' B' : Prop} (h : bB t A B) (hA : t = true → A → A') (hB : t = false → B → B') : bB t A' B' := by
  rcases bB_iff.1 h with ⟨e, h⟩ | ⟨e, h⟩
  · exact bB_iff.2 (.inl ⟨e, hA e h⟩)
  · exact bB_iff.2 (.inr ⟨e, hB e h⟩)

theorem ACall.mono {f : Nat} {args : List CV} {m : Mem} {K K' : CV → Mem → Prop} (h : ACall P f args m K) (hK : ∀ v m', K v m' → K' v m') : ACall P f args m K' :=
  ⟨h.1, fun ρ w vs hM hl hd => (h.2 ρ w vs hM hl hd).mono fun e w' ⟨v, r, m', ρ', he, hk, hrest⟩ => ⟨v, r, m', ρ', he, hK _ _ hk, hrest⟩⟩

/-- an instruction that makes no memory: it comes to one value, whatever follows -/
theorem step_quiet {i : I} (hq : quietI i = true) {e : List CV} {m : Mem} {K : CV → Mem → Prop} (h : step P i e m K) :
    ∃ v, K v m ∧ ∀ K' : CV → Mem → Prop, K' v m → step P i e m K' := by
  cases i <;> simp [quietI, pureI] at hq
  case load agg n a =>
    simp only [step, loadA, ok_iff, bB_iff] at h ⊢
    repeat' split at h
    all_goals (try exact h.elim)
    all_goals grind
  all_goals simp only [step, ok_iff, bB_iff] at h ⊢
  all_goals (repeat' split at h)
  all_goals (try exact h.elim)
  all_goals (try (exact ⟨_, h, fun _ h => h⟩))
  all_goals grind

/-- an instruction whose value does not hang on memory -/
theorem step_pure {i : I} (hq : pureI i = true) {e : List CV} {m : Mem} {K : CV → Mem → Prop} (h : step P i e m K) :
    ∃ v, K v m ∧ ∀ (m' : Mem) (K' : CV → Mem → Prop), K' v m' → step P i e m' K' := by
  cases i <;> simp [pureI] at hq
  all_goals simp only [step, ok_iff, bB_iff] at h ⊢
  all_goals (repeat' split at h)
  all_goals (try exact h.elim)
  all_goals (try (exact ⟨_, h, fun _ _ h => h⟩))
  all_goals grind

theorem step_mono {i : I} {e : List CV} {m : Mem} {K K' : CV → Mem → Prop} (h : step P i e m K) (hK : ∀ v m', K v m' → K' v m') : step P i e m K' := by
  cases i
  case call f args =>
    simp only [step] at h ⊢
    split at h
    · exact h.mono hK
    · exact h.elim
  case load agg n a =>
    simp only [step, loadA, ok_iff, bB_iff] at h ⊢
    repeat' split at h
    all_goals (try exact h.elim)
    all_goals grind
  case len k x =>
    simp only [step, ok_iff, bB_iff] at h ⊢
    repeat' split at h
    all_goals (try exact h.elim)
    all_goals grind
  all_goals simp only [step, ok_iff, bB_iff, lenK_eq, force_eq] at h ⊢
  all_goals (try exact hK _ _ h)
  all_goals (try (repeat' split at h))
  all_goals (try exact h.elim)
  all_goals (try exact hK _ _ h)
  all_goals grind

theorem evs_congr {e e' : List CV} : ∀ {xs : List X}, (∀ x, x ∈ xs → x.ev e = x.ev e') → evs e xs = evs e' xs
  | [], _ => rfl
  | x :: r, h => by simp only [evs]; rw [h x (by simp), evs_congr fun y hy => h y (by simp [hy])]
theorem fillC_congr {e e' : List CV} : ∀ {ps : List (Nat × Nat × X)} {z : List CC}, (∀ x, x ∈ ps.map (fun p => p.2.2) → x.ev e = x.ev e') → fillC e z ps = fillC e' z ps
  | [], _, _ => rfl
  | (o, s, x) :: r, z, h => by
    simp only [fillC]
    rw [h x (by simp)]
    have ih := fun z => fillC_congr (ps := r) (z := z) fun y hy => h y (by simp at hy ⊢; exact .inr hy)
    simp only [ih]
theorem fillR_congr {e e' : List CV} {esz : Nat} : ∀ {ps : List (Nat × X)} {z : List (List CC)}, (∀ x, x ∈ ps.map (fun p => p.2) → x.ev e = x.ev e') → fillR e esz z ps = fillR e' esz z ps
  | [], _, _ => rfl
  | (i, x) :: r, z, h => by
    simp only [fillR]
    rw [h x (by simp)]
    have ih := fun z => fillR_congr (esz := esz) (ps := r) (z := z) fun y hy => h y (by simp at hy ⊢; exact .inr hy)
    simp only [ih]

/-- an instruction looks at its operands alone -/
theorem step_congr {i : I} {e e' : List CV} {m : Mem} {K : CV → Mem → Prop} (hx : ∀ x, x ∈ i.xs → x.ev e = x.ev e') (h : step P i e m K) : step P i e' m K := by
  cases i <;> simp only [I.xs, List.mem_cons, List.not_mem_nil, or_false, forall_eq_or_imp, forall_eq] at hx
  case build z ps => simpa only [step, fillC_congr hx] using h
  case bsl esz z len ps => simpa only [step, fillR_congr hx] using h
  case fn f caps => simpa only [step, evs_congr hx] using h
  case call f args => simpa only [step, hx.1, evs_congr hx.2] using h
  case load agg n a => simpa only [step, loadA, hx] using h
  case minmax mx xs =>
    rcases xs with _ | ⟨x, _ | ⟨y, _ | ⟨z, r⟩⟩⟩
    · exact h
    · exact h
    · have h1 := hx x (by simp)
      have h2 := hx y (by simp)
      simpa only [step, h1, h2] using h
    · exact h
  case slc esz x lo hi mx =>
    have hopt : ∀ (o : Option X) (d : Nat), (∀ y, y ∈ o.toList → y.ev e = y.ev e') → optN e o d = optN e' o d := fun o d ho => by
      cases o with
      | none => rfl
      | some y => simp only [optN]; rw [ho y (by simp)]
    have hz : ∀ (o : Option X), (∀ y, y ∈ o.toList → y.ev e = y.ev e') → isZO e o = isZO e' o := fun o ho => by
      cases o with
      | none => rfl
      | some y => simp only [isZO]; rw [ho y (by simp)]
    have h1 : ∀ d, optN e lo d = optN e' lo d := fun d => hopt lo d fun y hy => hx.2 y (by simp [hy])
    have h2 : ∀ d, optN e hi d = optN e' hi d := fun d => hopt hi d fun y hy => hx.2 y (by simp [hy])
    have h3 : isZO e hi = isZO e' hi := hz hi fun y hy => hx.2 y (by simp [hy])
    cases mx with
    | none => simpa only [step, hx.1, h1, h2] using h
    | some y =>
      have h4 : y.ev e = y.ev e' := hx.2 y (by simp)
      simpa only [step, hx.1, h1, h2, h3, h4] using h
  case strs x lo hi =>
    have hopt : ∀ (o : Option X) (d : Nat), (∀ y, y ∈ o.toList → y.ev e = y.ev e') → optN e o d = optN e' o d := fun o d ho => by
      cases o with
      | none => rfl
      | some y => simp only [optN]; rw [ho y (by simp)]
    have h1 : ∀ d, optN e lo d = optN e' lo d := fun d => hopt lo d fun y hy => hx.2 y (by simp [hy])
    have h2 : ∀ d, optN e hi d = optN e' hi d := fun d => hopt hi d fun y hy => hx.2 y (by simp [hy])
    simpa only [step, hx.1, h1, h2] using h
  case len k x =>
    match k with
    | 0 => simpa only [step, hx] using h
    | 1 => simpa only [step, hx] using h
    | 2 => simpa only [step, hx] using h
    | k + 3 => simpa only [step, hx] using h
  all_goals first
    | (simpa only [step, hx, hx.1, hx.2] using h)
    | (simpa only [step, hx] using h)
    | (simpa only [step] using h)
end
end Go.AM
