import Derived.Test.YtbemknkbegkflaaAmN
import Derived.Below
set_option linter.unusedSimpArgs false
set_option linter.unnecessarySimpa false
set_option linter.unusedVariables false
/-! From outside: a call whose arguments are data, in a memory of its own. -/
open Go.RowKit
namespace Go.AM
section
variable {P : Program}

/-- all that is there is data -/
def rho0 (W : World) : Rho := { n := 0, loc := fun _ => ⟨0, 0, 0, 0⟩, S := fun b => b < W.heap.size }

theorem memRel0 (W : World) : MemRel (rho0 W) [] W where
  n := rfl
  S _ h := h
  live k h := by have := h.id_lt; simp at this
  inj k k' h := by have := h.id_lt; simp at this
  bk id b h := by simp at h
  own id i j esz elems h := by obtain ⟨_, _, _, h, _⟩ := h; simp at h

theorem calls_of_acall {f : Nat} {args : List CV} {K : CV → Mem → Prop} (h : ACall P f args [] K) (W : World) (vs : List Value) (hlen : vs.length = args.length)
    (hden : ∀ (i : Nat) c, args[i]? = some c → ∃ v, vs[i]? = some v ∧ DenV (rho0 W) W c v) :
    Calls P f vs.toArray W fun e w' => ∃ v r m' ρ', e = .returned v ∧ K r m' ∧ MemRel ρ' m' w' ∧ DenV ρ' w' r v ∧ Below W.heap.size W w' := by
  refine (h.2 (rho0 W) W vs (memRel0 W) hlen hden).mono ?_
  rintro e w' ⟨v, r, m', ρ', rfl, hK, hM, hd, hX⟩
  exact ⟨v, r, m', ρ', rfl, hK, hM, hd, ⟨hX.os, hX.tape, hX.output, hX.size, fun b hb => hX.frame b hb fun k hk => by have := hk.id_lt; simp at this⟩⟩

/-- the answer is one plain value -/
theorem calls_of_acall_plain {f : Nat} {args : List CV} {K : CV → Mem → Prop} (h : ACall P f args [] K) (W : World) (vs : List Value) (hlen : vs.length = args.length)
    (hden : ∀ (i : Nat) c, args[i]? = some c → ∃ v, vs[i]? = some v ∧ DenV (rho0 W) W c v) {u : Value} (hu : u ≠ .slice none 0 0) (hK : ∀ r m', K r m' → r = .rv (.one (.dat (.val u)))) :
    Calls P f vs.toArray W fun e w' => e = .returned u ∧ Below W.heap.size W w' := by
  refine (calls_of_acall h W vs hlen hden).mono ?_
  rintro e w' ⟨v, r, m', ρ', rfl, hk, hM, hd, hb⟩
  rw [hK r m' hk] at hd
  exact ⟨by rw [(den_plain hd).1], hb⟩
end
end Go.AM
