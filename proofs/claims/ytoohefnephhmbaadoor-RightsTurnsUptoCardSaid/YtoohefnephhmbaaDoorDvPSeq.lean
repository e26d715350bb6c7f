import Derived.Test.YtoohefnephhmbaaDoorAmZ2
import Derived.Test.YtoohefnephhmbaaDoorDvPLay
import Derived.Test.YtoohefnephhmbaaDoorAmY
set_option linter.unusedVariables false
set_option linter.unusedSimpArgs false
namespace Go.Proofs.YtoohefnephhmbaaDoor
open Go.AM Go.ChangeShapes Go.WideShapes Go.ChangeAt Go.RowKit
attribute [local go_sem] Oper.semAt_some
/-- a text, cut at a byte -/
def cutL (c : UInt8) : List UInt8 → List (List UInt8)
  | [] => [[]]
  | x :: r => if x == c then [] :: cutL c r else match cutL c r with
    | [] => [[x]]
    | p :: ps => (x :: p) :: ps
theorem cutL_ne (c : UInt8) (l : List UInt8) : cutL c l ≠ [] := by
  cases l with
  | nil => simp [cutL]
  | cons x r =>
    simp only [cutL]
    split
    · simp
    · split <;> simp
theorem cutL_none {c : UInt8} : ∀ {l : List UInt8}, Lib.indexByte l c = -1 → cutL c l = [l]
  | [], _ => rfl
  | x :: r, h => by
    simp only [Lib.indexByte] at h
    split at h
    · cases h
    · rename_i hx
      split at h
      · rename_i h2
        have h2' : Lib.indexByte r c = -1 := by simpa using h2
        simp only [cutL, hx, cutL_none h2', Bool.false_eq_true, if_false]
      · have := Lib.indexByte_ge r c
        omega
theorem cutL_some {c : UInt8} : ∀ {l : List UInt8} {i : Nat}, Lib.indexByte l c = i → i < l.length ∧ cutL c l = l.take i :: cutL c (l.drop (i + 1))
  | [], i, h => by simp [Lib.indexByte] at h
  | x :: r, i, h => by
    simp only [Lib.indexByte] at h
    split at h
    · rename_i hx
      have : i = 0 := by omega
      subst this
      simp [cutL, hx]
    · rename_i hx
      split at h
      · omega
      · cases i with
        | zero =>
          have := Lib.indexByte_ge r c
          rename_i h2
          have : Lib.indexByte r c = -1 := by omega
          simp [this] at h2
        | succ i =>
          have h3 : Lib.indexByte r c = i := by omega
          obtain ⟨h4, h5⟩ := cutL_some h3
          refine ⟨by simpa using h4, ?_⟩
          simp only [cutL, hx, h5, Bool.false_eq_true, if_false]
          simp
/-- a string's pieces -/
def bysL (l : List UInt8) : ByteArray := ⟨l.toArray⟩
def pieces (c : UInt8) (s : ByteArray) : List ByteArray := (cutL c s.data.toList).map bysL
end Go.Proofs.YtoohefnephhmbaaDoor
