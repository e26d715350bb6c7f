import Derived.Test.YtflieebgiejjpaaAmZ2
import Derived.Test.YtflieebgiejjpaaDvBpf2
import Derived.Test.YtflieebgiejjpaaAmY
set_option linter.unusedVariables false
set_option linter.unusedSimpArgs false
namespace Go.Proofs.Ytflieebgiejjpaa
open Go.AM Go.ChangeShapes Go.WideShapes Go.ChangeAt Go.RowKit
theorem insE_1 (jt jf k a s : Int) : insE ⟨1, jt, jf, k⟩ a s = if k < 0 ∨ k ≥ 6 then 3 else if jt ≠ 0 ∨ jf ≠ 0 then 2 else 0 := by
  simp [insE, formE, ← Bool.decide_or]
theorem insE_j (o jt jf k a s : Int) (ho : o = 2 ∨ o = 3 ∨ o = 4) : insE ⟨o, jt, jf, k⟩ a s = if k < 0 ∨ k ≥ 2147483648 ∨ jt < 0 ∨ jf < 0 ∨ jt > 40 ∨ jf > 40 ∨ jt > s - a - 2 ∨ jf > s - a - 2 then 3 else 0 := by
  have h1 : (o == 1) = false := by rcases ho with rfl | rfl | rfl <;> rfl
  have h2 : ((o == 2) || (o == 3) || (o == 4)) = true := by rcases ho with rfl | rfl | rfl <;> rfl
  simp only [insE, h1, h2, Bool.false_eq_true, if_false, if_true]
  by_cases hc : k < 0 ∨ k ≥ 2147483648 ∨ jt < 0 ∨ jf < 0 ∨ jt > 40 ∨ jf > 40 ∨ jt > s - a - 2 ∨ jf > s - a - 2
  · rw [if_pos hc, if_pos]
    simp only [jumpB, Bool.or_eq_true, Bool.not_eq_true', Bool.and_eq_false_iff, decide_eq_true_eq, decide_eq_false_iff_not]
    omega
  · rw [if_neg hc, if_neg]
    simp only [jumpB, Bool.or_eq_true, Bool.not_eq_true', Bool.and_eq_false_iff, decide_eq_true_eq, decide_eq_false_iff_not]
    omega
theorem insE_5 (jt jf k a s : Int) (ha : 0 ≤ a) : insE ⟨5, jt, jf, k⟩ a s = if k < 0 ∨ k > s - a - 2 then 3 else if jt ≠ 0 ∨ jf ≠ 0 then 2 else 0 := by
  have e : (!jumpB a k s s) = decide (k < 0 ∨ k > s - a - 2) := by
    rw [Bool.eq_iff_iff]
    simp only [jumpB, Bool.not_eq_true', Bool.and_eq_false_iff, decide_eq_true_eq, decide_eq_false_iff_not]
    omega
  simp [insE, e, formE, ← Bool.decide_or]
theorem insE_6 (jt jf k a s : Int) : insE ⟨6, jt, jf, k⟩ a s = if k ≠ 0 ∧ k ≠ 1 then 3 else if jt ≠ 0 ∨ jf ≠ 0 then 2 else 0 := by
  simp [insE, formE, ← Bool.decide_or, ← Bool.decide_and]
  simp only [and_comm]
theorem insE_o (o jt jf k a s : Int) (ho : o < 1 ∨ o > 6) : insE ⟨o, jt, jf, k⟩ a s = 1 := by
  have h : ∀ c : Int, 1 ≤ c → c ≤ 6 → (o == c) = false := fun c h1 h2 => by rw [beq_eq_false_iff_ne]; omega
  simp [insE, h 1 (by omega) (by omega), h 2 (by omega) (by omega), h 3 (by omega) (by omega), h 4 (by omega) (by omega), h 5 (by omega) (by omega), h 6 (by omega) (by omega)]
end Go.Proofs.Ytflieebgiejjpaa
