import Derived.Test.YtbemknkbegkflaaAmR
import Derived.Test.YtbemknkbegkflaaAmY
set_option linter.unusedVariables false
set_option linter.unusedSimpArgs false
set_option linter.unnecessarySimpa false
/-! Sizes of data that came in. -/
namespace Go.AM
theorem Dt.size_pos (d : Dt) : 1 ≤ d.size := by
  cases d with
  | val v => cases v <;> simp [Dt.size]
  | sl e l => simp [Dt.size]
theorem Dt.sizeL_pos {l : List Dt} (h : l ≠ []) : 1 ≤ Dt.sizeL l := by
  cases l with
  | nil => exact absurd rfl h
  | cons d r => simp only [Dt.sizeL]; have := d.size_pos; omega
theorem Dt.sizeLL_len : ∀ (l : List (List Dt)), (∀ e, e ∈ l → e ≠ []) → l.length ≤ Dt.sizeLL l
  | [], _ => by simp
  | e :: r, h => by
    have h1 := Dt.sizeL_pos (h e (by simp))
    have h2 := Dt.sizeLL_len r fun x hx => h x (by simp [hx])
    simp only [Dt.sizeLL, List.length_cons]
    omega
theorem Fits.ne {ls : List Lf} {ds : List Dt} (h : Fits ls ds) (hl : ls ≠ []) : ds ≠ [] := by
  cases h <;> simp_all
/-- rows that fit are rows of something -/
theorem fits_rows {α : Type} {es : List Lf} (enc : α → List Dt) (p : α → Prop) (dec : ∀ e, Fits es e → ∃ a, p a ∧ e = enc a) : ∀ {elems : List (List Dt)}, (∀ e, e ∈ elems → Fits es e) → ∃ l : List α, (∀ a, a ∈ l → p a) ∧ elems = l.map enc
  | [], _ => ⟨[], by simp, rfl⟩
  | e :: r, h => by
    obtain ⟨a, ha, rfl⟩ := dec e (h e (by simp))
    obtain ⟨l, hl, rfl⟩ := fits_rows enc p dec (elems := r) fun x hx => h x (by simp [hx])
    exact ⟨a :: l, by simpa using ⟨ha, hl⟩, rfl⟩
def inI64 (n : Int) : Prop := -9223372036854775808 ≤ n ∧ n ≤ 9223372036854775807
theorem wf_i64 {n : Int} (h : (Lit.int .i64 n).wf = true) : inI64 n := by
  simpa [Lit.wf, IntKind.min, IntKind.max, IntKind.signed, IntKind.bits, inI64] using h
end Go.AM
