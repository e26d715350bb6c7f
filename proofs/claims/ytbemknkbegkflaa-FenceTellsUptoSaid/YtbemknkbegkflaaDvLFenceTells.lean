/- The law FenceTells, where what it reads is of bulk at most 1048576: whatever the input, it returns true, and the input reads as it did. -/
import Derived.Test.YtbemknkbegkflaaDvGi
import Derived.Test.YtbemknkbegkflaaAmZ
import Derived.Test.YtbemknkbegkflaaRows
import Derived.WalkKit
import Derived.ProofKit
import Derived.OpenShut
import Derived.JoinedCond
import Derived.KernelRfl
set_option linter.unusedVariables false
namespace Go.Proofs.Ytbemknkbegkflaa
open Go.AM Go.ChangeShapes Go.WideShapes Go.ChangeAt Go.RowKit
theorem bys_of {elems : List (List Dt)} (h : ∀ e, e ∈ elems → Fits [.i .u8] e) : ∃ l : List Int, elems = byD l ∧ (∀ x, x ∈ l → 0 ≤ x ∧ x ≤ 255) ∧ l.length ≤ Dt.sizeLL elems := by
  obtain ⟨l, hl, he⟩ := fits_rows (fun x : Int => [Dt.val (.int .u8 x)]) (fun x => 0 ≤ x ∧ x ≤ 255) (fun e hf => by
    cases hf with | i _ a ha hf => cases hf with | nil => exact ⟨a, by simpa [Lit.wf, IntKind.min, IntKind.max, IntKind.signed, IntKind.bits] using ha, rfl⟩) h
  refine ⟨l, he, hl, ?_⟩
  have := Dt.sizeLL_len elems fun e hx => (h e hx).ne (by simp)
  rw [he] at this ⊢
  simpa using this
theorem ints_of {elems : List (List Dt)} (h : ∀ e, e ∈ elems → Fits [.i .i64] e) : ∃ l : List Int, elems = l.map Fe.iE ∧ l.length ≤ Dt.sizeLL elems := by
  obtain ⟨l, _, he⟩ := fits_rows (fun x : Int => [Dt.val (.int .i64 x)]) (fun _ => True) (fun e hf => by
    cases hf with | i _ a ha hf => cases hf with | nil => exact ⟨a, trivial, rfl⟩) h
  refine ⟨l, he, ?_⟩
  have := Dt.sizeLL_len elems fun e hx => (h e hx).ne (by simp)
  rw [he] at this ⊢
  simpa using this

theorem ownFenceTells : ownKnob Try.prog.godebug = none := by kernel_rfl
theorem laidFenceTells : laidOutB Try.prog = true := by kernel_rfl
theorem one_le_bulkFenceTells {H : Type} (d : DataW H) : 1 ≤ Rows.uptoBulk d := by
  cases d with
  | lit l => cases l <;> simp [Rows.uptoBulk]
  | _ => simp [Rows.uptoBulk]
theorem wSumFenceTells {H : Type} : ∀ l : List (DataW H), wSum Rows.uptoBulk l = Rows.uptoBulkAll l
  | [] => by simp [wSum, Rows.uptoBulkAll]
  | d :: r => by simp [wSum, Rows.uptoBulkAll, wSumFenceTells r]
def bulkFenceTells (H : Type) : Bulk H where
  f := Rows.uptoBulk
  str s := by simp [Rows.uptoBulk]
  lit l := one_le_bulkFenceTells _
  nil := one_le_bulkFenceTells _
  slice a b := by simp [Rows.uptoBulk, wSumFenceTells]
  agg a := by simp [Rows.uptoBulk, wSumFenceTells]
def shFenceTells : List Sh := [⟨false, [.sl [.i .u8]]⟩, ⟨false, [.sl [.i .i64]]⟩]
theorem shOfFenceTells : shOf Try.prog Try.f3.params.toList = some shFenceTells := by kernel_rfl
set_option maxRecDepth 100000 in
theorem walkFenceTells (dss : List (List Dt)) (hf : FitsA shFenceTells dss) (hb : Dt.sizeLL dss ≤ 1048576) : ACall Try.prog 3 (argsV shFenceTells dss) [] fun r _ => r = vBool true := by
  cases hf with | cons h1 hf =>
  cases hf with | cons h2 hf =>
  cases hf
  cases h1 with | sl _ elems he h1 =>
  cases h1
  cases h2 with | sl _ elems2 he2 h2 =>
  cases h2
  obtain ⟨b, rfl, hb2, hl2⟩ := bys_of he
  obtain ⟨pl, rfl, hl3⟩ := ints_of he2
  simp only [Dt.sizeLL, Dt.sizeL, Dt.size] at hb
  exact Fe.ftells_ok b hb2 pl (by omega)

set_option maxRecDepth 100000 in
theorem contractFenceTells (H : Type) (enc : TypeId × Value → H) (W : World) (base : Nat) (args : Array Value) (ds gs : List (DataW H)) (before : List MemPlace)
    (hval : ∀ (j : Nat) t v, Try.f3.params[j]? = some t → args[j]? = some v → Value.okWide Try.prog W .any base t v) (hk : Rows.uptoSmall H (ds ++ gs) = true)
    (hW : DataW.Whole enc Try.prog Try.f3.params.toList Rows.fenceTellsSpec.vars false W args.toList ds gs before) :
    Calls Try.prog 3 args W fun e W' => ∃ v, e = .returned v ∧ Rows.fenceTellsSpec.post enc Try.prog Try.f3 false true false false W args v W' := by
  refine law_contract (bulkFenceTells H) laidFenceTells Try.underlying4 (by kernel_rfl) rfl ?_ shOfFenceTells (by kernel_rfl) ?_ hval hW
  · intro ds hds
    match ds, hds with
    | [d1, d2], _ => rfl
  · intro dss hf hsz
    refine walkFenceTells dss hf (Nat.le_trans hsz ?_)
    have h1 : Rows.uptoBulkAll (ds ++ gs) ≤ 1048576 := of_decide_eq_true hk
    have h2 : ∀ a b : List (DataW H), Rows.uptoBulkAll a ≤ Rows.uptoBulkAll (a ++ b) := by
      intro a b
      induction a with
      | nil => simp [Rows.uptoBulkAll]
      | cons x r ih => simp only [List.cons_append, Rows.uptoBulkAll]; omega
    show wSum Rows.uptoBulk ds ≤ 1048576
    rw [wSumFenceTells]
    exact Nat.le_trans (h2 ds gs) h1
set_option maxRecDepth 100000 in
theorem liftedFenceTells (os : Os) (started : os.Started) (H : Type) (enc : TypeId × Value → H) (F : Stop.Interp) :
    ReturnsInHanded {} Try.checked os 3 .any ((Rows.OpenSpec.upto Rows.fenceTellsSpec).pre6 enc Try.prog Try.f3 Rows.fenceTellsUptoRow.domain false) (((Rows.OpenSpec.upto Rows.fenceTellsSpec).at F).post enc Try.prog Try.f3 false true false false) := by
  refine returnsInHanded_of_cond (C := Try.checked) (s := Rows.OpenSpec.upto Rows.fenceTellsSpec) (k := Rows.uptoSmall) rfl ownFenceTells started (by kernel_rfl) Try.func3
    (OpenSpec.witness (enc := enc) (C := Try.checked) (s := Rows.OpenSpec.upto Rows.fenceTellsSpec) (k := Rows.uptoSmall) rfl false ⟨#[], #[.slice none 0 0, .slice none 0 0], []⟩ 8 (by kernel_rfl) (by kernel_rfl) (by kernel_rfl)
      (x := ([.nil, .nil], [], [])) (by kernel_rfl) rfl (by kernel_rfl)) ?_
  intro W base args ds gs before hval hW _ hk _
  exact contractFenceTells H enc W base args ds gs before hval hk hW
theorem fenceTellsUptoSaid : Rows.FenceTellsUptoSaid :=
  OpenClaim.holds_of_cond 3 Try.f3 rfl rfl rfl rfl rfl rfl rfl ⟨rfl, rfl, rfl, rfl, rfl⟩ rfl rfl rfl rfl rfl (by kernel_rfl) Try.func3 (by kernel_rfl)
    (of_decide_eq_true (by kernel_rfl)) (by unfold Func.isWrapper; first | (rw [if_pos (by decide +kernel)]; kernel_rfl) | (rw [if_neg (by decide +kernel)]; exact ⟨rfl, rfl⟩))
    (fun os started H enc _ F => liftedFenceTells os started H enc F)
end Go.Proofs.Ytbemknkbegkflaa
