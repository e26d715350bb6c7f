/- The law SweepTells, where what it reads is of bulk at most 1048576: whatever the input, it returns true, and the input reads as it did. -/
import Derived.Test.YtjofmgkcllffnaaDvGh
import Derived.Test.YtjofmgkcllffnaaAmZ
import Derived.Test.YtjofmgkcllffnaaRows
import Derived.WalkKit
import Derived.ProofKit
import Derived.OpenShut
import Derived.JoinedCond
import Derived.KernelRfl
set_option linter.unusedVariables false
namespace Go.Proofs.Ytjofmgkcllffnaa
open Go.AM Go.ChangeShapes Go.WideShapes Go.ChangeAt Go.RowKit
theorem bys_of {elems : List (List Dt)} (h : ∀ e, e ∈ elems → Fits [.i .u8] e) : ∃ l : List Int, elems = byD l ∧ (∀ x, x ∈ l → 0 ≤ x ∧ x ≤ 255) ∧ l.length ≤ Dt.sizeLL elems := by
  obtain ⟨l, hl, he⟩ := fits_rows (fun x : Int => [Dt.val (.int .u8 x)]) (fun x => 0 ≤ x ∧ x ≤ 255) (fun e hf => by
    cases hf with | i _ a ha hf => cases hf with | nil => exact ⟨a, by simpa [Lit.wf, IntKind.min, IntKind.max, IntKind.signed, IntKind.bits] using ha, rfl⟩) h
  refine ⟨l, he, hl, ?_⟩
  have := Dt.sizeLL_len elems fun e hx => (h e hx).ne (by simp)
  rw [he] at this ⊢
  simpa using this

theorem ownSweepTells : ownKnob Try.prog.godebug = none := by kernel_rfl
theorem laidSweepTells : laidOutB Try.prog = true := by kernel_rfl
theorem one_le_bulkSweepTells {H : Type} (d : DataW H) : 1 ≤ Rows.uptoBulk d := by
  cases d with
  | lit l => cases l <;> simp [Rows.uptoBulk]
  | _ => simp [Rows.uptoBulk]
theorem wSumSweepTells {H : Type} : ∀ l : List (DataW H), wSum Rows.uptoBulk l = Rows.uptoBulkAll l
  | [] => by simp [wSum, Rows.uptoBulkAll]
  | d :: r => by simp [wSum, Rows.uptoBulkAll, wSumSweepTells r]
def bulkSweepTells (H : Type) : Bulk H where
  f := Rows.uptoBulk
  str s := by simp [Rows.uptoBulk]
  lit l := one_le_bulkSweepTells _
  nil := one_le_bulkSweepTells _
  slice a b := by simp [Rows.uptoBulk, wSumSweepTells]
  agg a := by simp [Rows.uptoBulk, wSumSweepTells]
def shSweepTells : List Sh := [⟨false, [.sl [.i .u8]]⟩]
theorem shOfSweepTells : shOf Try.prog Try.f6.params.toList = some shSweepTells := by kernel_rfl
set_option maxRecDepth 100000 in
theorem walkSweepTells (dss : List (List Dt)) (hf : FitsA shSweepTells dss) (hb : Dt.sizeLL dss ≤ 1048576) : ACall Try.prog 6 (argsV shSweepTells dss) [] fun r _ => r = vBool true := by
  cases hf with | cons h1 hf =>
  cases hf
  cases h1 with | sl _ elems he h1 =>
  cases h1
  obtain ⟨b, rfl, hb2, hl2⟩ := bys_of he
  exact tells_ok b hb2

set_option maxRecDepth 100000 in
theorem contractSweepTells (H : Type) (enc : TypeId × Value → H) (W : World) (base : Nat) (args : Array Value) (ds gs : List (DataW H)) (before : List MemPlace)
    (hval : ∀ (j : Nat) t v, Try.f6.params[j]? = some t → args[j]? = some v → Value.okWide Try.prog W .any base t v) (hk : Rows.uptoSmall H (ds ++ gs) = true)
    (hW : DataW.Whole enc Try.prog Try.f6.params.toList Rows.sweepTellsSpec.vars false W args.toList ds gs before) :
    Calls Try.prog 6 args W fun e W' => ∃ v, e = .returned v ∧ Rows.sweepTellsSpec.post enc Try.prog Try.f6 false true false false W args v W' := by
  refine law_contract (bulkSweepTells H) laidSweepTells Try.underlying4 (by kernel_rfl) rfl ?_ shOfSweepTells (by kernel_rfl) ?_ hval hW
  · intro ds hds
    match ds, hds with
    | [d1], _ => rfl
  · intro dss hf hsz
    refine walkSweepTells dss hf (Nat.le_trans hsz ?_)
    have h1 : Rows.uptoBulkAll (ds ++ gs) ≤ 1048576 := of_decide_eq_true hk
    have h2 : ∀ a b : List (DataW H), Rows.uptoBulkAll a ≤ Rows.uptoBulkAll (a ++ b) := by
      intro a b
      induction a with
      | nil => simp [Rows.uptoBulkAll]
      | cons x r ih => simp only [List.cons_append, Rows.uptoBulkAll]; omega
    show wSum Rows.uptoBulk ds ≤ 1048576
    rw [wSumSweepTells]
    exact Nat.le_trans (h2 ds gs) h1
set_option maxRecDepth 100000 in
theorem liftedSweepTells (os : Os) (started : os.Started) (H : Type) (enc : TypeId × Value → H) (F : Stop.Interp) :
    ReturnsInHanded {} Try.checked os 6 .any ((Rows.OpenSpec.upto Rows.sweepTellsSpec).pre6 enc Try.prog Try.f6 Rows.sweepTellsUptoRow.domain false) (((Rows.OpenSpec.upto Rows.sweepTellsSpec).at F).post enc Try.prog Try.f6 false true false false) := by
  refine returnsInHanded_of_cond (C := Try.checked) (s := Rows.OpenSpec.upto Rows.sweepTellsSpec) (k := Rows.uptoSmall) rfl ownSweepTells started (by kernel_rfl) Try.func6
    (OpenSpec.witness (enc := enc) (C := Try.checked) (s := Rows.OpenSpec.upto Rows.sweepTellsSpec) (k := Rows.uptoSmall) rfl false ⟨#[], #[.slice none 0 0], []⟩ 8 (by kernel_rfl) (by kernel_rfl) (by kernel_rfl)
      (x := ([.nil], [], [])) (by kernel_rfl) rfl (by kernel_rfl)) ?_
  intro W base args ds gs before hval hW _ hk _
  exact contractSweepTells H enc W base args ds gs before hval hk hW
theorem sweepTellsUptoSaid : Rows.SweepTellsUptoSaid :=
  OpenClaim.holds_of_cond 6 Try.f6 rfl rfl rfl rfl rfl rfl rfl ⟨rfl, rfl, rfl, rfl, rfl⟩ rfl rfl rfl rfl rfl (by kernel_rfl) Try.func6 (by kernel_rfl)
    (of_decide_eq_true (by kernel_rfl)) (by unfold Func.isWrapper; first | (rw [if_pos (by decide +kernel)]; kernel_rfl) | (rw [if_neg (by decide +kernel)]; exact ⟨rfl, rfl⟩))
    (fun os started H enc _ F => liftedSweepTells os started H enc F)
end Go.Proofs.Ytjofmgkcllffnaa
