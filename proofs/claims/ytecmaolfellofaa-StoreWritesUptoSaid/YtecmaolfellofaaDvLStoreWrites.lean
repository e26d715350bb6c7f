/- The law StoreWrites, where what it reads is of bulk at most 1048576: whatever the input, it returns true, and the input reads as it did. -/
import Derived.Test.YtecmaolfellofaaDvGc
import Derived.Test.YtecmaolfellofaaAmZ
import Derived.Test.YtecmaolfellofaaRows
import Derived.WalkKit
import Derived.ProofKit
import Derived.OpenShut
import Derived.JoinedCond
import Derived.KernelRfl
set_option linter.unusedVariables false
namespace Go.Proofs.Ytecmaolfellofaa
open Go.AM Go.ChangeShapes Go.WideShapes Go.ChangeAt Go.RowKit
theorem bys_of {elems : List (List Dt)} (h : ∀ e, e ∈ elems → Fits [.i .u8] e) : ∃ l : List Int, elems = byD l ∧ (∀ x, x ∈ l → 0 ≤ x ∧ x ≤ 255) ∧ l.length ≤ Dt.sizeLL elems := by
  obtain ⟨l, hl, he⟩ := fits_rows (fun x : Int => [Dt.val (.int .u8 x)]) (fun x => 0 ≤ x ∧ x ≤ 255) (fun e hf => by
    cases hf with | i _ a ha hf => cases hf with | nil => exact ⟨a, by simpa [Lit.wf, IntKind.min, IntKind.max, IntKind.signed, IntKind.bits] using ha, rfl⟩) h
  refine ⟨l, he, hl, ?_⟩
  have := Dt.sizeLL_len elems fun e hx => (h e hx).ne (by simp)
  rw [he] at this ⊢
  simpa using this

theorem ownStoreWrites : ownKnob Try.prog.godebug = none := by kernel_rfl
theorem laidStoreWrites : laidOutB Try.prog = true := by kernel_rfl
theorem one_le_bulkStoreWrites {H : Type} (d : DataW H) : 1 ≤ Rows.uptoBulk d := by
  cases d with
  | lit l => cases l <;> simp [Rows.uptoBulk]
  | _ => simp [Rows.uptoBulk]
theorem wSumStoreWrites {H : Type} : ∀ l : List (DataW H), wSum Rows.uptoBulk l = Rows.uptoBulkAll l
  | [] => by simp [wSum, Rows.uptoBulkAll]
  | d :: r => by simp [wSum, Rows.uptoBulkAll, wSumStoreWrites r]
def bulkStoreWrites (H : Type) : Bulk H where
  f := Rows.uptoBulk
  str s := by simp [Rows.uptoBulk]
  lit l := one_le_bulkStoreWrites _
  nil := one_le_bulkStoreWrites _
  slice a b := by simp [Rows.uptoBulk, wSumStoreWrites]
  agg a := by simp [Rows.uptoBulk, wSumStoreWrites]
def shStoreWrites : List Sh := [⟨false, [.sl [.i .u8]]⟩, ⟨false, [.i .i64]⟩, ⟨false, [.sl [.i .u8]]⟩, ⟨false, [.i .i64]⟩]
theorem shOfStoreWrites : shOf Try.prog Try.f5.params.toList = some shStoreWrites := by kernel_rfl
set_option maxRecDepth 100000 in
theorem walkStoreWrites (dss : List (List Dt)) (hf : FitsA shStoreWrites dss) (hb : Dt.sizeLL dss ≤ 1048576) : ACall Try.prog 5 (argsV shStoreWrites dss) [] fun r _ => r = vBool true := by
  cases hf with | cons h1 hf =>
  cases hf with | cons h2 hf =>
  cases hf with | cons h3 hf =>
  cases hf with | cons h4 hf =>
  cases hf
  cases h1 with | sl _ elems he h1 =>
  cases h1
  cases h2 with | i _ p _ h2 =>
  cases h2
  cases h3 with | sl _ elems2 he2 h3 =>
  cases h3
  cases h4 with | i _ q _ h4 =>
  cases h4
  obtain ⟨d, rfl, _, hd2⟩ := bys_of he
  obtain ⟨b, rfl, _, hb2⟩ := bys_of he2
  simp only [Dt.sizeLL, Dt.sizeL, Dt.size] at hb
  exact writes_ok d b (by omega) (by omega) p q

set_option maxRecDepth 100000 in
theorem contractStoreWrites (H : Type) (enc : TypeId × Value → H) (W : World) (base : Nat) (args : Array Value) (ds gs : List (DataW H)) (before : List MemPlace)
    (hval : ∀ (j : Nat) t v, Try.f5.params[j]? = some t → args[j]? = some v → Value.okWide Try.prog W .any base t v) (hk : Rows.uptoSmall H (ds ++ gs) = true)
    (hW : DataW.Whole enc Try.prog Try.f5.params.toList Rows.storeWritesSpec.vars false W args.toList ds gs before) :
    Calls Try.prog 5 args W fun e W' => ∃ v, e = .returned v ∧ Rows.storeWritesSpec.post enc Try.prog Try.f5 false true false false W args v W' := by
  refine law_contract (bulkStoreWrites H) laidStoreWrites Try.underlying4 (by kernel_rfl) rfl ?_ shOfStoreWrites (by kernel_rfl) ?_ hval hW
  · intro ds hds
    match ds, hds with
    | [d1, d2, d3, d4], _ => rfl
  · intro dss hf hsz
    refine walkStoreWrites dss hf (Nat.le_trans hsz ?_)
    have h1 : Rows.uptoBulkAll (ds ++ gs) ≤ 1048576 := of_decide_eq_true hk
    have h2 : ∀ a b : List (DataW H), Rows.uptoBulkAll a ≤ Rows.uptoBulkAll (a ++ b) := by
      intro a b
      induction a with
      | nil => simp [Rows.uptoBulkAll]
      | cons x r ih => simp only [List.cons_append, Rows.uptoBulkAll]; omega
    show wSum Rows.uptoBulk ds ≤ 1048576
    rw [wSumStoreWrites]
    exact Nat.le_trans (h2 ds gs) h1
set_option maxRecDepth 100000 in
theorem liftedStoreWrites (os : Os) (started : os.Started) (H : Type) (enc : TypeId × Value → H) (F : Stop.Interp) :
    ReturnsInHanded {} Try.checked os 5 .any ((Rows.OpenSpec.upto Rows.storeWritesSpec).pre6 enc Try.prog Try.f5 Rows.storeWritesUptoRow.domain false) (((Rows.OpenSpec.upto Rows.storeWritesSpec).at F).post enc Try.prog Try.f5 false true false false) := by
  refine returnsInHanded_of_cond (C := Try.checked) (s := Rows.OpenSpec.upto Rows.storeWritesSpec) (k := Rows.uptoSmall) rfl ownStoreWrites started (by kernel_rfl) Try.func5
    (OpenSpec.witness (enc := enc) (C := Try.checked) (s := Rows.OpenSpec.upto Rows.storeWritesSpec) (k := Rows.uptoSmall) rfl false ⟨#[], #[.slice none 0 0, .int .i64 0, .slice none 0 0, .int .i64 0], []⟩ 8 (by kernel_rfl) (by kernel_rfl) (by kernel_rfl)
      (x := ([.nil, .lit (.int .i64 0), .nil, .lit (.int .i64 0)], [], [])) (by kernel_rfl) rfl (by kernel_rfl)) ?_
  intro W base args ds gs before hval hW _ hk _
  exact contractStoreWrites H enc W base args ds gs before hval hk hW
theorem storeWritesUptoSaid : Rows.StoreWritesUptoSaid :=
  OpenClaim.holds_of_cond 5 Try.f5 rfl rfl rfl rfl rfl rfl rfl ⟨rfl, rfl, rfl, rfl, rfl⟩ rfl rfl rfl rfl rfl (by kernel_rfl) Try.func5 (by kernel_rfl)
    (of_decide_eq_true (by kernel_rfl)) (by unfold Func.isWrapper; first | (rw [if_pos (by decide +kernel)]; kernel_rfl) | (rw [if_neg (by decide +kernel)]; exact ⟨rfl, rfl⟩))
    (fun os started H enc _ F => liftedStoreWrites os started H enc F)
end Go.Proofs.Ytecmaolfellofaa
