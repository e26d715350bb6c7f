/- The law TableLess, where what it reads is of bulk at most 1048576: whatever the input, it returns true, and the input reads as it did. -/
import Derived.Test.YtflieebgiejjpaaDvTab5
import Derived.Test.YtflieebgiejjpaaAmZ
import Derived.Test.YtflieebgiejjpaaRows
import Derived.WalkKit
import Derived.ProofKit
import Derived.OpenShut
import Derived.JoinedCond
import Derived.KernelRfl
set_option linter.unusedVariables false
namespace Go.Proofs.Ytflieebgiejjpaa
open Go.AM Go.ChangeShapes Go.WideShapes Go.ChangeAt Go.RowKit
theorem slots_of {elems : List (List Dt)} (h : ∀ e, e ∈ elems → Fits [.b, .i .i64, .i .i64] e) : ∃ l : List Slot, elems = l.map Slot.enc ∧ l.length ≤ Dt.sizeLL elems := by
  obtain ⟨l, _, he⟩ := fits_rows Slot.enc (fun _ => True) (fun e hf => by
    cases hf with | b x hf => cases hf with | i _ n _ hf => cases hf with | i _ k _ hf => cases hf with | nil => exact ⟨⟨x, ⟨n, k⟩⟩, trivial, rfl⟩) h
  refine ⟨l, he, ?_⟩
  have := Dt.sizeLL_len elems fun e hx => (h e hx).ne (by simp)
  rw [he] at this ⊢
  simpa using this

theorem ownTableLess : ownKnob Try.prog.godebug = none := by kernel_rfl
theorem laidTableLess : laidOutB Try.prog = true := by kernel_rfl
theorem one_le_bulkTableLess {H : Type} (d : DataW H) : 1 ≤ Rows.uptoBulk d := by
  cases d with
  | lit l => cases l <;> simp [Rows.uptoBulk]
  | _ => simp [Rows.uptoBulk]
theorem wSumTableLess {H : Type} : ∀ l : List (DataW H), wSum Rows.uptoBulk l = Rows.uptoBulkAll l
  | [] => by simp [wSum, Rows.uptoBulkAll]
  | d :: r => by simp [wSum, Rows.uptoBulkAll, wSumTableLess r]
def bulkTableLess (H : Type) : Bulk H where
  f := Rows.uptoBulk
  str s := by simp [Rows.uptoBulk]
  lit l := one_le_bulkTableLess _
  nil := one_le_bulkTableLess _
  slice a b := by simp [Rows.uptoBulk, wSumTableLess]
  agg a := by simp [Rows.uptoBulk, wSumTableLess]
def shTableLess : List Sh := [⟨false, [.sl [.b, .i .i64, .i .i64]]⟩, ⟨false, [.i .i64]⟩, ⟨false, [.i .i64]⟩, ⟨false, [.i .i64]⟩]
theorem shOfTableLess : shOf Try.prog Try.f6.params.toList = some shTableLess := by kernel_rfl
set_option maxRecDepth 100000 in
theorem walkTableLess (dss : List (List Dt)) (hf : FitsA shTableLess dss) (hb : Dt.sizeLL dss ≤ 1048576) : ACall Try.prog 6 (argsV shTableLess dss) [] fun r _ => r = vBool true := by
  cases hf with | cons h1 hf =>
  cases hf with | cons h2 hf =>
  cases hf with | cons h3 hf =>
  cases hf with | cons h4 hf =>
  cases hf
  cases h1 with | sl _ elems he h1 =>
  cases h1
  cases h2 with | i _ fd _ h2 =>
  cases h2
  cases h3 with | i _ n _ h3 =>
  cases h3
  cases h4 with | i _ need _ h4 =>
  cases h4
  obtain ⟨l, rfl, hl⟩ := slots_of he
  have hb : l.length ≤ 2097152 := by
    simp only [Dt.sizeLL, Dt.sizeL, Dt.size] at hb
    omega
  exact less_ok l hb fd n need
set_option maxRecDepth 100000 in
theorem contractTableLess (H : Type) (enc : TypeId × Value → H) (W : World) (base : Nat) (args : Array Value) (ds gs : List (DataW H)) (before : List MemPlace)
    (hval : ∀ (j : Nat) t v, Try.f6.params[j]? = some t → args[j]? = some v → Value.okWide Try.prog W .any base t v) (hk : Rows.uptoSmall H (ds ++ gs) = true)
    (hW : DataW.Whole enc Try.prog Try.f6.params.toList Rows.tableLessSpec.vars false W args.toList ds gs before) :
    Calls Try.prog 6 args W fun e W' => ∃ v, e = .returned v ∧ Rows.tableLessSpec.post enc Try.prog Try.f6 false true false false W args v W' := by
  refine law_contract (bulkTableLess H) laidTableLess Try.underlying4 (by kernel_rfl) rfl ?_ shOfTableLess (by kernel_rfl) ?_ hval hW
  · intro ds hds
    match ds, hds with
    | [d1, d2, d3, d4], _ => rfl
  · intro dss hf hsz
    refine walkTableLess dss hf (Nat.le_trans hsz ?_)
    have h1 : Rows.uptoBulkAll (ds ++ gs) ≤ 1048576 := of_decide_eq_true hk
    have h2 : ∀ a b : List (DataW H), Rows.uptoBulkAll a ≤ Rows.uptoBulkAll (a ++ b) := by
      intro a b
      induction a with
      | nil => simp [Rows.uptoBulkAll]
      | cons x r ih => simp only [List.cons_append, Rows.uptoBulkAll]; omega
    show wSum Rows.uptoBulk ds ≤ 1048576
    rw [wSumTableLess]
    exact Nat.le_trans (h2 ds gs) h1
set_option maxRecDepth 100000 in
theorem liftedTableLess (os : Os) (started : os.Started) (H : Type) (enc : TypeId × Value → H) (F : Stop.Interp) :
    ReturnsInHanded {} Try.checked os 6 .any ((Rows.OpenSpec.upto Rows.tableLessSpec).pre6 enc Try.prog Try.f6 Rows.tableLessUptoRow.domain false) (((Rows.OpenSpec.upto Rows.tableLessSpec).at F).post enc Try.prog Try.f6 false true false false) := by
  refine returnsInHanded_of_cond (C := Try.checked) (s := Rows.OpenSpec.upto Rows.tableLessSpec) (k := Rows.uptoSmall) rfl ownTableLess started (by kernel_rfl) Try.func6
    (OpenSpec.witness (enc := enc) (C := Try.checked) (s := Rows.OpenSpec.upto Rows.tableLessSpec) (k := Rows.uptoSmall) rfl false ⟨#[], #[.slice none 0 0, .int .i64 0, .int .i64 0, .int .i64 0], []⟩ 8 (by kernel_rfl) (by kernel_rfl) (by kernel_rfl)
      (x := ([.nil, .lit (.int .i64 0), .lit (.int .i64 0), .lit (.int .i64 0)], [], [])) (by kernel_rfl) rfl (by kernel_rfl)) ?_
  intro W base args ds gs before hval hW _ hk _
  exact contractTableLess H enc W base args ds gs before hval hk hW
theorem tableLessUptoSaid : Rows.TableLessUptoSaid :=
  OpenClaim.holds_of_cond 6 Try.f6 rfl rfl rfl rfl rfl rfl rfl ⟨rfl, rfl, rfl, rfl, rfl⟩ rfl rfl rfl rfl rfl (by kernel_rfl) Try.func6 (by kernel_rfl)
    (of_decide_eq_true (by kernel_rfl)) (by unfold Func.isWrapper; first | (rw [if_pos (by decide +kernel)]; kernel_rfl) | (rw [if_neg (by decide +kernel)]; exact ⟨rfl, rfl⟩))
    (fun os started H enc _ F => liftedTableLess os started H enc F)
end Go.Proofs.Ytflieebgiejjpaa
