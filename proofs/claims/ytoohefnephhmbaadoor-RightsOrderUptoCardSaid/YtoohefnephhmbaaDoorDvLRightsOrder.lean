/- The law RightsOrder, where what it reads is of bulk at most 1048576: whatever the input, it returns true, and the input reads as it did. The row lists two tables of the library (unicode/utf8.first, unicode/utf8.acceptRanges): the card ties them to the program's text. -/
import Derived.Test.YtoohefnephhmbaaDoorDvROrd
import Derived.Test.YtoohefnephhmbaaDoorAmZ
import Derived.Test.YtoohefnephhmbaaDoorCards
import Derived.Test.YtoohefnephhmbaaDoorTie
import Derived.WalkKit
import Derived.ProofKit
import Derived.OpenShut
import Derived.Deep.DeepHandedRow
import Derived.JoinedCond
import Derived.KernelRfl
set_option linter.unusedVariables false
namespace Go.Proofs.YtoohefnephhmbaaDoor
open Go.AM Go.ChangeShapes Go.WideShapes Go.ChangeAt Go.RowKit

theorem ownRightsOrder : ownKnob Tryd.prog.godebug = none := by kernel_rfl
theorem laidRightsOrder : laidOutB Tryd.prog = true := by kernel_rfl
theorem one_le_bulkRightsOrder {H : Type} (d : DataW H) : 1 ≤ Rows.uptoBulk d := by
  cases d with
  | lit l => cases l <;> simp [Rows.uptoBulk]
  | _ => simp [Rows.uptoBulk]
theorem wSumRightsOrder {H : Type} : ∀ l : List (DataW H), wSum Rows.uptoBulk l = Rows.uptoBulkAll l
  | [] => by simp [wSum, Rows.uptoBulkAll]
  | d :: r => by simp [wSum, Rows.uptoBulkAll, wSumRightsOrder r]
def bulkRightsOrder (H : Type) : Bulk H where
  f := Rows.uptoBulk
  str s := by simp [Rows.uptoBulk]
  lit l := one_le_bulkRightsOrder _
  nil := one_le_bulkRightsOrder _
  slice a b := by simp [Rows.uptoBulk, wSumRightsOrder]
  agg a := by simp [Rows.uptoBulk, wSumRightsOrder]
def shRightsOrder : List Sh := [⟨false, [.i .i64]⟩, ⟨false, [.i .i64]⟩, ⟨false, [.i .i64]⟩]
theorem shOfRightsOrder : shOf Tryd.prog Tryd.f7.params.toList = some shRightsOrder := by kernel_rfl
set_option maxRecDepth 100000 in
theorem walkRightsOrder (dss : List (List Dt)) (hf : FitsA shRightsOrder dss) (hb : Dt.sizeLL dss ≤ 1048576) : ACall Tryd.prog 7 (argsV shRightsOrder dss) [] fun r _ => r = vBool true := by
  cases hf with | cons h1 hf =>
  cases hf with | cons h2 hf =>
  cases hf with | cons h3 hf =>
  cases hf
  cases h1 with | i _ a _ h1 =>
  cases h1
  cases h2 with | i _ b _ h2 =>
  cases h2
  cases h3 with | i _ c _ h3 =>
  cases h3
  exact rorder_ok a b c

set_option maxRecDepth 100000 in
theorem contractRightsOrder (H : Type) (enc : TypeId × Value → H) (W : World) (base : Nat) (args : Array Value) (ds gs : List (DataW H)) (before : List MemPlace)
    (hval : ∀ (j : Nat) t v, Tryd.f7.params[j]? = some t → args[j]? = some v → Value.okWide Tryd.prog W .any base t v) (hk : Rows.uptoSmall H (ds ++ gs) = true)
    (hW : DataW.Whole enc Tryd.prog Tryd.f7.params.toList Rows.rightsOrderSpec.vars false W args.toList ds gs before) :
    Calls Tryd.prog 7 args W fun e W' => ∃ v, e = .returned v ∧ Rows.rightsOrderSpec.post enc Tryd.prog Tryd.f7 false true false false W args v W' := by
  refine law_contract (bulkRightsOrder H) laidRightsOrder Tryd.underlying4 (by kernel_rfl) rfl ?_ shOfRightsOrder (by kernel_rfl) ?_ hval hW
  · intro ds hds
    match ds, hds with
    | [d1, d2, d3], _ => rfl
  · intro dss hf hsz
    refine walkRightsOrder dss hf (Nat.le_trans hsz ?_)
    have h1 : Rows.uptoBulkAll (ds ++ gs) ≤ 1048576 := of_decide_eq_true hk
    have h2 : ∀ a b : List (DataW H), Rows.uptoBulkAll a ≤ Rows.uptoBulkAll (a ++ b) := by
      intro a b
      induction a with
      | nil => simp [Rows.uptoBulkAll]
      | cons x r ih => simp only [List.cons_append, Rows.uptoBulkAll]; omega
    show wSum Rows.uptoBulk ds ≤ 1048576
    rw [wSumRightsOrder]
    exact Nat.le_trans (h2 ds gs) h1
def layAtRightsOrder (vs : Array Value) : Obj → Obj
  | .cells _ t frozen => .cells vs t frozen
  | o => o
def accRightsOrder : Array Value := #[.int .u8 128, .int .u8 191, .int .u8 160, .int .u8 191, .int .u8 128, .int .u8 159, .int .u8 144, .int .u8 191, .int .u8 128, .int .u8 143, .int .u8 0, .int .u8 0, .int .u8 0, .int .u8 0, .int .u8 0, .int .u8 0, .int .u8 0, .int .u8 0, .int .u8 0, .int .u8 0, .int .u8 0, .int .u8 0, .int .u8 0, .int .u8 0, .int .u8 0, .int .u8 0, .int .u8 0, .int .u8 0, .int .u8 0, .int .u8 0, .int .u8 0, .int .u8 0]
/-- a world for the witness: the settled one, the two tables holding what their initialisers lay -/
noncomputable def worldRightsOrder (os : Os) : World :=
  { World.holding Tryd.prog os ⟨#[], #[], []⟩ with
    heap := ((World.holding Tryd.prog os ⟨#[], #[], []⟩).heap.modify 0 (layAtRightsOrder (Go.Pinned.utf8FirstZ.map fun n => Value.int .u8 ((n : Nat) : Int)).toArray)).modify 1 (layAtRightsOrder accRightsOrder) }
theorem metRightsOrder (os : Os) : laidMet Tryd.prog Rows.rightsOrderUptoRow.laid ((worldRightsOrder os).forCall (fun _ _ => 0) ⟨#[], #[.int .i64 0, .int .i64 0, .int .i64 0], []⟩).memory :=
  laidMet_of_run' 8 (by kernel_rfl) (by kernel_rfl)
theorem readsRightsOrder (os : Os) {H : Type} (enc : TypeId × Value → H) : ∃ places, DataW.whole enc Tryd.prog ((worldRightsOrder os).forCall (fun _ _ => 0) ⟨#[], #[.int .i64 0, .int .i64 0, .int .i64 0], []⟩).memory Tryd.f7.params.toList Rows.rightsOrderSpec.vars false (#[.int .i64 0, .int .i64 0, .int .i64 0] : Array Value).toList 8 = some ([.lit (.int .i64 0), .lit (.int .i64 0), .lit (.int .i64 0)], [], places) :=
  ⟨[], by kernel_rfl⟩
set_option maxRecDepth 100000 in
theorem liftedRightsOrder (os : Os) (started : os.Started) (H : Type) (enc : TypeId × Value → H) (F : Stop.Interp) :
    ReturnsInHanded {} Tryd.checked os 7 .any ((Rows.OpenSpec.upto Rows.rightsOrderSpec).preRow enc Tryd.prog Tryd.f7 Rows.rightsOrderUptoRow.domain false Rows.rightsOrderUptoRow.laid) (((Rows.OpenSpec.upto Rows.rightsOrderSpec).at F).post enc Tryd.prog Tryd.f7 false true false false) := by
  obtain ⟨places, hx⟩ := readsRightsOrder os enc
  refine returnsInHanded_of_row (C := Tryd.checked) (s := Rows.OpenSpec.upto Rows.rightsOrderSpec) ownRightsOrder started (by kernel_rfl) Tryd.func7
    (witness_row_at (enc := enc) (C := Tryd.checked) false (worldRightsOrder os) #[.int .i64 0, .int .i64 0, .int .i64 0] rfl (by kernel_rfl) (by kernel_rfl) (by kernel_rfl)
      (OpenSpec.preRow_of_cond 8 hx (by kernel_rfl) (fun k hk => by cases hk; kernel_rfl) (by kernel_rfl) (metRightsOrder os))) ?_
  intro W base args ds gs before hval hW _ hk _ _ _ _
  exact contractRightsOrder H enc W base args ds gs before hval (hk _ rfl) hW
theorem rowRightsOrder : Rows.RightsOrderUptoSaid :=
  OpenClaim.holds_of_cond 7 Tryd.f7 rfl rfl rfl rfl rfl rfl rfl ⟨rfl, rfl, rfl, rfl, rfl⟩ rfl rfl rfl rfl rfl (by kernel_rfl) Tryd.func7 (by kernel_rfl)
    (of_decide_eq_true (by kernel_rfl)) (by unfold Func.isWrapper; first | (rw [if_pos (by decide +kernel)]; kernel_rfl) | (rw [if_neg (by decide +kernel)]; exact ⟨rfl, rfl⟩))
    (fun os started H enc _ F => by rw [OpenClaim.pre_eq_preRow]; exact liftedRightsOrder os started H enc F)
theorem plainRightsOrder (f : FuncId) (fn : Func) (hf : Tryd.pinned.checked.prog.funcNamed Tryd.f7.name = some f) (hfn : Tryd.pinned.checked.prog.funcs[f]? = some fn) :
    false = Tryd.pinned.checked.prog.looks [] ∧ ∀ (j : Nat) t, fn.params[j]? = some t → Tryd.pinned.checked.prog.wantsStandIn t = false := by
  obtain rfl : f = 7 := Option.some.inj ((show Tryd.prog.funcNamed Tryd.f7.name = some 7 by kernel_rfl).symm.trans hf) |>.symm
  obtain rfl : fn = Tryd.f7 := (Option.some.inj (Tryd.func7.symm.trans hfn)).symm
  refine ⟨by kernel_rfl, fun j t ht => ?_⟩
  rw [Tryd.params7] at ht
  have ht : t = 3 := by simpa using Array.mem_of_getElem? ht
  subst ht
  exact (show Tryd.prog.wantsStandIn 3 = false by kernel_rfl)
theorem rightsOrderUptoCardSaid : Rows.RightsOrderUptoCardSaid :=
  Claim7.holds_tied_plain_at .later [] _ _ _ _ rowRightsOrder (fun _ h => by cases h) (by kernel_rfl) (fun _ h => by cases h) rightsOrderUpto_row_tie rfl ⟨rfl, rfl⟩ (by kernel_rfl) rfl plainRightsOrder (by kernel_rfl)
end Go.Proofs.YtoohefnephhmbaaDoor

