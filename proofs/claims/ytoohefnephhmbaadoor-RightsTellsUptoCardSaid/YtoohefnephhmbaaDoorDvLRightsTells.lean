/- The law RightsTells, where what it reads is of bulk at most 1048576: whatever the input, it returns true, and the input reads as it did. The row lists two tables of the library (unicode/utf8.first, unicode/utf8.acceptRanges): the card ties them to the program's text. -/
import Derived.Test.YtoohefnephhmbaaDoorDvRTls
import Derived.Test.YtoohefnephhmbaaDoorAmZ
import Derived.Test.YtoohefnephhmbaaDoorCards
import Derived.Test.YtoohefnephhmbaaDoorTie
import Derived.WalkKit
import Derived.ProofKit
import Derived.OpenShut
import Derived.Deep.DeepHandedRow
import Derived.JoinedCond
import Derived.KernelRfl
set_option linter.unusedVariables false
namespace Go.Proofs.YtoohefnephhmbaaDoor
open Go.AM Go.ChangeShapes Go.WideShapes Go.ChangeAt Go.RowKit

theorem ownRightsTells : ownKnob Tryd.prog.godebug = none := by kernel_rfl
theorem laidRightsTells : laidOutB Tryd.prog = true := by kernel_rfl
theorem one_le_bulkRightsTells {H : Type} (d : DataW H) : 1 ≤ Rows.uptoBulk d := by
  cases d with
  | lit l => cases l <;> simp [Rows.uptoBulk]
  | _ => simp [Rows.uptoBulk]
theorem wSumRightsTells {H : Type} : ∀ l : List (DataW H), wSum Rows.uptoBulk l = Rows.uptoBulkAll l
  | [] => by simp [wSum, Rows.uptoBulkAll]
  | d :: r => by simp [wSum, Rows.uptoBulkAll, wSumRightsTells r]
def bulkRightsTells (H : Type) : Bulk H where
  f := Rows.uptoBulk
  str s := by simp [Rows.uptoBulk]
  lit l := one_le_bulkRightsTells _
  nil := one_le_bulkRightsTells _
  slice a b := by simp [Rows.uptoBulk, wSumRightsTells]
  agg a := by simp [Rows.uptoBulk, wSumRightsTells]
def shRightsTells : List Sh := [⟨false, [.i .i64]⟩, ⟨false, [.i .i64]⟩, ⟨false, [.s]⟩, ⟨true, [.i .i64, .i .i64]⟩]
theorem shOfRightsTells : shOf Tryd.prog Tryd.f6.params.toList = some shRightsTells := by kernel_rfl
set_option maxRecDepth 100000 in
theorem walkRightsTells (dss : List (List Dt)) (hf : FitsA shRightsTells dss) (hb : Dt.sizeLL dss ≤ 1048576) : ACall Tryd.prog 6 (argsV shRightsTells dss) [] fun r _ => r = vBool true := by
  cases hf with | cons h1 hf =>
  cases hf with | cons h2 hf =>
  cases hf with | cons h3 hf =>
  cases hf with | cons h4 hf =>
  cases hf
  cases h1 with | i _ a _ h1 =>
  cases h1
  cases h2 with | i _ b _ h2 =>
  cases h2
  cases h3 with | s x h3 =>
  cases h3
  cases h4 with | i _ wx _ h4 =>
  cases h4 with | i _ wy _ h4 =>
  cases h4
  obtain ⟨t, rfl⟩ := bysL_of x
  simp only [Dt.sizeLL, Dt.sizeL, Dt.size, bysL_size] at hb
  exact rtells_ok a b t wx wy (by omega)

set_option maxRecDepth 100000 in
theorem contractRightsTells (H : Type) (enc : TypeId × Value → H) (W : World) (base : Nat) (args : Array Value) (ds gs : List (DataW H)) (before : List MemPlace)
    (hval : ∀ (j : Nat) t v, Tryd.f6.params[j]? = some t → args[j]? = some v → Value.okWide Tryd.prog W .any base t v) (hk : Rows.uptoSmall H (ds ++ gs) = true)
    (hW : DataW.Whole enc Tryd.prog Tryd.f6.params.toList Rows.rightsTellsSpec.vars false W args.toList ds gs before) :
    Calls Tryd.prog 6 args W fun e W' => ∃ v, e = .returned v ∧ Rows.rightsTellsSpec.post enc Tryd.prog Tryd.f6 false true false false W args v W' := by
  refine law_contract (bulkRightsTells H) laidRightsTells Tryd.underlying4 (by kernel_rfl) rfl ?_ shOfRightsTells (by kernel_rfl) ?_ hval hW
  · intro ds hds
    match ds, hds with
    | [d1, d2, d3, d4], _ => rfl
  · intro dss hf hsz
    refine walkRightsTells dss hf (Nat.le_trans hsz ?_)
    have h1 : Rows.uptoBulkAll (ds ++ gs) ≤ 1048576 := of_decide_eq_true hk
    have h2 : ∀ a b : List (DataW H), Rows.uptoBulkAll a ≤ Rows.uptoBulkAll (a ++ b) := by
      intro a b
      induction a with
      | nil => simp [Rows.uptoBulkAll]
      | cons x r ih => simp only [List.cons_append, Rows.uptoBulkAll]; omega
    show wSum Rows.uptoBulk ds ≤ 1048576
    rw [wSumRightsTells]
    exact Nat.le_trans (h2 ds gs) h1
def layAtRightsTells (vs : Array Value) : Obj → Obj
  | .cells _ t frozen => .cells vs t frozen
  | o => o
def accRightsTells : Array Value := #[.int .u8 128, .int .u8 191, .int .u8 160, .int .u8 191, .int .u8 128, .int .u8 159, .int .u8 144, .int .u8 191, .int .u8 128, .int .u8 143, .int .u8 0, .int .u8 0, .int .u8 0, .int .u8 0, .int .u8 0, .int .u8 0, .int .u8 0, .int .u8 0, .int .u8 0, .int .u8 0, .int .u8 0, .int .u8 0, .int .u8 0, .int .u8 0, .int .u8 0, .int .u8 0, .int .u8 0, .int .u8 0, .int .u8 0, .int .u8 0, .int .u8 0, .int .u8 0]
/-- a world for the witness: the settled one, the two tables holding what their initialisers lay -/
noncomputable def worldRightsTells (os : Os) : World :=
  { World.holding Tryd.prog os ⟨#[], #[], []⟩ with
    heap := ((World.holding Tryd.prog os ⟨#[], #[], []⟩).heap.modify 0 (layAtRightsTells (Go.Pinned.utf8FirstZ.map fun n => Value.int .u8 ((n : Nat) : Int)).toArray)).modify 1 (layAtRightsTells accRightsTells) }
theorem metRightsTells (os : Os) : laidMet Tryd.prog Rows.rightsTellsUptoRow.laid ((worldRightsTells os).forCall (fun _ _ => 0) ⟨#[], #[.int .i64 0, .int .i64 0, .string ⟨#[]⟩, .agg #[.int .i64 0, .int .i64 0]], []⟩).memory :=
  laidMet_of_run' 8 (by kernel_rfl) (by kernel_rfl)
theorem readsRightsTells (os : Os) {H : Type} (enc : TypeId × Value → H) : ∃ places, DataW.whole enc Tryd.prog ((worldRightsTells os).forCall (fun _ _ => 0) ⟨#[], #[.int .i64 0, .int .i64 0, .string ⟨#[]⟩, .agg #[.int .i64 0, .int .i64 0]], []⟩).memory Tryd.f6.params.toList Rows.rightsTellsSpec.vars false (#[.int .i64 0, .int .i64 0, .string ⟨#[]⟩, .agg #[.int .i64 0, .int .i64 0]] : Array Value).toList 8 = some ([.lit (.int .i64 0), .lit (.int .i64 0), .lit (.string []), .agg [.lit (.int .i64 0), .lit (.int .i64 0)]], [], places) :=
  ⟨[], by kernel_rfl⟩
set_option maxRecDepth 100000 in
theorem liftedRightsTells (os : Os) (started : os.Started) (H : Type) (enc : TypeId × Value → H) (F : Stop.Interp) :
    ReturnsInHanded {} Tryd.checked os 6 .any ((Rows.OpenSpec.upto Rows.rightsTellsSpec).preRow enc Tryd.prog Tryd.f6 Rows.rightsTellsUptoRow.domain false Rows.rightsTellsUptoRow.laid) (((Rows.OpenSpec.upto Rows.rightsTellsSpec).at F).post enc Tryd.prog Tryd.f6 false true false false) := by
  obtain ⟨places, hx⟩ := readsRightsTells os enc
  refine returnsInHanded_of_row (C := Tryd.checked) (s := Rows.OpenSpec.upto Rows.rightsTellsSpec) ownRightsTells started (by kernel_rfl) Tryd.func6
    (witness_row_at (enc := enc) (C := Tryd.checked) false (worldRightsTells os) #[.int .i64 0, .int .i64 0, .string ⟨#[]⟩, .agg #[.int .i64 0, .int .i64 0]] rfl (by kernel_rfl) (by kernel_rfl) (by kernel_rfl)
      (OpenSpec.preRow_of_cond 8 hx (by kernel_rfl) (fun k hk => by cases hk; kernel_rfl) (by kernel_rfl) (metRightsTells os))) ?_
  intro W base args ds gs before hval hW _ hk _ _ _ _
  exact contractRightsTells H enc W base args ds gs before hval (hk _ rfl) hW
theorem rowRightsTells : Rows.RightsTellsUptoSaid :=
  OpenClaim.holds_of_cond 6 Tryd.f6 rfl rfl rfl rfl rfl rfl rfl ⟨rfl, rfl, rfl, rfl, rfl⟩ rfl rfl rfl rfl rfl (by kernel_rfl) Tryd.func6 (by kernel_rfl)
    (of_decide_eq_true (by kernel_rfl)) (by unfold Func.isWrapper; first | (rw [if_pos (by decide +kernel)]; kernel_rfl) | (rw [if_neg (by decide +kernel)]; exact ⟨rfl, rfl⟩))
    (fun os started H enc _ F => by rw [OpenClaim.pre_eq_preRow]; exact liftedRightsTells os started H enc F)
theorem plainRightsTells (f : FuncId) (fn : Func) (hf : Tryd.pinned.checked.prog.funcNamed Tryd.f6.name = some f) (hfn : Tryd.pinned.checked.prog.funcs[f]? = some fn) :
    false = Tryd.pinned.checked.prog.looks [] ∧ ∀ (j : Nat) t, fn.params[j]? = some t → Tryd.pinned.checked.prog.wantsStandIn t = false := by
  obtain rfl : f = 6 := Option.some.inj ((show Tryd.prog.funcNamed Tryd.f6.name = some 6 by kernel_rfl).symm.trans hf) |>.symm
  obtain rfl : fn = Tryd.f6 := (Option.some.inj (Tryd.func6.symm.trans hfn)).symm
  refine ⟨by kernel_rfl, fun j t ht => ?_⟩
  rw [Tryd.params6] at ht
  have ht : t = 3 ∨ t = 9 ∨ t = 33 := by simpa using Array.mem_of_getElem? ht
  rcases ht with rfl | rfl | rfl
  · exact (show Tryd.prog.wantsStandIn 3 = false by kernel_rfl)
  · exact (show Tryd.prog.wantsStandIn 9 = false by kernel_rfl)
  · exact (show Tryd.prog.wantsStandIn 33 = false by kernel_rfl)
theorem rightsTellsUptoCardSaid : Rows.RightsTellsUptoCardSaid :=
  Claim7.holds_tied_plain_at .later [] _ _ _ _ rowRightsTells (fun _ h => by cases h) (by kernel_rfl) (fun _ h => by cases h) rightsTellsUpto_row_tie rfl ⟨rfl, rfl⟩ (by kernel_rfl) rfl plainRightsTells (by kernel_rfl)
end Go.Proofs.YtoohefnephhmbaaDoor

