/- The law PathTurns, where what it reads is of bulk at most 1048576: whatever the input, it returns true, and the input reads as it did. The row lists two tables of the library (unicode/utf8.first, unicode/utf8.acceptRanges): the card ties them to the program's text. -/
import Derived.Test.YtoohefnephhmbaaDoorDvPTur
import Derived.Test.YtoohefnephhmbaaDoorAmZ
import Derived.Test.YtoohefnephhmbaaDoorCards
import Derived.Test.YtoohefnephhmbaaDoorTie
import Derived.WalkKit
import Derived.ProofKit
import Derived.OpenShut
import Derived.Deep.DeepHandedRow
import Derived.JoinedCond
import Derived.KernelRfl
set_option linter.unusedVariables false
namespace Go.Proofs.YtoohefnephhmbaaDoor
open Go.AM Go.ChangeShapes Go.WideShapes Go.ChangeAt Go.RowKit

theorem ownPathTurns : ownKnob Tryd.prog.godebug = none := by kernel_rfl
theorem laidPathTurns : laidOutB Tryd.prog = true := by kernel_rfl
theorem one_le_bulkPathTurns {H : Type} (d : DataW H) : 1 ≤ Rows.uptoBulk d := by
  cases d with
  | lit l => cases l <;> simp [Rows.uptoBulk]
  | _ => simp [Rows.uptoBulk]
theorem wSumPathTurns {H : Type} : ∀ l : List (DataW H), wSum Rows.uptoBulk l = Rows.uptoBulkAll l
  | [] => by simp [wSum, Rows.uptoBulkAll]
  | d :: r => by simp [wSum, Rows.uptoBulkAll, wSumPathTurns r]
def bulkPathTurns (H : Type) : Bulk H where
  f := Rows.uptoBulk
  str s := by simp [Rows.uptoBulk]
  lit l := one_le_bulkPathTurns _
  nil := one_le_bulkPathTurns _
  slice a b := by simp [Rows.uptoBulk, wSumPathTurns]
  agg a := by simp [Rows.uptoBulk, wSumPathTurns]
def shPathTurns : List Sh := [⟨false, [.s]⟩]
theorem shOfPathTurns : shOf Tryd.prog Tryd.f4.params.toList = some shPathTurns := by kernel_rfl
set_option maxRecDepth 100000 in
theorem walkPathTurns (dss : List (List Dt)) (hf : FitsA shPathTurns dss) (hb : Dt.sizeLL dss ≤ 1048576) : ACall Tryd.prog 4 (argsV shPathTurns dss) [] fun r _ => r = vBool true := by
  cases hf with | cons h1 hf =>
  cases hf
  cases h1 with | s x h1 =>
  cases h1
  obtain ⟨t, rfl⟩ := bysL_of x
  simp only [Dt.sizeLL, Dt.sizeL, Dt.size, bysL_size] at hb
  exact pturns_ok t (by omega)

set_option maxRecDepth 100000 in
theorem contractPathTurns (H : Type) (enc : TypeId × Value → H) (W : World) (base : Nat) (args : Array Value) (ds gs : List (DataW H)) (before : List MemPlace)
    (hval : ∀ (j : Nat) t v, Tryd.f4.params[j]? = some t → args[j]? = some v → Value.okWide Tryd.prog W .any base t v) (hk : Rows.uptoSmall H (ds ++ gs) = true)
    (hW : DataW.Whole enc Tryd.prog Tryd.f4.params.toList Rows.pathTurnsSpec.vars false W args.toList ds gs before) :
    Calls Tryd.prog 4 args W fun e W' => ∃ v, e = .returned v ∧ Rows.pathTurnsSpec.post enc Tryd.prog Tryd.f4 false true false false W args v W' := by
  refine law_contract (bulkPathTurns H) laidPathTurns Tryd.underlying4 (by kernel_rfl) rfl ?_ shOfPathTurns (by kernel_rfl) ?_ hval hW
  · intro ds hds
    match ds, hds with
    | [d1], _ => rfl
  · intro dss hf hsz
    refine walkPathTurns dss hf (Nat.le_trans hsz ?_)
    have h1 : Rows.uptoBulkAll (ds ++ gs) ≤ 1048576 := of_decide_eq_true hk
    have h2 : ∀ a b : List (DataW H), Rows.uptoBulkAll a ≤ Rows.uptoBulkAll (a ++ b) := by
      intro a b
      induction a with
      | nil => simp [Rows.uptoBulkAll]
      | cons x r ih => simp only [List.cons_append, Rows.uptoBulkAll]; omega
    show wSum Rows.uptoBulk ds ≤ 1048576
    rw [wSumPathTurns]
    exact Nat.le_trans (h2 ds gs) h1
def layAtPathTurns (vs : Array Value) : Obj → Obj
  | .cells _ t frozen => .cells vs t frozen
  | o => o
def accPathTurns : Array Value := #[.int .u8 128, .int .u8 191, .int .u8 160, .int .u8 191, .int .u8 128, .int .u8 159, .int .u8 144, .int .u8 191, .int .u8 128, .int .u8 143, .int .u8 0, .int .u8 0, .int .u8 0, .int .u8 0, .int .u8 0, .int .u8 0, .int .u8 0, .int .u8 0, .int .u8 0, .int .u8 0, .int .u8 0, .int .u8 0, .int .u8 0, .int .u8 0, .int .u8 0, .int .u8 0, .int .u8 0, .int .u8 0, .int .u8 0, .int .u8 0, .int .u8 0, .int .u8 0]
/-- a world for the witness: the settled one, the two tables holding what their initialisers lay -/
noncomputable def worldPathTurns (os : Os) : World :=
  { World.holding Tryd.prog os ⟨#[], #[], []⟩ with
    heap := ((World.holding Tryd.prog os ⟨#[], #[], []⟩).heap.modify 0 (layAtPathTurns (Go.Pinned.utf8FirstZ.map fun n => Value.int .u8 ((n : Nat) : Int)).toArray)).modify 1 (layAtPathTurns accPathTurns) }
theorem metPathTurns (os : Os) : laidMet Tryd.prog Rows.pathTurnsUptoRow.laid ((worldPathTurns os).forCall (fun _ _ => 0) ⟨#[], #[.string ⟨#[]⟩], []⟩).memory :=
  laidMet_of_run' 8 (by kernel_rfl) (by kernel_rfl)
theorem readsPathTurns (os : Os) {H : Type} (enc : TypeId × Value → H) : ∃ places, DataW.whole enc Tryd.prog ((worldPathTurns os).forCall (fun _ _ => 0) ⟨#[], #[.string ⟨#[]⟩], []⟩).memory Tryd.f4.params.toList Rows.pathTurnsSpec.vars false (#[.string ⟨#[]⟩] : Array Value).toList 8 = some ([.lit (.string [])], [], places) :=
  ⟨[], by kernel_rfl⟩
set_option maxRecDepth 100000 in
theorem liftedPathTurns (os : Os) (started : os.Started) (H : Type) (enc : TypeId × Value → H) (F : Stop.Interp) :
    ReturnsInHanded {} Tryd.checked os 4 .any ((Rows.OpenSpec.upto Rows.pathTurnsSpec).preRow enc Tryd.prog Tryd.f4 Rows.pathTurnsUptoRow.domain false Rows.pathTurnsUptoRow.laid) (((Rows.OpenSpec.upto Rows.pathTurnsSpec).at F).post enc Tryd.prog Tryd.f4 false true false false) := by
  obtain ⟨places, hx⟩ := readsPathTurns os enc
  refine returnsInHanded_of_row (C := Tryd.checked) (s := Rows.OpenSpec.upto Rows.pathTurnsSpec) ownPathTurns started (by kernel_rfl) Tryd.func4
    (witness_row_at (enc := enc) (C := Tryd.checked) false (worldPathTurns os) #[.string ⟨#[]⟩] rfl (by kernel_rfl) (by kernel_rfl) (by kernel_rfl)
      (OpenSpec.preRow_of_cond 8 hx (by kernel_rfl) (fun k hk => by cases hk; kernel_rfl) (by kernel_rfl) (metPathTurns os))) ?_
  intro W base args ds gs before hval hW _ hk _ _ _ _
  exact contractPathTurns H enc W base args ds gs before hval (hk _ rfl) hW
theorem rowPathTurns : Rows.PathTurnsUptoSaid :=
  OpenClaim.holds_of_cond 4 Tryd.f4 rfl rfl rfl rfl rfl rfl rfl ⟨rfl, rfl, rfl, rfl, rfl⟩ rfl rfl rfl rfl rfl (by kernel_rfl) Tryd.func4 (by kernel_rfl)
    (of_decide_eq_true (by kernel_rfl)) (by unfold Func.isWrapper; first | (rw [if_pos (by decide +kernel)]; kernel_rfl) | (rw [if_neg (by decide +kernel)]; exact ⟨rfl, rfl⟩))
    (fun os started H enc _ F => by rw [OpenClaim.pre_eq_preRow]; exact liftedPathTurns os started H enc F)
theorem plainPathTurns (f : FuncId) (fn : Func) (hf : Tryd.pinned.checked.prog.funcNamed Tryd.f4.name = some f) (hfn : Tryd.pinned.checked.prog.funcs[f]? = some fn) :
    false = Tryd.pinned.checked.prog.looks [] ∧ ∀ (j : Nat) t, fn.params[j]? = some t → Tryd.pinned.checked.prog.wantsStandIn t = false := by
  obtain rfl : f = 4 := Option.some.inj ((show Tryd.prog.funcNamed Tryd.f4.name = some 4 by kernel_rfl).symm.trans hf) |>.symm
  obtain rfl : fn = Tryd.f4 := (Option.some.inj (Tryd.func4.symm.trans hfn)).symm
  refine ⟨by kernel_rfl, fun j t ht => ?_⟩
  rw [Tryd.params4] at ht
  have ht : t = 9 := by simpa using Array.mem_of_getElem? ht
  subst ht
  exact (show Tryd.prog.wantsStandIn 9 = false by kernel_rfl)
theorem pathTurnsUptoCardSaid : Rows.PathTurnsUptoCardSaid :=
  Claim7.holds_tied_plain_at .later [] _ _ _ _ rowPathTurns (fun _ h => by cases h) (by kernel_rfl) (fun _ h => by cases h) pathTurnsUpto_row_tie rfl ⟨rfl, rfl⟩ (by kernel_rfl) rfl plainPathTurns (by kernel_rfl)
end Go.Proofs.YtoohefnephhmbaaDoor

