/- The law PathDepth, where what it reads is of bulk at most 1048576: whatever the input, it returns true, and the input reads as it did. The row lists two tables of the library (unicode/utf8.first, unicode/utf8.acceptRanges): the card ties them to the program's text. -/
import Derived.Test.YtoohefnephhmbaaDoorDvPDpl
import Derived.Test.YtoohefnephhmbaaDoorAmZ
import Derived.Test.YtoohefnephhmbaaDoorCards
import Derived.Test.YtoohefnephhmbaaDoorTie
import Derived.WalkKit
import Derived.ProofKit
import Derived.OpenShut
import Derived.Deep.DeepHandedRow
import Derived.JoinedCond
import Derived.KernelRfl
set_option linter.unusedVariables false
namespace Go.Proofs.YtoohefnephhmbaaDoor
open Go.AM Go.ChangeShapes Go.WideShapes Go.ChangeAt Go.RowKit
theorem txs_of {elems : List (List Dt)} (h : ∀ e, e ∈ elems → Fits [.s] e) : ∃ l : List Txt, elems = l.map tD ∧ l.length ≤ Dt.sizeLL elems ∧ (joinT [47] l).length ≤ Dt.sizeLL elems := by
  obtain ⟨l, _, he⟩ := fits_rows tD (fun _ => True) (fun e hf => by
    cases hf with | s x hf => cases hf with | nil => exact ⟨x.data.toList, trivial, rfl⟩) h
  have key : ∀ l : List Txt, l.length ≤ Dt.sizeLL (l.map tD) ∧ Lib.lens l + l.length ≤ Dt.sizeLL (l.map tD) := by
    intro l
    induction l with
    | nil => simp [Lib.lens]
    | cons x r ih =>
      have hl : Lib.lens (x :: r) = x.length + Lib.lens r := by simp [Lib.lens]
      rw [hl]
      simp only [List.map_cons, List.length_cons, Dt.sizeLL, tD, Dt.sizeL, Dt.size, bysL_size] at ih ⊢
      omega
  refine ⟨l, he, ?_, ?_⟩
  · rw [he]; exact (key l).1
  · have h2 := (key l).2
    rw [he]
    refine Nat.le_trans ?_ h2
    cases l with
    | nil => simp [joinT_nil]
    | cons x r =>
      have hl : Lib.lens (x :: r) = x.length + Lib.lens r := by simp [Lib.lens]
      rw [joinT_cons, List.length_append, Lib.joinTail_length, hl]
      simp only [List.length_cons, List.length_nil]
      omega

theorem ownPathDepth : ownKnob Tryd.prog.godebug = none := by kernel_rfl
theorem laidPathDepth : laidOutB Tryd.prog = true := by kernel_rfl
theorem one_le_bulkPathDepth {H : Type} (d : DataW H) : 1 ≤ Rows.uptoBulk d := by
  cases d with
  | lit l => cases l <;> simp [Rows.uptoBulk]
  | _ => simp [Rows.uptoBulk]
theorem wSumPathDepth {H : Type} : ∀ l : List (DataW H), wSum Rows.uptoBulk l = Rows.uptoBulkAll l
  | [] => by simp [wSum, Rows.uptoBulkAll]
  | d :: r => by simp [wSum, Rows.uptoBulkAll, wSumPathDepth r]
def bulkPathDepth (H : Type) : Bulk H where
  f := Rows.uptoBulk
  str s := by simp [Rows.uptoBulk]
  lit l := one_le_bulkPathDepth _
  nil := one_le_bulkPathDepth _
  slice a b := by simp [Rows.uptoBulk, wSumPathDepth]
  agg a := by simp [Rows.uptoBulk, wSumPathDepth]
def shPathDepth : List Sh := [⟨false, [.sl [.s]]⟩]
theorem shOfPathDepth : shOf Tryd.prog Tryd.f5.params.toList = some shPathDepth := by kernel_rfl
set_option maxRecDepth 100000 in
theorem walkPathDepth (dss : List (List Dt)) (hf : FitsA shPathDepth dss) (hb : Dt.sizeLL dss ≤ 1048576) : ACall Tryd.prog 5 (argsV shPathDepth dss) [] fun r _ => r = vBool true := by
  cases hf with | cons h1 hf =>
  cases hf
  cases h1 with | sl _ elems he h1 =>
  cases h1
  obtain ⟨l, rfl, h1, h2⟩ := txs_of he
  simp only [Dt.sizeLL, Dt.sizeL, Dt.size] at hb
  exact pdepth_ok l (by omega)

set_option maxRecDepth 100000 in
theorem contractPathDepth (H : Type) (enc : TypeId × Value → H) (W : World) (base : Nat) (args : Array Value) (ds gs : List (DataW H)) (before : List MemPlace)
    (hval : ∀ (j : Nat) t v, Tryd.f5.params[j]? = some t → args[j]? = some v → Value.okWide Tryd.prog W .any base t v) (hk : Rows.uptoSmall H (ds ++ gs) = true)
    (hW : DataW.Whole enc Tryd.prog Tryd.f5.params.toList Rows.pathDepthSpec.vars false W args.toList ds gs before) :
    Calls Tryd.prog 5 args W fun e W' => ∃ v, e = .returned v ∧ Rows.pathDepthSpec.post enc Tryd.prog Tryd.f5 false true false false W args v W' := by
  refine law_contract (bulkPathDepth H) laidPathDepth Tryd.underlying4 (by kernel_rfl) rfl ?_ shOfPathDepth (by kernel_rfl) ?_ hval hW
  · intro ds hds
    match ds, hds with
    | [d1], _ => rfl
  · intro dss hf hsz
    refine walkPathDepth dss hf (Nat.le_trans hsz ?_)
    have h1 : Rows.uptoBulkAll (ds ++ gs) ≤ 1048576 := of_decide_eq_true hk
    have h2 : ∀ a b : List (DataW H), Rows.uptoBulkAll a ≤ Rows.uptoBulkAll (a ++ b) := by
      intro a b
      induction a with
      | nil => simp [Rows.uptoBulkAll]
      | cons x r ih => simp only [List.cons_append, Rows.uptoBulkAll]; omega
    show wSum Rows.uptoBulk ds ≤ 1048576
    rw [wSumPathDepth]
    exact Nat.le_trans (h2 ds gs) h1
def layAtPathDepth (vs : Array Value) : Obj → Obj
  | .cells _ t frozen => .cells vs t frozen
  | o => o
def accPathDepth : Array Value := #[.int .u8 128, .int .u8 191, .int .u8 160, .int .u8 191, .int .u8 128, .int .u8 159, .int .u8 144, .int .u8 191, .int .u8 128, .int .u8 143, .int .u8 0, .int .u8 0, .int .u8 0, .int .u8 0, .int .u8 0, .int .u8 0, .int .u8 0, .int .u8 0, .int .u8 0, .int .u8 0, .int .u8 0, .int .u8 0, .int .u8 0, .int .u8 0, .int .u8 0, .int .u8 0, .int .u8 0, .int .u8 0, .int .u8 0, .int .u8 0, .int .u8 0, .int .u8 0]
/-- a world for the witness: the settled one, the two tables holding what their initialisers lay -/
noncomputable def worldPathDepth (os : Os) : World :=
  { World.holding Tryd.prog os ⟨#[], #[], []⟩ with
    heap := ((World.holding Tryd.prog os ⟨#[], #[], []⟩).heap.modify 0 (layAtPathDepth (Go.Pinned.utf8FirstZ.map fun n => Value.int .u8 ((n : Nat) : Int)).toArray)).modify 1 (layAtPathDepth accPathDepth) }
theorem metPathDepth (os : Os) : laidMet Tryd.prog Rows.pathDepthUptoRow.laid ((worldPathDepth os).forCall (fun _ _ => 0) ⟨#[], #[.slice none 0 0], []⟩).memory :=
  laidMet_of_run' 8 (by kernel_rfl) (by kernel_rfl)
theorem readsPathDepth (os : Os) {H : Type} (enc : TypeId × Value → H) : ∃ places, DataW.whole enc Tryd.prog ((worldPathDepth os).forCall (fun _ _ => 0) ⟨#[], #[.slice none 0 0], []⟩).memory Tryd.f5.params.toList Rows.pathDepthSpec.vars false (#[.slice none 0 0] : Array Value).toList 8 = some ([.nil], [], places) :=
  ⟨[], by kernel_rfl⟩
set_option maxRecDepth 100000 in
theorem liftedPathDepth (os : Os) (started : os.Started) (H : Type) (enc : TypeId × Value → H) (F : Stop.Interp) :
    ReturnsInHanded {} Tryd.checked os 5 .any ((Rows.OpenSpec.upto Rows.pathDepthSpec).preRow enc Tryd.prog Tryd.f5 Rows.pathDepthUptoRow.domain false Rows.pathDepthUptoRow.laid) (((Rows.OpenSpec.upto Rows.pathDepthSpec).at F).post enc Tryd.prog Tryd.f5 false true false false) := by
  obtain ⟨places, hx⟩ := readsPathDepth os enc
  refine returnsInHanded_of_row (C := Tryd.checked) (s := Rows.OpenSpec.upto Rows.pathDepthSpec) ownPathDepth started (by kernel_rfl) Tryd.func5
    (witness_row_at (enc := enc) (C := Tryd.checked) false (worldPathDepth os) #[.slice none 0 0] rfl (by kernel_rfl) (by kernel_rfl) (by kernel_rfl)
      (OpenSpec.preRow_of_cond 8 hx (by kernel_rfl) (fun k hk => by cases hk; kernel_rfl) (by kernel_rfl) (metPathDepth os))) ?_
  intro W base args ds gs before hval hW _ hk _ _ _ _
  exact contractPathDepth H enc W base args ds gs before hval (hk _ rfl) hW
theorem rowPathDepth : Rows.PathDepthUptoSaid :=
  OpenClaim.holds_of_cond 5 Tryd.f5 rfl rfl rfl rfl rfl rfl rfl ⟨rfl, rfl, rfl, rfl, rfl⟩ rfl rfl rfl rfl rfl (by kernel_rfl) Tryd.func5 (by kernel_rfl)
    (of_decide_eq_true (by kernel_rfl)) (by unfold Func.isWrapper; first | (rw [if_pos (by decide +kernel)]; kernel_rfl) | (rw [if_neg (by decide +kernel)]; exact ⟨rfl, rfl⟩))
    (fun os started H enc _ F => by rw [OpenClaim.pre_eq_preRow]; exact liftedPathDepth os started H enc F)
theorem plainPathDepth (f : FuncId) (fn : Func) (hf : Tryd.pinned.checked.prog.funcNamed Tryd.f5.name = some f) (hfn : Tryd.pinned.checked.prog.funcs[f]? = some fn) :
    false = Tryd.pinned.checked.prog.looks [] ∧ ∀ (j : Nat) t, fn.params[j]? = some t → Tryd.pinned.checked.prog.wantsStandIn t = false := by
  obtain rfl : f = 5 := Option.some.inj ((show Tryd.prog.funcNamed Tryd.f5.name = some 5 by kernel_rfl).symm.trans hf) |>.symm
  obtain rfl : fn = Tryd.f5 := (Option.some.inj (Tryd.func5.symm.trans hfn)).symm
  refine ⟨by kernel_rfl, fun j t ht => ?_⟩
  rw [Tryd.params5] at ht
  have ht : t = 22 := by simpa using Array.mem_of_getElem? ht
  subst ht
  exact (show Tryd.prog.wantsStandIn 22 = false by kernel_rfl)
theorem pathDepthUptoCardSaid : Rows.PathDepthUptoCardSaid :=
  Claim7.holds_tied_plain_at .later [] _ _ _ _ rowPathDepth (fun _ h => by cases h) (by kernel_rfl) (fun _ h => by cases h) pathDepthUpto_row_tie rfl ⟨rfl, rfl⟩ (by kernel_rfl) rfl plainPathDepth (by kernel_rfl)
end Go.Proofs.YtoohefnephhmbaaDoor

