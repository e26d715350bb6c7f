/- The law LookSame, where what it reads is of bulk at most 1048576: whatever the input, it returns true, and the input reads as it did. The row lists two tables of the library (unicode/utf8.first, unicode/utf8.acceptRanges): the card ties them to the program's text. -/
import Derived.Test.YtppecaflkpklfaaDoorDvGy
import Derived.Test.YtppecaflkpklfaaDoorAmZ
import Derived.Test.YtppecaflkpklfaaDoorCards
import Derived.Test.YtppecaflkpklfaaDoorTie
import Derived.WalkKit
import Derived.ProofKit
import Derived.OpenShut
import Derived.Deep.DeepHandedRow
import Derived.JoinedCond
import Derived.KernelRfl
set_option linter.unusedVariables false
namespace Go.Proofs.YtppecaflkpklfaaDoor
open Go.AM Go.ChangeShapes Go.WideShapes Go.ChangeAt Go.RowKit
theorem bys_of {elems : List (List Dt)} (h : ∀ e, e ∈ elems → Fits [.i .u8] e) : ∃ l : List Int, elems = byD l ∧ (∀ x, x ∈ l → 0 ≤ x ∧ x ≤ 255) ∧ l.length ≤ Dt.sizeLL elems := by
  obtain ⟨l, hl, he⟩ := fits_rows (fun x : Int => [Dt.val (.int .u8 x)]) (fun x => 0 ≤ x ∧ x ≤ 255) (fun e hf => by
    cases hf with | i _ a ha hf => cases hf with | nil => exact ⟨a, by simpa [Lit.wf, IntKind.min, IntKind.max, IntKind.signed, IntKind.bits] using ha, rfl⟩) h
  refine ⟨l, he, hl, ?_⟩
  have := Dt.sizeLL_len elems fun e hx => (h e hx).ne (by simp)
  rw [he] at this ⊢
  simpa using this

theorem ownLookSame : ownKnob Tryd.prog.godebug = none := by kernel_rfl
theorem laidLookSame : laidOutB Tryd.prog = true := by kernel_rfl
theorem one_le_bulkLookSame {H : Type} (d : DataW H) : 1 ≤ Rows.uptoBulk d := by
  cases d with
  | lit l => cases l <;> simp [Rows.uptoBulk]
  | _ => simp [Rows.uptoBulk]
theorem wSumLookSame {H : Type} : ∀ l : List (DataW H), wSum Rows.uptoBulk l = Rows.uptoBulkAll l
  | [] => by simp [wSum, Rows.uptoBulkAll]
  | d :: r => by simp [wSum, Rows.uptoBulkAll, wSumLookSame r]
def bulkLookSame (H : Type) : Bulk H where
  f := Rows.uptoBulk
  str s := by simp [Rows.uptoBulk]
  lit l := one_le_bulkLookSame _
  nil := one_le_bulkLookSame _
  slice a b := by simp [Rows.uptoBulk, wSumLookSame]
  agg a := by simp [Rows.uptoBulk, wSumLookSame]
def shLookSame : List Sh := [⟨false, [.sl [.i .u8]]⟩, ⟨false, [.i .i64]⟩, ⟨false, [.s]⟩, ⟨false, [.b]⟩]
theorem shOfLookSame : shOf Tryd.prog Tryd.f5.params.toList = some shLookSame := by kernel_rfl
set_option maxRecDepth 100000 in
theorem walkLookSame (dss : List (List Dt)) (hf : FitsA shLookSame dss) (hb : Dt.sizeLL dss ≤ 1048576) : ACall Tryd.prog 5 (argsV shLookSame dss) [] fun r _ => r = vBool true := by
  cases hf with | cons h1 hf =>
  cases hf with | cons h2 hf =>
  cases hf with | cons h3 hf =>
  cases hf with | cons h4 hf =>
  cases hf
  cases h1 with | sl _ elems1 he1 h1 =>
  cases h1
  cases h2 with | i _ v2 _ h2 =>
  cases h2
  cases h3 with | s x3 h3 =>
  cases h3
  cases h4 with | b v4 h4 =>
  cases h4
  obtain ⟨v1, rfl, hv1, hl1⟩ := bys_of he1
  obtain ⟨v3, rfl⟩ := Pth.bysL_of x3
  exact lsame_ok v1 hv1 v2 v3 v4

set_option maxRecDepth 100000 in
theorem contractLookSame (H : Type) (enc : TypeId × Value → H) (W : World) (base : Nat) (args : Array Value) (ds gs : List (DataW H)) (before : List MemPlace)
    (hval : ∀ (j : Nat) t v, Tryd.f5.params[j]? = some t → args[j]? = some v → Value.okWide Tryd.prog W .any base t v) (hk : Rows.uptoSmall H (ds ++ gs) = true)
    (hW : DataW.Whole enc Tryd.prog Tryd.f5.params.toList Rows.lookSameSpec.vars false W args.toList ds gs before) :
    Calls Tryd.prog 5 args W fun e W' => ∃ v, e = .returned v ∧ Rows.lookSameSpec.post enc Tryd.prog Tryd.f5 false true false false W args v W' := by
  refine law_contract (bulkLookSame H) laidLookSame Tryd.underlying4 (by kernel_rfl) rfl ?_ shOfLookSame (by kernel_rfl) ?_ hval hW
  · intro ds hds
    match ds, hds with
    | [d1, d2, d3, d4], _ => rfl
  · intro dss hf hsz
    refine walkLookSame dss hf (Nat.le_trans hsz ?_)
    have h1 : Rows.uptoBulkAll (ds ++ gs) ≤ 1048576 := of_decide_eq_true hk
    have h2 : ∀ a b : List (DataW H), Rows.uptoBulkAll a ≤ Rows.uptoBulkAll (a ++ b) := by
      intro a b
      induction a with
      | nil => simp [Rows.uptoBulkAll]
      | cons x r ih => simp only [List.cons_append, Rows.uptoBulkAll]; omega
    show wSum Rows.uptoBulk ds ≤ 1048576
    rw [wSumLookSame]
    exact Nat.le_trans (h2 ds gs) h1
def layAtLookSame (vs : Array Value) : Go.Obj → Go.Obj
  | .cells _ t frozen => .cells vs t frozen
  | o => o
def accLookSame : Array Value := #[.int .u8 128, .int .u8 191, .int .u8 160, .int .u8 191, .int .u8 128, .int .u8 159, .int .u8 144, .int .u8 191, .int .u8 128, .int .u8 143, .int .u8 0, .int .u8 0, .int .u8 0, .int .u8 0, .int .u8 0, .int .u8 0, .int .u8 0, .int .u8 0, .int .u8 0, .int .u8 0, .int .u8 0, .int .u8 0, .int .u8 0, .int .u8 0, .int .u8 0, .int .u8 0, .int .u8 0, .int .u8 0, .int .u8 0, .int .u8 0, .int .u8 0, .int .u8 0]
/-- a world for the witness: the settled one, the two tables holding what their initialisers lay -/
noncomputable def worldLookSame (os : Os) : World :=
  { World.holding Tryd.prog os ⟨#[], #[], []⟩ with
    heap := ((World.holding Tryd.prog os ⟨#[], #[], []⟩).heap.modify 0 (layAtLookSame (Go.Pinned.utf8FirstZ.map fun n => Value.int .u8 ((n : Nat) : Int)).toArray)).modify 1 (layAtLookSame accLookSame) }
theorem metLookSame (os : Os) : laidMet Tryd.prog Rows.lookSameUptoRow.laid ((worldLookSame os).forCall (fun _ _ => 0) ⟨#[], #[.slice none 0 0, .int .i64 0, .string ⟨#[]⟩, .bool false], []⟩).memory :=
  laidMet_of_run' 8 (by kernel_rfl) (by kernel_rfl)
theorem readsLookSame (os : Os) {H : Type} (enc : TypeId × Value → H) : ∃ places, DataW.whole enc Tryd.prog ((worldLookSame os).forCall (fun _ _ => 0) ⟨#[], #[.slice none 0 0, .int .i64 0, .string ⟨#[]⟩, .bool false], []⟩).memory Tryd.f5.params.toList Rows.lookSameSpec.vars false (#[.slice none 0 0, .int .i64 0, .string ⟨#[]⟩, .bool false] : Array Value).toList 8 = some ([.nil, .lit (.int .i64 0), .lit (.string []), .lit (.bool false)], [], places) :=
  ⟨[], by kernel_rfl⟩
set_option maxRecDepth 100000 in
theorem liftedLookSame (os : Os) (started : os.Started) (H : Type) (enc : TypeId × Value → H) (F : Stop.Interp) :
    ReturnsInHanded {} Tryd.checked os 5 .any ((Rows.OpenSpec.upto Rows.lookSameSpec).preRow enc Tryd.prog Tryd.f5 Rows.lookSameUptoRow.domain false Rows.lookSameUptoRow.laid) (((Rows.OpenSpec.upto Rows.lookSameSpec).at F).post enc Tryd.prog Tryd.f5 false true false false) := by
  obtain ⟨places, hx⟩ := readsLookSame os enc
  refine returnsInHanded_of_row (C := Tryd.checked) (s := Rows.OpenSpec.upto Rows.lookSameSpec) ownLookSame started (by kernel_rfl) Tryd.func5
    (witness_row_at (enc := enc) (C := Tryd.checked) false (worldLookSame os) #[.slice none 0 0, .int .i64 0, .string ⟨#[]⟩, .bool false] rfl (by kernel_rfl) (by kernel_rfl) (by kernel_rfl)
      (OpenSpec.preRow_of_cond 8 hx (by kernel_rfl) (fun k hk => by cases hk; kernel_rfl) (by kernel_rfl) (metLookSame os))) ?_
  intro W base args ds gs before hval hW _ hk _ _ _ _
  exact contractLookSame H enc W base args ds gs before hval (hk _ rfl) hW
theorem rowLookSame : Rows.LookSameUptoSaid :=
  OpenClaim.holds_of_cond 5 Tryd.f5 rfl rfl rfl rfl rfl rfl rfl ⟨rfl, rfl, rfl, rfl, rfl⟩ rfl rfl rfl rfl rfl (by kernel_rfl) Tryd.func5 (by kernel_rfl)
    (of_decide_eq_true (by kernel_rfl)) (by unfold Func.isWrapper; first | (rw [if_pos (by decide +kernel)]; kernel_rfl) | (rw [if_neg (by decide +kernel)]; exact ⟨rfl, rfl⟩))
    (fun os started H enc _ F => by rw [OpenClaim.pre_eq_preRow]; exact liftedLookSame os started H enc F)
theorem plainLookSame (f : FuncId) (fn : Func) (hf : Tryd.pinned.checked.prog.funcNamed Tryd.f5.name = some f) (hfn : Tryd.pinned.checked.prog.funcs[f]? = some fn) :
    false = Tryd.pinned.checked.prog.looks [] ∧ ∀ (j : Nat) t, fn.params[j]? = some t → Tryd.pinned.checked.prog.wantsStandIn t = false := by
  obtain rfl : f = 5 := Option.some.inj ((show Tryd.prog.funcNamed Tryd.f5.name = some 5 by kernel_rfl).symm.trans hf) |>.symm
  obtain rfl : fn = Tryd.f5 := (Option.some.inj (Tryd.func5.symm.trans hfn)).symm
  refine ⟨by kernel_rfl, fun j t ht => ?_⟩
  rw [Tryd.params5] at ht
  have ht : t = 22 ∨ t = 3 ∨ t = 9 ∨ t = 4 := by
    have h0 := Array.mem_of_getElem? ht
    simp at h0
    grind
  rcases ht with rfl | rfl | rfl | rfl
  · exact (show Tryd.prog.wantsStandIn 22 = false by kernel_rfl)
  · exact (show Tryd.prog.wantsStandIn 3 = false by kernel_rfl)
  · exact (show Tryd.prog.wantsStandIn 9 = false by kernel_rfl)
  · exact (show Tryd.prog.wantsStandIn 4 = false by kernel_rfl)
theorem lookSameUptoCardSaid : Rows.LookSameUptoCardSaid :=
  Claim7.holds_tied_plain_at .later [] _ _ _ _ rowLookSame (fun _ h => by cases h) (by kernel_rfl) (fun _ h => by cases h) lookSameUpto_row_tie rfl ⟨rfl, rfl⟩ (by kernel_rfl) rfl plainLookSame (by kernel_rfl)
end Go.Proofs.YtppecaflkpklfaaDoor

