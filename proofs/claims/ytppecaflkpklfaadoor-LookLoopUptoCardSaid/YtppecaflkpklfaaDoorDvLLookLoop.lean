/- The law LookLoop, where what it reads is of bulk at most 1048576: whatever the input, it returns true, and the input reads as it did. The row lists two tables of the library (unicode/utf8.first, unicode/utf8.acceptRanges): the card ties them to the program's text. -/
import Derived.Test.YtppecaflkpklfaaDoorDvGy
import Derived.Test.YtppecaflkpklfaaDoorAmZ
import Derived.Test.YtppecaflkpklfaaDoorCards
import Derived.Test.YtppecaflkpklfaaDoorTie
import Derived.WalkKit
import Derived.ProofKit
import Derived.OpenShut
import Derived.Deep.DeepHandedRow
import Derived.JoinedCond
import Derived.KernelRfl
set_option linter.unusedVariables false
namespace Go.Proofs.YtppecaflkpklfaaDoor
open Go.AM Go.ChangeShapes Go.WideShapes Go.ChangeAt Go.RowKit
theorem bys_of {elems : List (List Dt)} (h : ∀ e, e ∈ elems → Fits [.i .u8] e) : ∃ l : List Int, elems = byD l ∧ (∀ x, x ∈ l → 0 ≤ x ∧ x ≤ 255) ∧ l.length ≤ Dt.sizeLL elems := by
  obtain ⟨l, hl, he⟩ := fits_rows (fun x : Int => [Dt.val (.int .u8 x)]) (fun x => 0 ≤ x ∧ x ≤ 255) (fun e hf => by
    cases hf with | i _ a ha hf => cases hf with | nil => exact ⟨a, by simpa [Lit.wf, IntKind.min, IntKind.max, IntKind.signed, IntKind.bits] using ha, rfl⟩) h
  refine ⟨l, he, hl, ?_⟩
  have := Dt.sizeLL_len elems fun e hx => (h e hx).ne (by simp)
  rw [he] at this ⊢
  simpa using this

theorem ownLookLoop : ownKnob Tryd.prog.godebug = none := by kernel_rfl
theorem laidLookLoop : laidOutB Tryd.prog = true := by kernel_rfl
theorem one_le_bulkLookLoop {H : Type} (d : DataW H) : 1 ≤ Rows.uptoBulk d := by
  cases d with
  | lit l => cases l <;> simp [Rows.uptoBulk]
  | _ => simp [Rows.uptoBulk]
theorem wSumLookLoop {H : Type} : ∀ l : List (DataW H), wSum Rows.uptoBulk l = Rows.uptoBulkAll l
  | [] => by simp [wSum, Rows.uptoBulkAll]
  | d :: r => by simp [wSum, Rows.uptoBulkAll, wSumLookLoop r]
def bulkLookLoop (H : Type) : Bulk H where
  f := Rows.uptoBulk
  str s := by simp [Rows.uptoBulk]
  lit l := one_le_bulkLookLoop _
  nil := one_le_bulkLookLoop _
  slice a b := by simp [Rows.uptoBulk, wSumLookLoop]
  agg a := by simp [Rows.uptoBulk, wSumLookLoop]
def shLookLoop : List Sh := [⟨false, [.s]⟩, ⟨false, [.s]⟩, ⟨false, [.b]⟩]
theorem shOfLookLoop : shOf Tryd.prog Tryd.f7.params.toList = some shLookLoop := by kernel_rfl
set_option maxRecDepth 100000 in
theorem walkLookLoop (dss : List (List Dt)) (hf : FitsA shLookLoop dss) (hb : Dt.sizeLL dss ≤ 1048576) : ACall Tryd.prog 7 (argsV shLookLoop dss) [] fun r _ => r = vBool true := by
  cases hf with | cons h1 hf =>
  cases hf with | cons h2 hf =>
  cases hf with | cons h3 hf =>
  cases hf
  cases h1 with | s x1 h1 =>
  cases h1
  cases h2 with | s x2 h2 =>
  cases h2
  cases h3 with | b v3 h3 =>
  cases h3
  obtain ⟨v1, rfl⟩ := Pth.bysL_of x1
  obtain ⟨v2, rfl⟩ := Pth.bysL_of x2
  simp only [Dt.sizeLL, Dt.sizeL, Dt.size, Pth.bysL_size] at hb
  exact lloop_ok v1 v2 v3 (by omega) (by omega)

set_option maxRecDepth 100000 in
theorem contractLookLoop (H : Type) (enc : TypeId × Value → H) (W : World) (base : Nat) (args : Array Value) (ds gs : List (DataW H)) (before : List MemPlace)
    (hval : ∀ (j : Nat) t v, Tryd.f7.params[j]? = some t → args[j]? = some v → Value.okWide Tryd.prog W .any base t v) (hk : Rows.uptoSmall H (ds ++ gs) = true)
    (hW : DataW.Whole enc Tryd.prog Tryd.f7.params.toList Rows.lookLoopSpec.vars false W args.toList ds gs before) :
    Calls Tryd.prog 7 args W fun e W' => ∃ v, e = .returned v ∧ Rows.lookLoopSpec.post enc Tryd.prog Tryd.f7 false true false false W args v W' := by
  refine law_contract (bulkLookLoop H) laidLookLoop Tryd.underlying4 (by kernel_rfl) rfl ?_ shOfLookLoop (by kernel_rfl) ?_ hval hW
  · intro ds hds
    match ds, hds with
    | [d1, d2, d3], _ => rfl
  · intro dss hf hsz
    refine walkLookLoop dss hf (Nat.le_trans hsz ?_)
    have h1 : Rows.uptoBulkAll (ds ++ gs) ≤ 1048576 := of_decide_eq_true hk
    have h2 : ∀ a b : List (DataW H), Rows.uptoBulkAll a ≤ Rows.uptoBulkAll (a ++ b) := by
      intro a b
      induction a with
      | nil => simp [Rows.uptoBulkAll]
      | cons x r ih => simp only [List.cons_append, Rows.uptoBulkAll]; omega
    show wSum Rows.uptoBulk ds ≤ 1048576
    rw [wSumLookLoop]
    exact Nat.le_trans (h2 ds gs) h1
def layAtLookLoop (vs : Array Value) : Go.Obj → Go.Obj
  | .cells _ t frozen => .cells vs t frozen
  | o => o
def accLookLoop : Array Value := #[.int .u8 128, .int .u8 191, .int .u8 160, .int .u8 191, .int .u8 128, .int .u8 159, .int .u8 144, .int .u8 191, .int .u8 128, .int .u8 143, .int .u8 0, .int .u8 0, .int .u8 0, .int .u8 0, .int .u8 0, .int .u8 0, .int .u8 0, .int .u8 0, .int .u8 0, .int .u8 0, .int .u8 0, .int .u8 0, .int .u8 0, .int .u8 0, .int .u8 0, .int .u8 0, .int .u8 0, .int .u8 0, .int .u8 0, .int .u8 0, .int .u8 0, .int .u8 0]
/-- a world for the witness: the settled one, the two tables holding what their initialisers lay -/
noncomputable def worldLookLoop (os : Os) : World :=
  { World.holding Tryd.prog os ⟨#[], #[], []⟩ with
    heap := ((World.holding Tryd.prog os ⟨#[], #[], []⟩).heap.modify 0 (layAtLookLoop (Go.Pinned.utf8FirstZ.map fun n => Value.int .u8 ((n : Nat) : Int)).toArray)).modify 1 (layAtLookLoop accLookLoop) }
theorem metLookLoop (os : Os) : laidMet Tryd.prog Rows.lookLoopUptoRow.laid ((worldLookLoop os).forCall (fun _ _ => 0) ⟨#[], #[.string ⟨#[]⟩, .string ⟨#[]⟩, .bool false], []⟩).memory :=
  laidMet_of_run' 8 (by kernel_rfl) (by kernel_rfl)
theorem readsLookLoop (os : Os) {H : Type} (enc : TypeId × Value → H) : ∃ places, DataW.whole enc Tryd.prog ((worldLookLoop os).forCall (fun _ _ => 0) ⟨#[], #[.string ⟨#[]⟩, .string ⟨#[]⟩, .bool false], []⟩).memory Tryd.f7.params.toList Rows.lookLoopSpec.vars false (#[.string ⟨#[]⟩, .string ⟨#[]⟩, .bool false] : Array Value).toList 8 = some ([.lit (.string []), .lit (.string []), .lit (.bool false)], [], places) :=
  ⟨[], by kernel_rfl⟩
set_option maxRecDepth 100000 in
theorem liftedLookLoop (os : Os) (started : os.Started) (H : Type) (enc : TypeId × Value → H) (F : Stop.Interp) :
    ReturnsInHanded {} Tryd.checked os 7 .any ((Rows.OpenSpec.upto Rows.lookLoopSpec).preRow enc Tryd.prog Tryd.f7 Rows.lookLoopUptoRow.domain false Rows.lookLoopUptoRow.laid) (((Rows.OpenSpec.upto Rows.lookLoopSpec).at F).post enc Tryd.prog Tryd.f7 false true false false) := by
  obtain ⟨places, hx⟩ := readsLookLoop os enc
  refine returnsInHanded_of_row (C := Tryd.checked) (s := Rows.OpenSpec.upto Rows.lookLoopSpec) ownLookLoop started (by kernel_rfl) Tryd.func7
    (witness_row_at (enc := enc) (C := Tryd.checked) false (worldLookLoop os) #[.string ⟨#[]⟩, .string ⟨#[]⟩, .bool false] rfl (by kernel_rfl) (by kernel_rfl) (by kernel_rfl)
      (OpenSpec.preRow_of_cond 8 hx (by kernel_rfl) (fun k hk => by cases hk; kernel_rfl) (by kernel_rfl) (metLookLoop os))) ?_
  intro W base args ds gs before hval hW _ hk _ _ _ _
  exact contractLookLoop H enc W base args ds gs before hval (hk _ rfl) hW
theorem rowLookLoop : Rows.LookLoopUptoSaid :=
  OpenClaim.holds_of_cond 7 Tryd.f7 rfl rfl rfl rfl rfl rfl rfl ⟨rfl, rfl, rfl, rfl, rfl⟩ rfl rfl rfl rfl rfl (by kernel_rfl) Tryd.func7 (by kernel_rfl)
    (of_decide_eq_true (by kernel_rfl)) (by unfold Func.isWrapper; first | (rw [if_pos (by decide +kernel)]; kernel_rfl) | (rw [if_neg (by decide +kernel)]; exact ⟨rfl, rfl⟩))
    (fun os started H enc _ F => by rw [OpenClaim.pre_eq_preRow]; exact liftedLookLoop os started H enc F)
theorem plainLookLoop (f : FuncId) (fn : Func) (hf : Tryd.pinned.checked.prog.funcNamed Tryd.f7.name = some f) (hfn : Tryd.pinned.checked.prog.funcs[f]? = some fn) :
    false = Tryd.pinned.checked.prog.looks [] ∧ ∀ (j : Nat) t, fn.params[j]? = some t → Tryd.pinned.checked.prog.wantsStandIn t = false := by
  obtain rfl : f = 7 := Option.some.inj ((show Tryd.prog.funcNamed Tryd.f7.name = some 7 by kernel_rfl).symm.trans hf) |>.symm
  obtain rfl : fn = Tryd.f7 := (Option.some.inj (Tryd.func7.symm.trans hfn)).symm
  refine ⟨by kernel_rfl, fun j t ht => ?_⟩
  rw [Tryd.params7] at ht
  have ht : t = 9 ∨ t = 4 := by
    have h0 := Array.mem_of_getElem? ht
    simp at h0
    grind
  rcases ht with rfl | rfl
  · exact (show Tryd.prog.wantsStandIn 9 = false by kernel_rfl)
  · exact (show Tryd.prog.wantsStandIn 4 = false by kernel_rfl)
theorem lookLoopUptoCardSaid : Rows.LookLoopUptoCardSaid :=
  Claim7.holds_tied_plain_at .later [] _ _ _ _ rowLookLoop (fun _ h => by cases h) (by kernel_rfl) (fun _ h => by cases h) lookLoopUpto_row_tie rfl ⟨rfl, rfl⟩ (by kernel_rfl) rfl plainLookLoop (by kernel_rfl)
end Go.Proofs.YtppecaflkpklfaaDoor

