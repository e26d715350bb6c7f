/- The law PathTells, where what it reads is of bulk at most 1048576: whatever the input, it returns true, and the input reads as it did. The row lists two tables of the library (unicode/utf8.first, unicode/utf8.acceptRanges): the card ties them to the program's text. -/
import Derived.Test.YtoohefnephhmbaaDoorDvPTel
import Derived.Test.YtoohefnephhmbaaDoorAmZ
import Derived.Test.YtoohefnephhmbaaDoorCards
import Derived.Test.YtoohefnephhmbaaDoorTie
import Derived.WalkKit
import Derived.ProofKit
import Derived.OpenShut
import Derived.Deep.DeepHandedRow
import Derived.JoinedCond
import Derived.KernelRfl
set_option linter.unusedVariables false
namespace Go.Proofs.YtoohefnephhmbaaDoor
open Go.AM Go.ChangeShapes Go.WideShapes Go.ChangeAt Go.RowKit
theorem txs_of {elems : List (List Dt)} (h : ∀ e, e ∈ elems → Fits [.s] e) : ∃ l : List Txt, elems = l.map tD ∧ l.length ≤ Dt.sizeLL elems ∧ (joinT [47] l).length ≤ Dt.sizeLL elems := by
  obtain ⟨l, _, he⟩ := fits_rows tD (fun _ => True) (fun e hf => by
    cases hf with | s x hf => cases hf with | nil => exact ⟨x.data.toList, trivial, rfl⟩) h
  have key : ∀ l : List Txt, l.length ≤ Dt.sizeLL (l.map tD) ∧ Lib.lens l + l.length ≤ Dt.sizeLL (l.map tD) := by
    intro l
    induction l with
    | nil => simp [Lib.lens]
    | cons x r ih =>
      have hl : Lib.lens (x :: r) = x.length + Lib.lens r := by simp [Lib.lens]
      rw [hl]
      simp only [List.map_cons, List.length_cons, Dt.sizeLL, tD, Dt.sizeL, Dt.size, bysL_size] at ih ⊢
      omega
  refine ⟨l, he, ?_, ?_⟩
  · rw [he]; exact (key l).1
  · have h2 := (key l).2
    rw [he]
    refine Nat.le_trans ?_ h2
    cases l with
    | nil => simp [joinT_nil]
    | cons x r =>
      have hl : Lib.lens (x :: r) = x.length + Lib.lens r := by simp [Lib.lens]
      rw [joinT_cons, List.length_append, Lib.joinTail_length, hl]
      simp only [List.length_cons, List.length_nil]
      omega

theorem ownPathTells : ownKnob Tryd.prog.godebug = none := by kernel_rfl
theorem laidPathTells : laidOutB Tryd.prog = true := by kernel_rfl
theorem one_le_bulkPathTells {H : Type} (d : DataW H) : 1 ≤ Rows.uptoBulk d := by
  cases d with
  | lit l => cases l <;> simp [Rows.uptoBulk]
  | _ => simp [Rows.uptoBulk]
theorem wSumPathTells {H : Type} : ∀ l : List (DataW H), wSum Rows.uptoBulk l = Rows.uptoBulkAll l
  | [] => by simp [wSum, Rows.uptoBulkAll]
  | d :: r => by simp [wSum, Rows.uptoBulkAll, wSumPathTells r]
def bulkPathTells (H : Type) : Bulk H where
  f := Rows.uptoBulk
  str s := by simp [Rows.uptoBulk]
  lit l := one_le_bulkPathTells _
  nil := one_le_bulkPathTells _
  slice a b := by simp [Rows.uptoBulk, wSumPathTells]
  agg a := by simp [Rows.uptoBulk, wSumPathTells]
def shPathTells : List Sh := [⟨false, [.s]⟩, ⟨false, [.sl [.s]]⟩, ⟨false, [.b]⟩]
theorem shOfPathTells : shOf Tryd.prog Tryd.f3.params.toList = some shPathTells := by kernel_rfl
set_option maxRecDepth 100000 in
theorem walkPathTells (dss : List (List Dt)) (hf : FitsA shPathTells dss) (hb : Dt.sizeLL dss ≤ 1048576) : ACall Tryd.prog 3 (argsV shPathTells dss) [] fun r _ => r = vBool true := by
  cases hf with | cons h1 hf =>
  cases hf with | cons h2 hf =>
  cases hf with | cons h3 hf =>
  cases hf
  cases h1 with | s x h1 =>
  cases h1
  cases h2 with | sl _ elems he h2 =>
  cases h2
  cases h3 with | b root h3 =>
  cases h3
  obtain ⟨t, rfl⟩ := bysL_of x
  obtain ⟨l, rfl, h1, h2⟩ := txs_of he
  simp only [Dt.sizeLL, Dt.sizeL, Dt.size, bysL_size] at hb
  exact ptells_ok t l root (by omega) (by omega) (by omega)

set_option maxRecDepth 100000 in
theorem contractPathTells (H : Type) (enc : TypeId × Value → H) (W : World) (base : Nat) (args : Array Value) (ds gs : List (DataW H)) (before : List MemPlace)
    (hval : ∀ (j : Nat) t v, Tryd.f3.params[j]? = some t → args[j]? = some v → Value.okWide Tryd.prog W .any base t v) (hk : Rows.uptoSmall H (ds ++ gs) = true)
    (hW : DataW.Whole enc Tryd.prog Tryd.f3.params.toList Rows.pathTellsSpec.vars false W args.toList ds gs before) :
    Calls Tryd.prog 3 args W fun e W' => ∃ v, e = .returned v ∧ Rows.pathTellsSpec.post enc Tryd.prog Tryd.f3 false true false false W args v W' := by
  refine law_contract (bulkPathTells H) laidPathTells Tryd.underlying4 (by kernel_rfl) rfl ?_ shOfPathTells (by kernel_rfl) ?_ hval hW
  · intro ds hds
    match ds, hds with
    | [d1, d2, d3], _ => rfl
  · intro dss hf hsz
    refine walkPathTells dss hf (Nat.le_trans hsz ?_)
    have h1 : Rows.uptoBulkAll (ds ++ gs) ≤ 1048576 := of_decide_eq_true hk
    have h2 : ∀ a b : List (DataW H), Rows.uptoBulkAll a ≤ Rows.uptoBulkAll (a ++ b) := by
      intro a b
      induction a with
      | nil => simp [Rows.uptoBulkAll]
      | cons x r ih => simp only [List.cons_append, Rows.uptoBulkAll]; omega
    show wSum Rows.uptoBulk ds ≤ 1048576
    rw [wSumPathTells]
    exact Nat.le_trans (h2 ds gs) h1
def layAtPathTells (vs : Array Value) : Obj → Obj
  | .cells _ t frozen => .cells vs t frozen
  | o => o
def accPathTells : Array Value := #[.int .u8 128, .int .u8 191, .int .u8 160, .int .u8 191, .int .u8 128, .int .u8 159, .int .u8 144, .int .u8 191, .int .u8 128, .int .u8 143, .int .u8 0, .int .u8 0, .int .u8 0, .int .u8 0, .int .u8 0, .int .u8 0, .int .u8 0, .int .u8 0, .int .u8 0, .int .u8 0, .int .u8 0, .int .u8 0, .int .u8 0, .int .u8 0, .int .u8 0, .int .u8 0, .int .u8 0, .int .u8 0, .int .u8 0, .int .u8 0, .int .u8 0, .int .u8 0]
/-- a world for the witness: the settled one, the two tables holding what their initialisers lay -/
noncomputable def worldPathTells (os : Os) : World :=
  { World.holding Tryd.prog os ⟨#[], #[], []⟩ with
    heap := ((World.holding Tryd.prog os ⟨#[], #[], []⟩).heap.modify 0 (layAtPathTells (Go.Pinned.utf8FirstZ.map fun n => Value.int .u8 ((n : Nat) : Int)).toArray)).modify 1 (layAtPathTells accPathTells) }
theorem metPathTells (os : Os) : laidMet Tryd.prog Rows.pathTellsUptoRow.laid ((worldPathTells os).forCall (fun _ _ => 0) ⟨#[], #[.string ⟨#[]⟩, .slice none 0 0, .bool false], []⟩).memory :=
  laidMet_of_run' 8 (by kernel_rfl) (by kernel_rfl)
theorem readsPathTells (os : Os) {H : Type} (enc : TypeId × Value → H) : ∃ places, DataW.whole enc Tryd.prog ((worldPathTells os).forCall (fun _ _ => 0) ⟨#[], #[.string ⟨#[]⟩, .slice none 0 0, .bool false], []⟩).memory Tryd.f3.params.toList Rows.pathTellsSpec.vars false (#[.string ⟨#[]⟩, .slice none 0 0, .bool false] : Array Value).toList 8 = some ([.lit (.string []), .nil, .lit (.bool false)], [], places) :=
  ⟨[], by kernel_rfl⟩
set_option maxRecDepth 100000 in
theorem liftedPathTells (os : Os) (started : os.Started) (H : Type) (enc : TypeId × Value → H) (F : Stop.Interp) :
    ReturnsInHanded {} Tryd.checked os 3 .any ((Rows.OpenSpec.upto Rows.pathTellsSpec).preRow enc Tryd.prog Tryd.f3 Rows.pathTellsUptoRow.domain false Rows.pathTellsUptoRow.laid) (((Rows.OpenSpec.upto Rows.pathTellsSpec).at F).post enc Tryd.prog Tryd.f3 false true false false) := by
  obtain ⟨places, hx⟩ := readsPathTells os enc
  refine returnsInHanded_of_row (C := Tryd.checked) (s := Rows.OpenSpec.upto Rows.pathTellsSpec) ownPathTells started (by kernel_rfl) Tryd.func3
    (witness_row_at (enc := enc) (C := Tryd.checked) false (worldPathTells os) #[.string ⟨#[]⟩, .slice none 0 0, .bool false] rfl (by kernel_rfl) (by kernel_rfl) (by kernel_rfl)
      (OpenSpec.preRow_of_cond 8 hx (by kernel_rfl) (fun k hk => by cases hk; kernel_rfl) (by kernel_rfl) (metPathTells os))) ?_
  intro W base args ds gs before hval hW _ hk _ _ _ _
  exact contractPathTells H enc W base args ds gs before hval (hk _ rfl) hW
theorem rowPathTells : Rows.PathTellsUptoSaid :=
  OpenClaim.holds_of_cond 3 Tryd.f3 rfl rfl rfl rfl rfl rfl rfl ⟨rfl, rfl, rfl, rfl, rfl⟩ rfl rfl rfl rfl rfl (by kernel_rfl) Tryd.func3 (by kernel_rfl)
    (of_decide_eq_true (by kernel_rfl)) (by unfold Func.isWrapper; first | (rw [if_pos (by decide +kernel)]; kernel_rfl) | (rw [if_neg (by decide +kernel)]; exact ⟨rfl, rfl⟩))
    (fun os started H enc _ F => by rw [OpenClaim.pre_eq_preRow]; exact liftedPathTells os started H enc F)
theorem plainPathTells (f : FuncId) (fn : Func) (hf : Tryd.pinned.checked.prog.funcNamed Tryd.f3.name = some f) (hfn : Tryd.pinned.checked.prog.funcs[f]? = some fn) :
    false = Tryd.pinned.checked.prog.looks [] ∧ ∀ (j : Nat) t, fn.params[j]? = some t → Tryd.pinned.checked.prog.wantsStandIn t = false := by
  obtain rfl : f = 3 := Option.some.inj ((show Tryd.prog.funcNamed Tryd.f3.name = some 3 by kernel_rfl).symm.trans hf) |>.symm
  obtain rfl : fn = Tryd.f3 := (Option.some.inj (Tryd.func3.symm.trans hfn)).symm
  refine ⟨by kernel_rfl, fun j t ht => ?_⟩
  rw [Tryd.params3] at ht
  have ht : t = 9 ∨ t = 22 ∨ t = 4 := by simpa using Array.mem_of_getElem? ht
  rcases ht with rfl | rfl | rfl
  · exact (show Tryd.prog.wantsStandIn 9 = false by kernel_rfl)
  · exact (show Tryd.prog.wantsStandIn 22 = false by kernel_rfl)
  · exact (show Tryd.prog.wantsStandIn 4 = false by kernel_rfl)
theorem pathTellsUptoCardSaid : Rows.PathTellsUptoCardSaid :=
  Claim7.holds_tied_plain_at .later [] _ _ _ _ rowPathTells (fun _ h => by cases h) (by kernel_rfl) (fun _ h => by cases h) pathTellsUpto_row_tie rfl ⟨rfl, rfl⟩ (by kernel_rfl) rfl plainPathTells (by kernel_rfl)
end Go.Proofs.YtoohefnephhmbaaDoor

