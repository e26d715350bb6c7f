/- The law StoreTells, where what it reads is of bulk at most 1048576: whatever the input, it returns true, and the input reads as it did. -/
import Derived.Test.YtmekobkcgajcjaaDvGk
import Derived.Test.YtmekobkcgajcjaaAmZ
import Derived.Test.YtmekobkcgajcjaaRows
import Derived.WalkKit
import Derived.ProofKit
import Derived.OpenShut
import Derived.JoinedCond
import Derived.KernelRfl
set_option linter.unusedVariables false
namespace Go.Proofs.Ytmekobkcgajcjaa
open Go.AM Go.ChangeShapes Go.WideShapes Go.ChangeAt Go.RowKit
theorem bys_of {elems : List (List Dt)} (h : ∀ e, e ∈ elems → Fits [.i .u8] e) : ∃ l : List Int, elems = byD l ∧ (∀ x, x ∈ l → 0 ≤ x ∧ x ≤ 255) ∧ l.length ≤ Dt.sizeLL elems := by
  obtain ⟨l, hl, he⟩ := fits_rows (fun x : Int => [Dt.val (.int .u8 x)]) (fun x => 0 ≤ x ∧ x ≤ 255) (fun e hf => by
    cases hf with | i _ a ha hf => cases hf with | nil => exact ⟨a, by simpa [Lit.wf, IntKind.min, IntKind.max, IntKind.signed, IntKind.bits] using ha, rfl⟩) h
  refine ⟨l, he, hl, ?_⟩
  have := Dt.sizeLL_len elems fun e hx => (h e hx).ne (by simp)
  rw [he] at this ⊢
  simpa using this

theorem ownStoreTells : ownKnob Try.prog.godebug = none := by kernel_rfl
theorem laidStoreTells : laidOutB Try.prog = true := by kernel_rfl
theorem one_le_bulkStoreTells {H : Type} (d : DataW H) : 1 ≤ Rows.uptoBulk d := by
  cases d with
  | lit l => cases l <;> simp [Rows.uptoBulk]
  | _ => simp [Rows.uptoBulk]
theorem wSumStoreTells {H : Type} : ∀ l : List (DataW H), wSum Rows.uptoBulk l = Rows.uptoBulkAll l
  | [] => by simp [wSum, Rows.uptoBulkAll]
  | d :: r => by simp [wSum, Rows.uptoBulkAll, wSumStoreTells r]
def bulkStoreTells (H : Type) : Bulk H where
  f := Rows.uptoBulk
  str s := by simp [Rows.uptoBulk]
  lit l := one_le_bulkStoreTells _
  nil := one_le_bulkStoreTells _
  slice a b := by simp [Rows.uptoBulk, wSumStoreTells]
  agg a := by simp [Rows.uptoBulk, wSumStoreTells]
def shStoreTells : List Sh := [⟨false, [.sl [.i .u8]]⟩, ⟨false, [.i .i64]⟩, ⟨false, [.s]⟩, ⟨false, [.i .i64]⟩, ⟨false, [.i .i64]⟩, ⟨false, [.i .i64]⟩, ⟨false, [.sl [.i .u8]]⟩]
theorem shOfStoreTells : shOf Try.prog Try.f3.params.toList = some shStoreTells := by kernel_rfl
set_option maxRecDepth 100000 in
theorem walkStoreTells (dss : List (List Dt)) (hf : FitsA shStoreTells dss) (hb : Dt.sizeLL dss ≤ 1048576) : ACall Try.prog 3 (argsV shStoreTells dss) [] fun r _ => r = vBool true := by
  cases hf with | cons h1 hf =>
  cases hf with | cons h2 hf =>
  cases hf with | cons h3 hf =>
  cases hf with | cons h4 hf =>
  cases hf with | cons h5 hf =>
  cases hf with | cons h6 hf =>
  cases hf with | cons h7 hf =>
  cases hf
  cases h1 with | sl _ elems he h1 =>
  cases h1
  cases h2 with | i _ p _ h2 =>
  cases h2
  cases h3 with | s x h3 =>
  cases h3
  cases h4 with | i _ q _ h4 =>
  cases h4
  cases h5 with | i _ r _ h5 =>
  cases h5
  cases h6 with | i _ v _ h6 =>
  cases h6
  cases h7 with | sl _ elems2 he2 h7 =>
  cases h7
  obtain ⟨b, rfl, hb2, hl2⟩ := bys_of he
  obtain ⟨b2, rfl, _, hl3⟩ := bys_of he2
  have hx : x.data.toList.length = x.size := Array.length_toList
  simp only [Dt.sizeLL, Dt.sizeL, Dt.size] at hb
  exact stells_ok b hb2 p x.data.toList (by omega) q r v b2 (by omega)

set_option maxRecDepth 100000 in
theorem contractStoreTells (H : Type) (enc : TypeId × Value → H) (W : World) (base : Nat) (args : Array Value) (ds gs : List (DataW H)) (before : List MemPlace)
    (hval : ∀ (j : Nat) t v, Try.f3.params[j]? = some t → args[j]? = some v → Value.okWide Try.prog W .any base t v) (hk : Rows.uptoSmall H (ds ++ gs) = true)
    (hW : DataW.Whole enc Try.prog Try.f3.params.toList Rows.storeTellsSpec.vars false W args.toList ds gs before) :
    Calls Try.prog 3 args W fun e W' => ∃ v, e = .returned v ∧ Rows.storeTellsSpec.post enc Try.prog Try.f3 false true false false W args v W' := by
  refine law_contract (bulkStoreTells H) laidStoreTells Try.underlying4 (by kernel_rfl) rfl ?_ shOfStoreTells (by kernel_rfl) ?_ hval hW
  · intro ds hds
    match ds, hds with
    | [d1, d2, d3, d4, d5, d6, d7], _ => rfl
  · intro dss hf hsz
    refine walkStoreTells dss hf (Nat.le_trans hsz ?_)
    have h1 : Rows.uptoBulkAll (ds ++ gs) ≤ 1048576 := of_decide_eq_true hk
    have h2 : ∀ a b : List (DataW H), Rows.uptoBulkAll a ≤ Rows.uptoBulkAll (a ++ b) := by
      intro a b
      induction a with
      | nil => simp [Rows.uptoBulkAll]
      | cons x r ih => simp only [List.cons_append, Rows.uptoBulkAll]; omega
    show wSum Rows.uptoBulk ds ≤ 1048576
    rw [wSumStoreTells]
    exact Nat.le_trans (h2 ds gs) h1
set_option maxRecDepth 100000 in
theorem liftedStoreTells (os : Os) (started : os.Started) (H : Type) (enc : TypeId × Value → H) (F : Stop.Interp) :
    ReturnsInHanded {} Try.checked os 3 .any ((Rows.OpenSpec.upto Rows.storeTellsSpec).pre6 enc Try.prog Try.f3 Rows.storeTellsUptoRow.domain false) (((Rows.OpenSpec.upto Rows.storeTellsSpec).at F).post enc Try.prog Try.f3 false true false false) := by
  refine returnsInHanded_of_cond (C := Try.checked) (s := Rows.OpenSpec.upto Rows.storeTellsSpec) (k := Rows.uptoSmall) rfl ownStoreTells started (by kernel_rfl) Try.func3
    (OpenSpec.witness (enc := enc) (C := Try.checked) (s := Rows.OpenSpec.upto Rows.storeTellsSpec) (k := Rows.uptoSmall) rfl false ⟨#[], #[.slice none 0 0, .int .i64 0, .string ⟨#[]⟩, .int .i64 0, .int .i64 0, .int .i64 0, .slice none 0 0], []⟩ 8 (by kernel_rfl) (by kernel_rfl) (by kernel_rfl)
      (x := ([.nil, .lit (.int .i64 0), .lit (.string []), .lit (.int .i64 0), .lit (.int .i64 0), .lit (.int .i64 0), .nil], [], [])) (by kernel_rfl) rfl (by kernel_rfl)) ?_
  intro W base args ds gs before hval hW _ hk _
  exact contractStoreTells H enc W base args ds gs before hval hk hW
theorem storeTellsUptoSaid : Rows.StoreTellsUptoSaid :=
  OpenClaim.holds_of_cond 3 Try.f3 rfl rfl rfl rfl rfl rfl rfl ⟨rfl, rfl, rfl, rfl, rfl⟩ rfl rfl rfl rfl rfl (by kernel_rfl) Try.func3 (by kernel_rfl)
    (of_decide_eq_true (by kernel_rfl)) (by unfold Func.isWrapper; first | (rw [if_pos (by decide +kernel)]; kernel_rfl) | (rw [if_neg (by decide +kernel)]; exact ⟨rfl, rfl⟩))
    (fun os started H enc _ F => liftedStoreTells os started H enc F)
end Go.Proofs.Ytmekobkcgajcjaa
