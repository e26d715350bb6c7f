/- The law BpfEnds, where what it reads is of bulk at most 1048576: whatever the input, it returns true, and the input reads as it did. -/
import Derived.Test.YtflieebgiejjpaaDvBpf6
import Derived.Test.YtflieebgiejjpaaAmZ
import Derived.Test.YtflieebgiejjpaaRows
import Derived.WalkKit
import Derived.ProofKit
import Derived.OpenShut
import Derived.JoinedCond
import Derived.KernelRfl
set_option linter.unusedVariables false
namespace Go.Proofs.Ytflieebgiejjpaa
open Go.AM Go.ChangeShapes Go.WideShapes Go.ChangeAt Go.RowKit
theorem ins_of {elems : List (List Dt)} (h : ∀ e, e ∈ elems → Fits [.i .i64, .i .i64, .i .i64, .i .i64] e) : ∃ l : List Ins, elems = l.map Ins.enc ∧ l.length ≤ Dt.sizeLL elems := by
  obtain ⟨l, _, he⟩ := fits_rows Ins.enc (fun _ => True) (fun e hf => by
    cases hf with | i _ a _ hf => cases hf with | i _ b _ hf => cases hf with | i _ c _ hf => cases hf with | i _ d _ hf => cases hf with | nil => exact ⟨⟨a, b, c, d⟩, trivial, rfl⟩) h
  refine ⟨l, he, ?_⟩
  have := Dt.sizeLL_len elems fun e hx => (h e hx).ne (by simp)
  rw [he] at this ⊢
  simpa using this

theorem ownBpfEnds : ownKnob Try.prog.godebug = none := by kernel_rfl
theorem laidBpfEnds : laidOutB Try.prog = true := by kernel_rfl
theorem one_le_bulkBpfEnds {H : Type} (d : DataW H) : 1 ≤ Rows.uptoBulk d := by
  cases d with
  | lit l => cases l <;> simp [Rows.uptoBulk]
  | _ => simp [Rows.uptoBulk]
theorem wSumBpfEnds {H : Type} : ∀ l : List (DataW H), wSum Rows.uptoBulk l = Rows.uptoBulkAll l
  | [] => by simp [wSum, Rows.uptoBulkAll]
  | d :: r => by simp [wSum, Rows.uptoBulkAll, wSumBpfEnds r]
def bulkBpfEnds (H : Type) : Bulk H where
  f := Rows.uptoBulk
  str s := by simp [Rows.uptoBulk]
  lit l := one_le_bulkBpfEnds _
  nil := one_le_bulkBpfEnds _
  slice a b := by simp [Rows.uptoBulk, wSumBpfEnds]
  agg a := by simp [Rows.uptoBulk, wSumBpfEnds]
def shBpfEnds : List Sh := [⟨false, [.sl [.i .i64, .i .i64, .i .i64, .i .i64]]⟩, ⟨true, [.i .i64, .i .i64, .i .i64, .i .i64, .i .i64, .i .i64]⟩]
theorem shOfBpfEnds : shOf Try.prog Try.f8.params.toList = some shBpfEnds := by kernel_rfl
set_option maxRecDepth 100000 in
theorem walkBpfEnds (dss : List (List Dt)) (hf : FitsA shBpfEnds dss) (hb : Dt.sizeLL dss ≤ 1048576) : ACall Try.prog 8 (argsV shBpfEnds dss) [] fun r _ => r = vBool true := by
  cases hf with | cons h1 hf =>
  cases hf with | cons h2 hf =>
  cases hf
  cases h1 with | sl _ elems he h1 =>
  cases h1
  cases h2 with | i _ r0 _ h2 =>
  cases h2 with | i _ r1 _ h2 =>
  cases h2 with | i _ r2 _ h2 =>
  cases h2 with | i _ r3 _ h2 =>
  cases h2 with | i _ r4 _ h2 =>
  cases h2 with | i _ r5 _ h2 =>
  cases h2
  obtain ⟨l, rfl, hl⟩ := ins_of he
  exact ends_ok l ⟨r0, r1, r2, r3, r4, r5⟩

set_option maxRecDepth 100000 in
theorem contractBpfEnds (H : Type) (enc : TypeId × Value → H) (W : World) (base : Nat) (args : Array Value) (ds gs : List (DataW H)) (before : List MemPlace)
    (hval : ∀ (j : Nat) t v, Try.f8.params[j]? = some t → args[j]? = some v → Value.okWide Try.prog W .any base t v) (hk : Rows.uptoSmall H (ds ++ gs) = true)
    (hW : DataW.Whole enc Try.prog Try.f8.params.toList Rows.bpfEndsSpec.vars false W args.toList ds gs before) :
    Calls Try.prog 8 args W fun e W' => ∃ v, e = .returned v ∧ Rows.bpfEndsSpec.post enc Try.prog Try.f8 false true false false W args v W' := by
  refine law_contract (bulkBpfEnds H) laidBpfEnds Try.underlying4 (by kernel_rfl) rfl ?_ shOfBpfEnds (by kernel_rfl) ?_ hval hW
  · intro ds hds
    match ds, hds with
    | [d1, d2], _ => rfl
  · intro dss hf hsz
    refine walkBpfEnds dss hf (Nat.le_trans hsz ?_)
    have h1 : Rows.uptoBulkAll (ds ++ gs) ≤ 1048576 := of_decide_eq_true hk
    have h2 : ∀ a b : List (DataW H), Rows.uptoBulkAll a ≤ Rows.uptoBulkAll (a ++ b) := by
      intro a b
      induction a with
      | nil => simp [Rows.uptoBulkAll]
      | cons x r ih => simp only [List.cons_append, Rows.uptoBulkAll]; omega
    show wSum Rows.uptoBulk ds ≤ 1048576
    rw [wSumBpfEnds]
    exact Nat.le_trans (h2 ds gs) h1
set_option maxRecDepth 100000 in
theorem liftedBpfEnds (os : Os) (started : os.Started) (H : Type) (enc : TypeId × Value → H) (F : Stop.Interp) :
    ReturnsInHanded {} Try.checked os 8 .any ((Rows.OpenSpec.upto Rows.bpfEndsSpec).pre6 enc Try.prog Try.f8 Rows.bpfEndsUptoRow.domain false) (((Rows.OpenSpec.upto Rows.bpfEndsSpec).at F).post enc Try.prog Try.f8 false true false false) := by
  refine returnsInHanded_of_cond (C := Try.checked) (s := Rows.OpenSpec.upto Rows.bpfEndsSpec) (k := Rows.uptoSmall) rfl ownBpfEnds started (by kernel_rfl) Try.func8
    (OpenSpec.witness (enc := enc) (C := Try.checked) (s := Rows.OpenSpec.upto Rows.bpfEndsSpec) (k := Rows.uptoSmall) rfl false ⟨#[], #[.slice none 0 0, .agg #[.int .i64 0, .int .i64 0, .int .i64 0, .int .i64 0, .int .i64 0, .int .i64 0]], []⟩ 8 (by kernel_rfl) (by kernel_rfl) (by kernel_rfl)
      (x := ([.nil, .agg [.lit (.int .i64 0), .lit (.int .i64 0), .lit (.int .i64 0), .lit (.int .i64 0), .lit (.int .i64 0), .lit (.int .i64 0)]], [], [])) (by kernel_rfl) rfl (by kernel_rfl)) ?_
  intro W base args ds gs before hval hW _ hk _
  exact contractBpfEnds H enc W base args ds gs before hval hk hW
theorem bpfEndsUptoSaid : Rows.BpfEndsUptoSaid :=
  OpenClaim.holds_of_cond 8 Try.f8 rfl rfl rfl rfl rfl rfl rfl ⟨rfl, rfl, rfl, rfl, rfl⟩ rfl rfl rfl rfl rfl (by kernel_rfl) Try.func8 (by kernel_rfl)
    (of_decide_eq_true (by kernel_rfl)) (by unfold Func.isWrapper; first | (rw [if_pos (by decide +kernel)]; kernel_rfl) | (rw [if_neg (by decide +kernel)]; exact ⟨rfl, rfl⟩))
    (fun os started H enc _ F => liftedBpfEnds os started H enc F)
end Go.Proofs.Ytflieebgiejjpaa
