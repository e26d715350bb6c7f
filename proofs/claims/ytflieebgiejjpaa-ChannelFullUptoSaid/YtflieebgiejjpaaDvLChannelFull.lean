/- The law ChannelFull, where what it reads is of bulk at most 1048576: whatever the input, it returns true, and the input reads as it did. -/
import Derived.Test.YtflieebgiejjpaaDvCh8
import Derived.Test.YtflieebgiejjpaaAmZ
import Derived.Test.YtflieebgiejjpaaRows
import Derived.WalkKit
import Derived.ProofKit
import Derived.OpenShut
import Derived.JoinedCond
import Derived.KernelRfl
set_option linter.unusedVariables false
namespace Go.Proofs.Ytflieebgiejjpaa
open Go.AM Go.ChangeShapes Go.WideShapes Go.ChangeAt Go.RowKit

theorem ownChannelFull : ownKnob Try.prog.godebug = none := by kernel_rfl
theorem laidChannelFull : laidOutB Try.prog = true := by kernel_rfl
theorem one_le_bulkChannelFull {H : Type} (d : DataW H) : 1 ≤ Rows.uptoBulk d := by
  cases d with
  | lit l => cases l <;> simp [Rows.uptoBulk]
  | _ => simp [Rows.uptoBulk]
theorem wSumChannelFull {H : Type} : ∀ l : List (DataW H), wSum Rows.uptoBulk l = Rows.uptoBulkAll l
  | [] => by simp [wSum, Rows.uptoBulkAll]
  | d :: r => by simp [wSum, Rows.uptoBulkAll, wSumChannelFull r]
def bulkChannelFull (H : Type) : Bulk H where
  f := Rows.uptoBulk
  str s := by simp [Rows.uptoBulk]
  lit l := one_le_bulkChannelFull _
  nil := one_le_bulkChannelFull _
  slice a b := by simp [Rows.uptoBulk, wSumChannelFull]
  agg a := by simp [Rows.uptoBulk, wSumChannelFull]
def shChannelFull : List Sh := [⟨false, [.i .i64]⟩, ⟨true, [.i .i64, .i .i64]⟩]
theorem shOfChannelFull : shOf Try.prog Try.f13.params.toList = some shChannelFull := by kernel_rfl
set_option maxRecDepth 100000 in
theorem walkChannelFull (dss : List (List Dt)) (hf : FitsA shChannelFull dss) (hb : Dt.sizeLL dss ≤ 1048576) : ACall Try.prog 13 (argsV shChannelFull dss) [] fun r _ => r = vBool true := by
  cases hf with | cons h1 hf =>
  cases hf with | cons h2 hf =>
  cases hf
  cases h1 with | i _ n _ h1 =>
  cases h1
  cases h2 with | i _ a _ h2 =>
  cases h2 with | i _ b _ h2 =>
  cases h2
  exact full_ok n a b

set_option maxRecDepth 100000 in
theorem contractChannelFull (H : Type) (enc : TypeId × Value → H) (W : World) (base : Nat) (args : Array Value) (ds gs : List (DataW H)) (before : List MemPlace)
    (hval : ∀ (j : Nat) t v, Try.f13.params[j]? = some t → args[j]? = some v → Value.okWide Try.prog W .any base t v) (hk : Rows.uptoSmall H (ds ++ gs) = true)
    (hW : DataW.Whole enc Try.prog Try.f13.params.toList Rows.channelFullSpec.vars false W args.toList ds gs before) :
    Calls Try.prog 13 args W fun e W' => ∃ v, e = .returned v ∧ Rows.channelFullSpec.post enc Try.prog Try.f13 false true false false W args v W' := by
  refine law_contract (bulkChannelFull H) laidChannelFull Try.underlying4 (by kernel_rfl) rfl ?_ shOfChannelFull (by kernel_rfl) ?_ hval hW
  · intro ds hds
    match ds, hds with
    | [d1, d2], _ => rfl
  · intro dss hf hsz
    refine walkChannelFull dss hf (Nat.le_trans hsz ?_)
    have h1 : Rows.uptoBulkAll (ds ++ gs) ≤ 1048576 := of_decide_eq_true hk
    have h2 : ∀ a b : List (DataW H), Rows.uptoBulkAll a ≤ Rows.uptoBulkAll (a ++ b) := by
      intro a b
      induction a with
      | nil => simp [Rows.uptoBulkAll]
      | cons x r ih => simp only [List.cons_append, Rows.uptoBulkAll]; omega
    show wSum Rows.uptoBulk ds ≤ 1048576
    rw [wSumChannelFull]
    exact Nat.le_trans (h2 ds gs) h1
set_option maxRecDepth 100000 in
theorem liftedChannelFull (os : Os) (started : os.Started) (H : Type) (enc : TypeId × Value → H) (F : Stop.Interp) :
    ReturnsInHanded {} Try.checked os 13 .any ((Rows.OpenSpec.upto Rows.channelFullSpec).pre6 enc Try.prog Try.f13 Rows.channelFullUptoRow.domain false) (((Rows.OpenSpec.upto Rows.channelFullSpec).at F).post enc Try.prog Try.f13 false true false false) := by
  refine returnsInHanded_of_cond (C := Try.checked) (s := Rows.OpenSpec.upto Rows.channelFullSpec) (k := Rows.uptoSmall) rfl ownChannelFull started (by kernel_rfl) Try.func13
    (OpenSpec.witness (enc := enc) (C := Try.checked) (s := Rows.OpenSpec.upto Rows.channelFullSpec) (k := Rows.uptoSmall) rfl false ⟨#[], #[.int .i64 0, .agg #[.int .i64 0, .int .i64 0]], []⟩ 8 (by kernel_rfl) (by kernel_rfl) (by kernel_rfl)
      (x := ([.lit (.int .i64 0), .agg [.lit (.int .i64 0), .lit (.int .i64 0)]], [], [])) (by kernel_rfl) rfl (by kernel_rfl)) ?_
  intro W base args ds gs before hval hW _ hk _
  exact contractChannelFull H enc W base args ds gs before hval hk hW
theorem channelFullUptoSaid : Rows.ChannelFullUptoSaid :=
  OpenClaim.holds_of_cond 13 Try.f13 rfl rfl rfl rfl rfl rfl rfl ⟨rfl, rfl, rfl, rfl, rfl⟩ rfl rfl rfl rfl rfl (by kernel_rfl) Try.func13 (by kernel_rfl)
    (of_decide_eq_true (by kernel_rfl)) (by unfold Func.isWrapper; first | (rw [if_pos (by decide +kernel)]; kernel_rfl) | (rw [if_neg (by decide +kernel)]; exact ⟨rfl, rfl⟩))
    (fun os started H enc _ F => liftedChannelFull os started H enc F)
end Go.Proofs.Ytflieebgiejjpaa
