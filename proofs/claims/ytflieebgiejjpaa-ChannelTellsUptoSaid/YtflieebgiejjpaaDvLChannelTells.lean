/- The law ChannelTells, where what it reads is of bulk at most 1048576: whatever the input, it returns true, and the input reads as it did. -/
import Derived.Test.YtflieebgiejjpaaDvOb7
import Derived.Test.YtflieebgiejjpaaAmZ
import Derived.Test.YtflieebgiejjpaaRows
import Derived.WalkKit
import Derived.ProofKit
import Derived.OpenShut
import Derived.JoinedCond
import Derived.KernelRfl
set_option linter.unusedVariables false
namespace Go.Proofs.Ytflieebgiejjpaa
open Go.AM Go.ChangeShapes Go.WideShapes Go.ChangeAt Go.RowKit
theorem bys_of {elems : List (List Dt)} (h : ∀ e, e ∈ elems → Fits [.i .u8] e) : ∃ l : List Int, elems = byD l ∧ (∀ x, x ∈ l → 0 ≤ x ∧ x ≤ 255) ∧ l.length ≤ Dt.sizeLL elems := by
  obtain ⟨l, hl, he⟩ := fits_rows (fun x : Int => [Dt.val (.int .u8 x)]) (fun x => 0 ≤ x ∧ x ≤ 255) (fun e hf => by
    cases hf with | i _ a ha hf => cases hf with | nil => exact ⟨a, by simpa [Lit.wf, IntKind.min, IntKind.max, IntKind.signed, IntKind.bits] using ha, rfl⟩) h
  refine ⟨l, he, hl, ?_⟩
  have := Dt.sizeLL_len elems fun e hx => (h e hx).ne (by simp)
  rw [he] at this ⊢
  simpa using this

theorem ownChannelTells : ownKnob Try.prog.godebug = none := by kernel_rfl
theorem laidChannelTells : laidOutB Try.prog = true := by kernel_rfl
theorem one_le_bulkChannelTells {H : Type} (d : DataW H) : 1 ≤ Rows.uptoBulk d := by
  cases d with
  | lit l => cases l <;> simp [Rows.uptoBulk]
  | _ => simp [Rows.uptoBulk]
theorem wSumChannelTells {H : Type} : ∀ l : List (DataW H), wSum Rows.uptoBulk l = Rows.uptoBulkAll l
  | [] => by simp [wSum, Rows.uptoBulkAll]
  | d :: r => by simp [wSum, Rows.uptoBulkAll, wSumChannelTells r]
def bulkChannelTells (H : Type) : Bulk H where
  f := Rows.uptoBulk
  str s := by simp [Rows.uptoBulk]
  lit l := one_le_bulkChannelTells _
  nil := one_le_bulkChannelTells _
  slice a b := by simp [Rows.uptoBulk, wSumChannelTells]
  agg a := by simp [Rows.uptoBulk, wSumChannelTells]
def shChannelTells : List Sh := [⟨false, [.sl [.i .u8]]⟩, ⟨false, [.i .i64]⟩, ⟨true, [.sl [.i .u8], .b, .i .i64, .i .i64]⟩]
theorem shOfChannelTells : shOf Try.prog Try.f11.params.toList = some shChannelTells := by kernel_rfl
set_option maxRecDepth 100000 in
theorem walkChannelTells (dss : List (List Dt)) (hf : FitsA shChannelTells dss) (hb : Dt.sizeLL dss ≤ 1048576) : ACall Try.prog 11 (argsV shChannelTells dss) [] fun r _ => r = vBool true := by
  cases hf with | cons h1 hf =>
  cases hf with | cons h2 hf =>
  cases hf with | cons h3 hf =>
  cases hf
  cases h1 with | sl _ elems he h1 =>
  cases h1
  cases h2 with | i _ e _ h2 =>
  cases h2
  cases h3 with | sl _ elems3 he3 h3 =>
  cases h3 with | b has h3 =>
  cases h3 with | i _ opn _ h3 =>
  cases h3 with | i _ rts _ h3 =>
  cases h3
  obtain ⟨b, rfl, hb2, hl2⟩ := bys_of he
  obtain ⟨b3, rfl, hb3, hl3⟩ := bys_of he3
  have hr : b3.length ≤ 1048576 := by
    simp only [Dt.sizeLL, Dt.sizeL, Dt.size] at hb
    omega
  exact chtells_ok b hb2 e ⟨byD b3, has, opn, rts⟩ ⟨b3, rfl⟩ (by simp [byD]; omega)

set_option maxRecDepth 100000 in
theorem contractChannelTells (H : Type) (enc : TypeId × Value → H) (W : World) (base : Nat) (args : Array Value) (ds gs : List (DataW H)) (before : List MemPlace)
    (hval : ∀ (j : Nat) t v, Try.f11.params[j]? = some t → args[j]? = some v → Value.okWide Try.prog W .any base t v) (hk : Rows.uptoSmall H (ds ++ gs) = true)
    (hW : DataW.Whole enc Try.prog Try.f11.params.toList Rows.channelTellsSpec.vars false W args.toList ds gs before) :
    Calls Try.prog 11 args W fun e W' => ∃ v, e = .returned v ∧ Rows.channelTellsSpec.post enc Try.prog Try.f11 false true false false W args v W' := by
  refine law_contract (bulkChannelTells H) laidChannelTells Try.underlying4 (by kernel_rfl) rfl ?_ shOfChannelTells (by kernel_rfl) ?_ hval hW
  · intro ds hds
    match ds, hds with
    | [d1, d2, d3], _ => rfl
  · intro dss hf hsz
    refine walkChannelTells dss hf (Nat.le_trans hsz ?_)
    have h1 : Rows.uptoBulkAll (ds ++ gs) ≤ 1048576 := of_decide_eq_true hk
    have h2 : ∀ a b : List (DataW H), Rows.uptoBulkAll a ≤ Rows.uptoBulkAll (a ++ b) := by
      intro a b
      induction a with
      | nil => simp [Rows.uptoBulkAll]
      | cons x r ih => simp only [List.cons_append, Rows.uptoBulkAll]; omega
    show wSum Rows.uptoBulk ds ≤ 1048576
    rw [wSumChannelTells]
    exact Nat.le_trans (h2 ds gs) h1
set_option maxRecDepth 100000 in
theorem liftedChannelTells (os : Os) (started : os.Started) (H : Type) (enc : TypeId × Value → H) (F : Stop.Interp) :
    ReturnsInHanded {} Try.checked os 11 .any ((Rows.OpenSpec.upto Rows.channelTellsSpec).pre6 enc Try.prog Try.f11 Rows.channelTellsUptoRow.domain false) (((Rows.OpenSpec.upto Rows.channelTellsSpec).at F).post enc Try.prog Try.f11 false true false false) := by
  refine returnsInHanded_of_cond (C := Try.checked) (s := Rows.OpenSpec.upto Rows.channelTellsSpec) (k := Rows.uptoSmall) rfl ownChannelTells started (by kernel_rfl) Try.func11
    (OpenSpec.witness (enc := enc) (C := Try.checked) (s := Rows.OpenSpec.upto Rows.channelTellsSpec) (k := Rows.uptoSmall) rfl false ⟨#[], #[.slice none 0 0, .int .i64 0, .agg #[.slice none 0 0, .bool false, .int .i64 0, .int .i64 0]], []⟩ 8 (by kernel_rfl) (by kernel_rfl) (by kernel_rfl)
      (x := ([.nil, .lit (.int .i64 0), .agg [.nil, .lit (.bool false), .agg [.lit (.int .i64 0), .lit (.int .i64 0)]]], [], [])) (by kernel_rfl) rfl (by kernel_rfl)) ?_
  intro W base args ds gs before hval hW _ hk _
  exact contractChannelTells H enc W base args ds gs before hval hk hW
theorem channelTellsUptoSaid : Rows.ChannelTellsUptoSaid :=
  OpenClaim.holds_of_cond 11 Try.f11 rfl rfl rfl rfl rfl rfl rfl ⟨rfl, rfl, rfl, rfl, rfl⟩ rfl rfl rfl rfl rfl (by kernel_rfl) Try.func11 (by kernel_rfl)
    (of_decide_eq_true (by kernel_rfl)) (by unfold Func.isWrapper; first | (rw [if_pos (by decide +kernel)]; kernel_rfl) | (rw [if_neg (by decide +kernel)]; exact ⟨rfl, rfl⟩))
    (fun os started H enc _ F => liftedChannelTells os started H enc F)
end Go.Proofs.Ytflieebgiejjpaa
