/- The law BpfTells, where what it reads is of bulk at most 1048576: whatever the input, it returns true, and the input reads as it did. -/
import Derived.Test.YtflieebgiejjpaaDvBpf13
import Derived.Test.YtflieebgiejjpaaAmZ
import Derived.Test.YtflieebgiejjpaaRows
import Derived.WalkKit
import Derived.ProofKit
import Derived.OpenShut
import Derived.JoinedCond
import Derived.KernelRfl
set_option linter.unusedVariables false
namespace Go.Proofs.Ytflieebgiejjpaa
open Go.AM Go.ChangeShapes Go.WideShapes Go.ChangeAt Go.RowKit
theorem ins_of {elems : List (List Dt)} (h : ∀ e, e ∈ elems → Fits [.i .i64, .i .i64, .i .i64, .i .i64] e) : ∃ l : List Ins, elems = l.map Ins.enc ∧ l.length ≤ Dt.sizeLL elems := by
  obtain ⟨l, _, he⟩ := fits_rows Ins.enc (fun _ => True) (fun e hf => by
    cases hf with | i _ a _ hf => cases hf with | i _ b _ hf => cases hf with | i _ c _ hf => cases hf with | i _ d _ hf => cases hf with | nil => exact ⟨⟨a, b, c, d⟩, trivial, rfl⟩) h
  refine ⟨l, he, ?_⟩
  have := Dt.sizeLL_len elems fun e hx => (h e hx).ne (by simp)
  rw [he] at this ⊢
  simpa using this
theorem bys_of {elems : List (List Dt)} (h : ∀ e, e ∈ elems → Fits [.i .u8] e) : ∃ l : List Int, elems = byD l ∧ (∀ x, x ∈ l → 0 ≤ x ∧ x ≤ 255) ∧ l.length ≤ Dt.sizeLL elems := by
  obtain ⟨l, hl, he⟩ := fits_rows (fun x : Int => [Dt.val (.int .u8 x)]) (fun x => 0 ≤ x ∧ x ≤ 255) (fun e hf => by
    cases hf with | i _ a ha hf => cases hf with | nil => exact ⟨a, by simpa [Lit.wf, IntKind.min, IntKind.max, IntKind.signed, IntKind.bits] using ha, rfl⟩) h
  refine ⟨l, he, hl, ?_⟩
  have := Dt.sizeLL_len elems fun e hx => (h e hx).ne (by simp)
  rw [he] at this ⊢
  simpa using this

theorem ownBpfTells : ownKnob Try.prog.godebug = none := by kernel_rfl
theorem laidBpfTells : laidOutB Try.prog = true := by kernel_rfl
theorem one_le_bulkBpfTells {H : Type} (d : DataW H) : 1 ≤ Rows.uptoBulk d := by
  cases d with
  | lit l => cases l <;> simp [Rows.uptoBulk]
  | _ => simp [Rows.uptoBulk]
theorem wSumBpfTells {H : Type} : ∀ l : List (DataW H), wSum Rows.uptoBulk l = Rows.uptoBulkAll l
  | [] => by simp [wSum, Rows.uptoBulkAll]
  | d :: r => by simp [wSum, Rows.uptoBulkAll, wSumBpfTells r]
def bulkBpfTells (H : Type) : Bulk H where
  f := Rows.uptoBulk
  str s := by simp [Rows.uptoBulk]
  lit l := one_le_bulkBpfTells _
  nil := one_le_bulkBpfTells _
  slice a b := by simp [Rows.uptoBulk, wSumBpfTells]
  agg a := by simp [Rows.uptoBulk, wSumBpfTells]
def shBpfTells : List Sh := [⟨false, [.sl [.i .i64, .i .i64, .i .i64, .i .i64]]⟩, ⟨true, [.i .i64, .i .i64, .i .i64, .i .i64, .i .i64, .i .i64]⟩, ⟨false, [.sl [.i .u8]]⟩]
theorem shOfBpfTells : shOf Try.prog Try.f7.params.toList = some shBpfTells := by kernel_rfl
set_option maxRecDepth 100000 in
theorem walkBpfTells (dss : List (List Dt)) (hf : FitsA shBpfTells dss) (hb : Dt.sizeLL dss ≤ 1048576) : ACall Try.prog 7 (argsV shBpfTells dss) [] fun r _ => r = vBool true := by
  cases hf with | cons h1 hf =>
  cases hf with | cons h2 hf =>
  cases hf with | cons h3 hf =>
  cases hf
  cases h1 with | sl _ elems he h1 =>
  cases h1
  cases h2 with | i _ r0 _ h2 =>
  cases h2 with | i _ r1 _ h2 =>
  cases h2 with | i _ r2 _ h2 =>
  cases h2 with | i _ r3 _ h2 =>
  cases h2 with | i _ r4 _ h2 =>
  cases h2 with | i _ r5 _ h2 =>
  cases h2
  cases h3 with | sl _ elems3 he3 h3 =>
  cases h3
  obtain ⟨l, rfl, hl⟩ := ins_of he
  obtain ⟨b, rfl, hb2, hl2⟩ := bys_of he3
  have hr : b.length ≤ 1048576 := by
    simp only [Dt.sizeLL, Dt.sizeL, Dt.size] at hb
    omega
  exact tells_ok l ⟨r0, r1, r2, r3, r4, r5⟩ b hb2 hr

set_option maxRecDepth 100000 in
theorem contractBpfTells (H : Type) (enc : TypeId × Value → H) (W : World) (base : Nat) (args : Array Value) (ds gs : List (DataW H)) (before : List MemPlace)
    (hval : ∀ (j : Nat) t v, Try.f7.params[j]? = some t → args[j]? = some v → Value.okWide Try.prog W .any base t v) (hk : Rows.uptoSmall H (ds ++ gs) = true)
    (hW : DataW.Whole enc Try.prog Try.f7.params.toList Rows.bpfTellsSpec.vars false W args.toList ds gs before) :
    Calls Try.prog 7 args W fun e W' => ∃ v, e = .returned v ∧ Rows.bpfTellsSpec.post enc Try.prog Try.f7 false true false false W args v W' := by
  refine law_contract (bulkBpfTells H) laidBpfTells Try.underlying4 (by kernel_rfl) rfl ?_ shOfBpfTells (by kernel_rfl) ?_ hval hW
  · intro ds hds
    match ds, hds with
    | [d1, d2, d3], _ => rfl
  · intro dss hf hsz
    refine walkBpfTells dss hf (Nat.le_trans hsz ?_)
    have h1 : Rows.uptoBulkAll (ds ++ gs) ≤ 1048576 := of_decide_eq_true hk
    have h2 : ∀ a b : List (DataW H), Rows.uptoBulkAll a ≤ Rows.uptoBulkAll (a ++ b) := by
      intro a b
      induction a with
      | nil => simp [Rows.uptoBulkAll]
      | cons x r ih => simp only [List.cons_append, Rows.uptoBulkAll]; omega
    show wSum Rows.uptoBulk ds ≤ 1048576
    rw [wSumBpfTells]
    exact Nat.le_trans (h2 ds gs) h1
set_option maxRecDepth 100000 in
theorem liftedBpfTells (os : Os) (started : os.Started) (H : Type) (enc : TypeId × Value → H) (F : Stop.Interp) :
    ReturnsInHanded {} Try.checked os 7 .any ((Rows.OpenSpec.upto Rows.bpfTellsSpec).pre6 enc Try.prog Try.f7 Rows.bpfTellsUptoRow.domain false) (((Rows.OpenSpec.upto Rows.bpfTellsSpec).at F).post enc Try.prog Try.f7 false true false false) := by
  refine returnsInHanded_of_cond (C := Try.checked) (s := Rows.OpenSpec.upto Rows.bpfTellsSpec) (k := Rows.uptoSmall) rfl ownBpfTells started (by kernel_rfl) Try.func7
    (OpenSpec.witness (enc := enc) (C := Try.checked) (s := Rows.OpenSpec.upto Rows.bpfTellsSpec) (k := Rows.uptoSmall) rfl false ⟨#[], #[.slice none 0 0, .agg #[.int .i64 0, .int .i64 0, .int .i64 0, .int .i64 0, .int .i64 0, .int .i64 0], .slice none 0 0], []⟩ 8 (by kernel_rfl) (by kernel_rfl) (by kernel_rfl)
      (x := ([.nil, .agg [.lit (.int .i64 0), .lit (.int .i64 0), .lit (.int .i64 0), .lit (.int .i64 0), .lit (.int .i64 0), .lit (.int .i64 0)], .nil], [], [])) (by kernel_rfl) rfl (by kernel_rfl)) ?_
  intro W base args ds gs before hval hW _ hk _
  exact contractBpfTells H enc W base args ds gs before hval hk hW
theorem bpfTellsUptoSaid : Rows.BpfTellsUptoSaid :=
  OpenClaim.holds_of_cond 7 Try.f7 rfl rfl rfl rfl rfl rfl rfl ⟨rfl, rfl, rfl, rfl, rfl⟩ rfl rfl rfl rfl rfl (by kernel_rfl) Try.func7 (by kernel_rfl)
    (of_decide_eq_true (by kernel_rfl)) (by unfold Func.isWrapper; first | (rw [if_pos (by decide +kernel)]; kernel_rfl) | (rw [if_neg (by decide +kernel)]; exact ⟨rfl, rfl⟩))
    (fun os started H enc _ F => liftedBpfTells os started H enc F)
end Go.Proofs.Ytflieebgiejjpaa
