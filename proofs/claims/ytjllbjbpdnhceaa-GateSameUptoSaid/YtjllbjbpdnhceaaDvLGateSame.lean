/- The law GateSame, where what it reads is of bulk at most 1048576: whatever the input, it returns true, and the input reads as it did. -/
import Derived.Test.YtjllbjbpdnhceaaDvGF
import Derived.Test.YtjllbjbpdnhceaaAmZ
import Derived.Test.YtjllbjbpdnhceaaRows
import Derived.WalkKit
import Derived.ProofKit
import Derived.OpenShut
import Derived.JoinedCond
import Derived.KernelRfl
set_option linter.unusedVariables false
namespace Go.Proofs.Ytjllbjbpdnhceaa
open Go.AM Go.ChangeShapes Go.WideShapes Go.ChangeAt Go.RowKit
theorem dec_msk (e : List Dt) (hf : Fits [.i .i64, .i .i64] e) : ∃ a : Msk, True ∧ e = a.enc := by
  cases hf with | i _ a _ hf => cases hf with | i _ b _ hf => cases hf with | nil => exact ⟨⟨a, b⟩, trivial, rfl⟩
theorem sizeLL_mem : ∀ {l : List (List Dt)} {e : List Dt}, e ∈ l → Dt.sizeL e ≤ Dt.sizeLL l
  | [], e, h => by simp at h
  | x :: r, e, h => by
    simp only [Dt.sizeLL]
    rcases List.mem_cons.1 h with rfl | h
    · omega
    · have := sizeLL_mem h
      omega
theorem pols_of {elems : List (List Dt)} (h : ∀ e, e ∈ elems → Fits [.i .i64, .sl [.i .i64, .i .i64]] e) : ∃ l : List Pol, elems = l.map Pol.enc ∧ ∀ p, p ∈ l → p.masks.length ≤ Dt.sizeLL elems := by
  obtain ⟨l, _, he⟩ := fits_rows Pol.enc (fun _ => True) (fun e hf => by
    cases hf with | i _ a _ hf => cases hf with | sl _ em he hf => cases hf with | nil =>
    obtain ⟨ms, _, hm⟩ := fits_rows Msk.enc (fun _ => True) dec_msk he
    subst hm
    exact ⟨⟨a, ms⟩, trivial, rfl⟩) h
  refine ⟨l, he, fun p hp => ?_⟩
  have h1 : Dt.sizeL p.enc ≤ Dt.sizeLL elems := sizeLL_mem (by rw [he]; exact List.mem_map.2 ⟨p, hp, rfl⟩)
  have h2 := Dt.sizeLL_len (p.masks.map Msk.enc) fun e hx => by
    obtain ⟨s, _, rfl⟩ := List.mem_map.1 hx
    simp [Msk.enc]
  rw [List.length_map] at h2
  simp only [Pol.enc, Dt.sizeL, Dt.size] at h1
  omega

theorem ownGateSame : ownKnob Try.prog.godebug = none := by kernel_rfl
theorem laidGateSame : laidOutB Try.prog = true := by kernel_rfl
theorem one_le_bulkGateSame {H : Type} (d : DataW H) : 1 ≤ Rows.uptoBulk d := by
  cases d with
  | lit l => cases l <;> simp [Rows.uptoBulk]
  | _ => simp [Rows.uptoBulk]
theorem wSumGateSame {H : Type} : ∀ l : List (DataW H), wSum Rows.uptoBulk l = Rows.uptoBulkAll l
  | [] => by simp [wSum, Rows.uptoBulkAll]
  | d :: r => by simp [wSum, Rows.uptoBulkAll, wSumGateSame r]
def bulkGateSame (H : Type) : Bulk H where
  f := Rows.uptoBulk
  str s := by simp [Rows.uptoBulk]
  lit l := one_le_bulkGateSame _
  nil := one_le_bulkGateSame _
  slice a b := by simp [Rows.uptoBulk, wSumGateSame]
  agg a := by simp [Rows.uptoBulk, wSumGateSame]
def shGateSame : List Sh := [⟨false, [.sl [.i .i64, .sl [.i .i64, .i .i64]]]⟩, ⟨true, [.i .i64, .i .i64, .i .i64, .i .i64, .i .i64, .i .i64]⟩]
theorem shOfGateSame : shOf Try.prog Try.f3.params.toList = some shGateSame := by kernel_rfl
set_option maxRecDepth 100000 in
theorem walkGateSame (dss : List (List Dt)) (hf : FitsA shGateSame dss) (hb : Dt.sizeLL dss ≤ 1048576) : ACall Try.prog 3 (argsV shGateSame dss) [] fun r _ => r = vBool true := by
  cases hf with | cons h1 hf =>
  cases hf with | cons h2 hf =>
  cases hf
  cases h1 with | sl _ elems he h1 =>
  cases h1
  cases h2 with | i _ r0 _ h2 =>
  cases h2 with | i _ r1 _ h2 =>
  cases h2 with | i _ r2 _ h2 =>
  cases h2 with | i _ r3 _ h2 =>
  cases h2 with | i _ r4 _ h2 =>
  cases h2 with | i _ r5 _ h2 =>
  cases h2
  obtain ⟨l, rfl, hl⟩ := pols_of he
  refine gsame_ok l ⟨r0, r1, r2, r3, r4, r5⟩ fun p hp => ?_
  have hp := hl p hp
  simp only [Dt.sizeLL, Dt.sizeL, Dt.size] at hb
  omega

set_option maxRecDepth 100000 in
theorem contractGateSame (H : Type) (enc : TypeId × Value → H) (W : World) (base : Nat) (args : Array Value) (ds gs : List (DataW H)) (before : List MemPlace)
    (hval : ∀ (j : Nat) t v, Try.f3.params[j]? = some t → args[j]? = some v → Value.okWide Try.prog W .any base t v) (hk : Rows.uptoSmall H (ds ++ gs) = true)
    (hW : DataW.Whole enc Try.prog Try.f3.params.toList Rows.gateSameSpec.vars false W args.toList ds gs before) :
    Calls Try.prog 3 args W fun e W' => ∃ v, e = .returned v ∧ Rows.gateSameSpec.post enc Try.prog Try.f3 false true false false W args v W' := by
  refine law_contract (bulkGateSame H) laidGateSame Try.underlying4 (by kernel_rfl) rfl ?_ shOfGateSame (by kernel_rfl) ?_ hval hW
  · intro ds hds
    match ds, hds with
    | [d1, d2], _ => rfl
  · intro dss hf hsz
    refine walkGateSame dss hf (Nat.le_trans hsz ?_)
    have h1 : Rows.uptoBulkAll (ds ++ gs) ≤ 1048576 := of_decide_eq_true hk
    have h2 : ∀ a b : List (DataW H), Rows.uptoBulkAll a ≤ Rows.uptoBulkAll (a ++ b) := by
      intro a b
      induction a with
      | nil => simp [Rows.uptoBulkAll]
      | cons x r ih => simp only [List.cons_append, Rows.uptoBulkAll]; omega
    show wSum Rows.uptoBulk ds ≤ 1048576
    rw [wSumGateSame]
    exact Nat.le_trans (h2 ds gs) h1
set_option maxRecDepth 100000 in
theorem liftedGateSame (os : Os) (started : os.Started) (H : Type) (enc : TypeId × Value → H) (F : Stop.Interp) :
    ReturnsInHanded {} Try.checked os 3 .any ((Rows.OpenSpec.upto Rows.gateSameSpec).pre6 enc Try.prog Try.f3 Rows.gateSameUptoRow.domain false) (((Rows.OpenSpec.upto Rows.gateSameSpec).at F).post enc Try.prog Try.f3 false true false false) := by
  refine returnsInHanded_of_cond (C := Try.checked) (s := Rows.OpenSpec.upto Rows.gateSameSpec) (k := Rows.uptoSmall) rfl ownGateSame started (by kernel_rfl) Try.func3
    (OpenSpec.witness (enc := enc) (C := Try.checked) (s := Rows.OpenSpec.upto Rows.gateSameSpec) (k := Rows.uptoSmall) rfl false ⟨#[], #[.slice none 0 0, .agg #[.int .i64 0, .int .i64 0, .int .i64 0, .int .i64 0, .int .i64 0, .int .i64 0]], []⟩ 8 (by kernel_rfl) (by kernel_rfl) (by kernel_rfl)
      (x := ([.nil, .agg [.lit (.int .i64 0), .lit (.int .i64 0), .lit (.int .i64 0), .lit (.int .i64 0), .lit (.int .i64 0), .lit (.int .i64 0)]], [], [])) (by kernel_rfl) rfl (by kernel_rfl)) ?_
  intro W base args ds gs before hval hW _ hk _
  exact contractGateSame H enc W base args ds gs before hval hk hW
theorem gateSameUptoSaid : Rows.GateSameUptoSaid :=
  OpenClaim.holds_of_cond 3 Try.f3 rfl rfl rfl rfl rfl rfl rfl ⟨rfl, rfl, rfl, rfl, rfl⟩ rfl rfl rfl rfl rfl (by kernel_rfl) Try.func3 (by kernel_rfl)
    (of_decide_eq_true (by kernel_rfl)) (by unfold Func.isWrapper; first | (rw [if_pos (by decide +kernel)]; kernel_rfl) | (rw [if_neg (by decide +kernel)]; exact ⟨rfl, rfl⟩))
    (fun os started H enc _ F => liftedGateSame os started H enc F)
end Go.Proofs.Ytjllbjbpdnhceaa
