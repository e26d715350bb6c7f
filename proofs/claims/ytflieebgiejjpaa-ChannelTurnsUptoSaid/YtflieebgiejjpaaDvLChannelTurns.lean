/- The law ChannelTurns, where what it reads is of bulk at most 1048576: whatever the input, it returns true, and the input reads as it did. -/
import Derived.Test.YtflieebgiejjpaaDvCh10
import Derived.Test.YtflieebgiejjpaaAmZ
import Derived.Test.YtflieebgiejjpaaRows
import Derived.WalkKit
import Derived.ProofKit
import Derived.OpenShut
import Derived.JoinedCond
import Derived.KernelRfl
set_option linter.unusedVariables false
namespace Go.Proofs.Ytflieebgiejjpaa
open Go.AM Go.ChangeShapes Go.WideShapes Go.ChangeAt Go.RowKit
theorem sizeLL_mem : ∀ {l : List (List Dt)} {e : List Dt}, e ∈ l → Dt.sizeL e ≤ Dt.sizeLL l
  | [], e, h => by simp at h
  | x :: r, e, h => by
    simp only [Dt.sizeLL]
    rcases List.mem_cons.1 h with rfl | h
    · omega
    · have := sizeLL_mem h
      omega
theorem strs_of {elems : List (List Dt)} (h : ∀ e, e ∈ elems → Fits [.s] e) : ∃ l : List ByteArray, elems = l.map strRow ∧ ∀ s, s ∈ l → s.size ≤ Dt.sizeLL elems := by
  obtain ⟨l, _, he⟩ := fits_rows strRow (fun _ => True) (fun e hf => by
    cases hf with | s x hf => cases hf with | nil => exact ⟨x, trivial, rfl⟩) h
  refine ⟨l, he, fun s hs => ?_⟩
  have h1 : Dt.sizeL (strRow s) ≤ Dt.sizeLL elems := sizeLL_mem (by rw [he]; exact List.mem_map.2 ⟨s, hs, rfl⟩)
  simp only [strRow, Dt.sizeL, Dt.size] at h1
  omega

theorem ownChannelTurns : ownKnob Try.prog.godebug = none := by kernel_rfl
theorem laidChannelTurns : laidOutB Try.prog = true := by kernel_rfl
theorem one_le_bulkChannelTurns {H : Type} (d : DataW H) : 1 ≤ Rows.uptoBulk d := by
  cases d with
  | lit l => cases l <;> simp [Rows.uptoBulk]
  | _ => simp [Rows.uptoBulk]
theorem wSumChannelTurns {H : Type} : ∀ l : List (DataW H), wSum Rows.uptoBulk l = Rows.uptoBulkAll l
  | [] => by simp [wSum, Rows.uptoBulkAll]
  | d :: r => by simp [wSum, Rows.uptoBulkAll, wSumChannelTurns r]
def bulkChannelTurns (H : Type) : Bulk H where
  f := Rows.uptoBulk
  str s := by simp [Rows.uptoBulk]
  lit l := one_le_bulkChannelTurns _
  nil := one_le_bulkChannelTurns _
  slice a b := by simp [Rows.uptoBulk, wSumChannelTurns]
  agg a := by simp [Rows.uptoBulk, wSumChannelTurns]
def shChannelTurns : List Sh := [⟨false, [.sl [.s]]⟩, ⟨false, [.sl [.s]]⟩]
theorem shOfChannelTurns : shOf Try.prog Try.f12.params.toList = some shChannelTurns := by kernel_rfl
set_option maxRecDepth 100000 in
theorem walkChannelTurns (dss : List (List Dt)) (hf : FitsA shChannelTurns dss) (hb : Dt.sizeLL dss ≤ 1048576) : ACall Try.prog 12 (argsV shChannelTurns dss) [] fun r _ => r = vBool true := by
  cases hf with | cons h1 hf =>
  cases hf with | cons h2 hf =>
  cases hf
  cases h1 with | sl _ elems he h1 =>
  cases h1
  cases h2 with | sl _ elems2 he2 h2 =>
  cases h2
  obtain ⟨ms, rfl, hl⟩ := strs_of he
  obtain ⟨bk, rfl, hl2⟩ := strs_of he2
  simp only [Dt.sizeLL, Dt.sizeL, Dt.size] at hb
  exact cturns_ok ms bk (fun s hs => by have := hl s hs; omega) (fun s hs => by have := hl2 s hs; omega)

set_option maxRecDepth 100000 in
theorem contractChannelTurns (H : Type) (enc : TypeId × Value → H) (W : World) (base : Nat) (args : Array Value) (ds gs : List (DataW H)) (before : List MemPlace)
    (hval : ∀ (j : Nat) t v, Try.f12.params[j]? = some t → args[j]? = some v → Value.okWide Try.prog W .any base t v) (hk : Rows.uptoSmall H (ds ++ gs) = true)
    (hW : DataW.Whole enc Try.prog Try.f12.params.toList Rows.channelTurnsSpec.vars false W args.toList ds gs before) :
    Calls Try.prog 12 args W fun e W' => ∃ v, e = .returned v ∧ Rows.channelTurnsSpec.post enc Try.prog Try.f12 false true false false W args v W' := by
  refine law_contract (bulkChannelTurns H) laidChannelTurns Try.underlying4 (by kernel_rfl) rfl ?_ shOfChannelTurns (by kernel_rfl) ?_ hval hW
  · intro ds hds
    match ds, hds with
    | [d1, d2], _ => rfl
  · intro dss hf hsz
    refine walkChannelTurns dss hf (Nat.le_trans hsz ?_)
    have h1 : Rows.uptoBulkAll (ds ++ gs) ≤ 1048576 := of_decide_eq_true hk
    have h2 : ∀ a b : List (DataW H), Rows.uptoBulkAll a ≤ Rows.uptoBulkAll (a ++ b) := by
      intro a b
      induction a with
      | nil => simp [Rows.uptoBulkAll]
      | cons x r ih => simp only [List.cons_append, Rows.uptoBulkAll]; omega
    show wSum Rows.uptoBulk ds ≤ 1048576
    rw [wSumChannelTurns]
    exact Nat.le_trans (h2 ds gs) h1
set_option maxRecDepth 100000 in
theorem liftedChannelTurns (os : Os) (started : os.Started) (H : Type) (enc : TypeId × Value → H) (F : Stop.Interp) :
    ReturnsInHanded {} Try.checked os 12 .any ((Rows.OpenSpec.upto Rows.channelTurnsSpec).pre6 enc Try.prog Try.f12 Rows.channelTurnsUptoRow.domain false) (((Rows.OpenSpec.upto Rows.channelTurnsSpec).at F).post enc Try.prog Try.f12 false true false false) := by
  refine returnsInHanded_of_cond (C := Try.checked) (s := Rows.OpenSpec.upto Rows.channelTurnsSpec) (k := Rows.uptoSmall) rfl ownChannelTurns started (by kernel_rfl) Try.func12
    (OpenSpec.witness (enc := enc) (C := Try.checked) (s := Rows.OpenSpec.upto Rows.channelTurnsSpec) (k := Rows.uptoSmall) rfl false ⟨#[], #[.slice none 0 0, .slice none 0 0], []⟩ 8 (by kernel_rfl) (by kernel_rfl) (by kernel_rfl)
      (x := ([.nil, .nil], [], [])) (by kernel_rfl) rfl (by kernel_rfl)) ?_
  intro W base args ds gs before hval hW _ hk _
  exact contractChannelTurns H enc W base args ds gs before hval hk hW
theorem channelTurnsUptoSaid : Rows.ChannelTurnsUptoSaid :=
  OpenClaim.holds_of_cond 12 Try.f12 rfl rfl rfl rfl rfl rfl rfl ⟨rfl, rfl, rfl, rfl, rfl⟩ rfl rfl rfl rfl rfl (by kernel_rfl) Try.func12 (by kernel_rfl)
    (of_decide_eq_true (by kernel_rfl)) (by unfold Func.isWrapper; first | (rw [if_pos (by decide +kernel)]; kernel_rfl) | (rw [if_neg (by decide +kernel)]; exact ⟨rfl, rfl⟩))
    (fun os started H enc _ F => liftedChannelTurns os started H enc F)
end Go.Proofs.Ytflieebgiejjpaa
