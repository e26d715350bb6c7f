import Derived.Test.YtoohefnephhmbaaDoorAmZ2
import Derived.Test.YtoohefnephhmbaaDoorDvPDep
import Derived.Test.YtoohefnephhmbaaDoorAmY
set_option linter.unusedVariables false
set_option linter.unusedSimpArgs false
namespace Go.Proofs.YtoohefnephhmbaaDoor
open Go.AM Go.ChangeShapes Go.WideShapes Go.ChangeAt Go.RowKit
def c14 : LF := ⟨16, [.tmp 4], (.seq (.reg [
    ⟨(some 4), .mov (.c (.rv (.one (.dat (.val (.string ⟨#[]⟩)))))), none⟩]) (.seq (.reg [
    ⟨(some 6), .mov (.t 0), none⟩,
    ⟨(some 7), .call (.c (.rv (.one (.fn 40 [])))) [(.t 6), (.c (.rv (.one (.dat (.val (.string ⟨#[47]⟩))))))], none⟩,
    ⟨(some 5), .mov (.t 7), none⟩]) (.seq (.block 0 (.seq (.reg [
    ⟨(some 9), .mov (.t 1), none⟩,
    ⟨(some 8), .mov (.t 9), none⟩]) (.cond (.t 8) (.seq (.reg [
    ⟨(some 10), .mov (.t 5), none⟩,
    ⟨(some 11), .bin .add (.c (.rv (.one (.dat (.val (.string ⟨#[47]⟩)))))) (.t 10), none⟩,
    ⟨(some 4), .mov (.t 11), none⟩]) .ret) (.seq (.reg [
    ⟨(some 13), .mov (.t 5), none⟩,
    ⟨(some 14), .bin .eql (.t 13) (.c (.rv (.one (.dat (.val (.string ⟨#[]⟩)))))), none⟩,
    ⟨(some 12), .mov (.t 14), none⟩]) (.cond (.t 12) (.seq (.reg [
    ⟨(some 4), .mov (.c (.rv (.one (.dat (.val (.string ⟨#[46]⟩)))))), none⟩]) .ret) .skip))))) (.seq (.reg [
    ⟨(some 15), .mov (.t 5), none⟩,
    ⟨(some 4), .mov (.t 15), none⟩]) .ret))))⟩
def joinT (sep : Txt) (l : List Txt) : Txt := Lib.join l sep
theorem map_data (l : List Txt) : (l.map bysL).map (·.data.toList) = l := by
  rw [List.map_map]
  exact List.map_id'' (fun _ => rfl) l
/-- strings.Join -/
theorem join_ok (l : List Txt) (sep : Txt) (hN : l.length ≤ 4194304) (hlen : (joinT sep l).length ≤ 140737488355328) {m : Mem} {K : CV → Mem → Prop} (h : K (vT (joinT sep l)) m) : ACall Tryd.prog 40 [txV l, vT sep] m K := by
  refine ⟨⟨Tryd.f40, Tryd.func40, rfl, by decide⟩, fun ρ w vs hM hl hd => ?_⟩
  obtain ⟨v0, h0, d0⟩ := hd 0 _ rfl
  obtain ⟨v1, h1, d1⟩ := hd 1 _ rfl
  have hv1 : v1 = .string (bysL sep) := (den_plain d1).1
  have hvs : vs = [v0, v1] := by
    match vs, hl with
    | [a, b], _ => simp at h0 h1; rw [h0, h1]
  have fin : ∀ (W' : World) (v : Value), v = .string (bysL (joinT sep l)) → Below w.heap.size w W' → ∃ v_1 r m' ρ', Ending.returned v = .returned v_1 ∧ K r m' ∧ MemRel ρ' m' W' ∧ DenV ρ' W' r v_1 ∧ Ext ρ m w ρ' m' W' := by
    rintro W' v rfl hb
    refine ⟨_, _, m, ρ, rfl, h, hM.lies ⟨hb.size, fun b hS => hb.block b (hM.S b hS), fun k hk => hb.block _ (hM.live k hk).1⟩, DenD.val _ rfl, ?_⟩
    exact ⟨Nat.le_refl _, fun _ _ => rfl, fun _ h => h, fun _ h => .inl h, fun k h => .inr ⟨k, h, rfl⟩, fun b hb' _ => hb.block b hb', hb.size, hb.os, hb.tape, hb.output⟩
  have hD : DenD ρ.S w (.sl 1 (l.map tD)) v0 := d0
  rw [hvs, hv1]
  generalize hel : l.map tD = elems at hD
  cases hD with
  | nil _ a cap hc =>
    have : l = [] := by simpa using hel
    subst this
    refine (join_none a cap (bysL sep) w).mono fun e W' ⟨he, hw⟩ => ?_
    subst he
    exact fin W' _ rfl (hw ▸ Below.refl _ _)
  | sl _ _ b off cap u hS hlc hcap hsz hc hden =>
    have hell : elems.length = (l.map bysL).length := by rw [← hel]; simp
    rw [hell] at hlc ⊢
    refine (join_at b off cap (l.map bysL) (bysL sep) w (fun j x hj => ?_) (hM.S b hS) (by rw [List.length_map]; omega) hlc (by rw [map_data]; exact hlen)).mono fun e W' ⟨he, hw⟩ => ?_
    · rw [List.getElem?_map] at hj
      cases hlj : l[j]? with
      | none => rw [hlj] at hj; cases hj
      | some t =>
        rw [hlj] at hj
        simp only [Option.map_some, Option.some.injEq] at hj
        subst hj
        have e1 : elems[j]? = some [.val (.string (bysL t))] := by rw [← hel, List.getElem?_map, hlj]; rfl
        have e2 := hc j _ 0 _ e1 rfl
        have e3 := hden j _ 0 _ e1 rfl
        have e4 : u j 0 = .string (bysL t) := by
          generalize u j 0 = x at e3
          cases e3 with
          | val _ _ => rfl
        rw [e4] at e2
        simpa using e2
    · subst he
      refine fin W' _ ?_ hw
      rw [map_data]
      rfl
theorem l14 : lowF Tryd.prog Tryd.f14 = some c14 := by kernel_rfl
/-- parts, as a path -/
def pathS (l : List Txt) (root : Bool) : Txt := if root then 47 :: joinT [47] l else if joinT [47] l = [] then [46] else joinT [47] l
set_option maxRecDepth 100000 in
theorem pjoin_body (l : List Txt) (root : Bool) (hN : l.length ≤ 4194304) (hlen : (joinT [47] l).length ≤ 1099511627776) : body Tryd.prog c14 [txV l, vBool root] [] (fun r m => r = vT (pathS l root)) := by
  refine join_ok l [47] hN (by omega) ?_
  cases root with
  | true =>
    refine ok_some (x := .string (bysL ([47] ++ joinT [47] l))) (binV_add (by simp; omega)) ?_
    rfl
  | false =>
    refine bB_str (b := []) (fun h => ?_) (fun h => ?_)
    · show vT [46] = vT (pathS l false)
      rw [pathS, if_neg (by simp), if_pos h]
    · show vT (joinT [47] l) = vT (pathS l false)
      rw [pathS, if_neg (by simp), if_neg h]
theorem pjoin_ok (l : List Txt) (root : Bool) (hN : l.length ≤ 4194304) (hlen : (joinT [47] l).length ≤ 1099511627776) {m : Mem} {K : CV → Mem → Prop} (h : K (vT (pathS l root)) m) : ACall Tryd.prog 14 [txV l, vBool root] m K :=
  acall_val Tryd.func14 l14 rfl (Nat.le_of_ble_eq_true rfl) (pjoin_body l root hN hlen) rfl rfl h
end Go.Proofs.YtoohefnephhmbaaDoor
