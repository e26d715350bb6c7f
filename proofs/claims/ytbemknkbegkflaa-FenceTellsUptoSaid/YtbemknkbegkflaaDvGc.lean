import Derived.Test.YtbemknkbegkflaaAmZ2
import Derived.Test.YtbemknkbegkflaaDvGb
import Derived.Test.YtbemknkbegkflaaAmY
set_option linter.unusedVariables false
set_option linter.unusedSimpArgs false
namespace Go.Proofs.Ytbemknkbegkflaa
open Go.AM Go.ChangeShapes Go.WideShapes Go.ChangeAt Go.RowKit
/-! Parts of Build over objects of no room: Make, Pair; pick -/
def BYb (b : List Int) : Prop := ∀ x, x ∈ b → 0 ≤ x ∧ x ≤ 255
theorem pick_any (b : List Int) (hb : BYb b) (n : Int) {m : Mem} {K : CV → Mem → Prop} (id : Nat) (hm : nth m id = some (.var [.dat (.sl 1 (byD b))]))
    (h : ∀ (x : Nat) (b' : List Int), BYb b' → (1 ≤ n → (x : Int) < n) → x ≤ 255 → (n < 1 → x = 0) → K (vInt .i64 (x : Nat)) (setN m id (.var [.dat (.sl 1 (byD b'))]))) : ACall Try.prog 9 [.rv (.one (.ptr id 0)), vInt .i64 n] m K := by
  refine pick_ok b n id hm ?_
  cases b with
  | nil => exact h 0 [] hb (fun hn => by show (0 : Int) < n; omega) (by omega) (fun _ => rfl)
  | cons x r =>
    by_cases hn : n < 1
    · have e : pickS (x :: r) n = (0, x :: r) := by rw [pickS, if_pos hn]
      rw [e]
      exact h 0 (x :: r) hb (fun hn => by show (0 : Int) < n; omega) (by omega) (fun _ => rfl)
    · have e : pickS (x :: r) n = ((IntKind.i64.wrap x).tmod n, r) := by rw [pickS, if_neg hn]
      obtain ⟨h1, h2⟩ := hb x (by simp)
      obtain ⟨k, rfl⟩ : ∃ k : Nat, x = k := ⟨x.toNat, by omega⟩
      obtain ⟨d, rfl⟩ : ∃ d : Nat, n = d := ⟨n.toNat, by omega⟩
      rw [wrapN (by omega)] at e
      have e2 : ((k : Int)).tmod (d : Int) = ((k % d : Nat) : Int) := (Int.ofNat_tmod k d).symm
      rw [e2] at e
      rw [e]
      have hlt : k % d < d := Nat.mod_lt _ (by omega)
      exact h (k % d) r (fun y hy => hb y (by simp [hy])) (fun _ => by omega) (by have := Nat.mod_le k d; omega) (fun h => absurd h hn)
theorem freeB_lt {l : List Ob} (h : l.length < 40) : freeKB l < 40 := by have := freeK_leB l; omega
theorem withB_len {l : List Ob} {k : Nat} {o : Ob} (hk : k ≤ l.length) : (withSB l k o).length ≤ l.length + 1 ∧ l.length ≤ (withSB l k o).length ∧ k < (withSB l k o).length := by
  unfold withSB
  by_cases h : (k : Int) = l.length
  · rw [if_pos h]; simp; omega
  · rw [if_neg h]; simp; omega
theorem withB_at {l : List Ob} {k : Nat} {o : Ob} (hk : k ≤ l.length) : (withSB l k o)[k]? = some o := by
  unfold withSB
  by_cases h : (k : Int) = l.length
  · rw [if_pos h]
    have : k = l.length := by omega
    subst this
    simp
  · rw [if_neg h]
    simp [List.getElem?_set]
    omega
theorem withB_mem {l : List Ob} {k : Nat} {o x : Ob} (hx : x ∈ withSB l k o) : x ∈ l ∨ x = o := by
  unfold withSB at hx
  by_cases h : (k : Int) = l.length
  · rw [if_pos h] at hx
    simpa using hx
  · rw [if_neg h] at hx
    exact List.mem_or_eq_of_mem_set hx
theorem make_goodB {l : List Ob} (g : GoodN l) (h : l.length < 40) {o : Ob} (ho : o.sm) (hz : o.kind ≠ 0) (hp : o.peer = -1 ∨ 0 ≤ o.peer ∧ o.peer < l.length) (he : o.entries = []) (hu : o.up = 0) : ∃ (l' : List Ob) (k : Nat), rMakeSB l o = (l', (k : Int), 0) ∧ GoodN l' ∧ l'.length ≤ l.length + 1 ∧ l.length ≤ l'.length ∧ (l'[k]? = some o ∧ 0 < k ∧ ∀ x, x ∈ l' → ∀ e, e ∈ x.entries.map unE → e.2 ≠ (k : Int)) := by
  have hk := freeB_lt h
  have hkl := freeK_leB l
  have h00 : 0 < l.length := by
    obtain ⟨r, hr, _⟩ := g.root
    exact (List.getElem?_eq_some_iff.1 hr).1
  have hfe : freeKB l = l.length := freeK_endB fun j x _ hx => g.nz x (List.mem_of_getElem? hx)
  have hwe : withSB l (freeKB l : Nat) o = l ++ [o] := by rw [hfe, withSB, if_pos rfl]
  have hrg : ∀ x, x ∈ l → ∀ e, e ∈ x.entries.map unE → e.2 < (l.length : Int) := fun x hx e hxe => by
    obtain ⟨es, he0, _, hrng, _⟩ := (g.en x hx).ex
    rw [he0, unE_map] at hxe
    exact (hrng e hxe).2
  refine ⟨withSB l (freeKB l) o, freeKB l, by rw [rMakeSB, if_neg (by omega)], ?_, (withB_len hkl).1, (withB_len hkl).2.1, withB_at hkl, by omega, fun x hx e hxe => ?_⟩
  rotate_left
  · rcases withB_mem hx with hx | rfl
    · have := hrg x hx e hxe
      omega
    · rw [he] at hxe
      simp at hxe
  refine ⟨?_, by
    rw [hwe, List.map_append, show List.map Ob.tri [o] = [(o.kind, 0, [])] by simp [Ob.tri, hu, he]]
    refine g.tr.snoc (by simpa using h00) (fun x hx e hxe => ?_) _
    obtain ⟨y, hy, rfl⟩ := List.mem_map.1 hx
    rw [List.length_map]
    exact hrg y hy e hxe⟩
  refine ⟨by have := (withB_len (o := o) hkl).1; omega, fun x hx => ?_, ?_, fun x hx => ?_, fun x hx => ?_, fun x hx => ?_⟩
  · rcases withB_mem hx with hx | rfl
    · exact g.sm x hx
    · exact ho
  · obtain ⟨r, hr, hr2⟩ := g.root
    have h0 : 0 < l.length := (List.getElem?_eq_some_iff.1 hr).1
    have hne : freeKB l ≠ 0 := by
      intro h0'
      unfold freeKB at h0'
      cases hf : l.findIdx? (fun o => o.kind == 0) with
      | none => rw [hf] at h0'; simp at h0'; rw [h0'] at h0; simp at h0
      | some k =>
        rw [hf] at h0'
        simp at h0'
        subst h0'
        have := (List.findIdx?_eq_some_iff_getElem.1 hf)
        obtain ⟨hh, h1, _⟩ := this
        rw [List.getElem?_eq_getElem hh] at hr
        cases hr
        simp [hr2] at h1
    refine ⟨r, ?_, hr2⟩
    unfold withSB
    by_cases h : ((freeKB l : Nat) : Int) = l.length
    · rw [if_pos h, List.getElem?_append_left h0]; exact hr
    · rw [if_neg h, List.getElem?_set_ne (by simpa using hne)]; exact hr
  · rcases withB_mem hx with hx | rfl
    · exact g.nz x hx
    · exact hz
  · have hle := (withB_len (o := o) hkl).2.1
    rcases withB_mem hx with hx | rfl
    · rcases g.pe x hx with h1 | h1
      · exact .inl h1
      · exact .inr ⟨h1.1, by omega⟩
    · rcases hp with h1 | h1
      · exact .inl h1
      · exact .inr ⟨h1.1, by omega⟩
  · have hle := (withB_len (o := o) hkl).2.1
    rcases withB_mem hx with hx | rfl
    · exact (g.en x hx).mono hle
    · rw [he]; exact EntOK.nil _ _
/-- Make, where there is room -/
theorem mk_ok (l : List Ob) (g : GoodN l) (h : l.length < 40) (o : Ob) (ho : o.sm) (hz : o.kind ≠ 0) (hp : o.peer = -1 ∨ 0 ≤ o.peer ∧ o.peer < l.length) (he : o.entries = []) (hu : o.up = 0) {m : Mem} {K : CV → Mem → Prop}
    (hK : ∀ (l' : List Ob) (k : Nat), GoodN l' → l'.length ≤ l.length + 1 → l.length ≤ l'.length → (l'[k]? = some o ∧ 0 < k ∧ ∀ x, x ∈ l' → ∀ e, e ∈ x.entries.map unE → e.2 ≠ (k : Int)) → K (.tup [obsR l', iRV (k : Nat), iRV 0]) m) : ACall Try.prog 10 [obsV l, o.cv] m K := by
  obtain ⟨l', k, e, h1, h2, h3, h4⟩ := make_goodB g h ho hz hp he hu
  refine rmake_okB l (by omega) o ?_
  rw [e]
  exact hK l' k h1 h2 h3 h4
def endB (k p q : Int) : Ob := ⟨k, [], [], ⟨#[]⟩, p, noD, q, 0, 0⟩
theorem endB_sm (k p q : Int) : (endB k p q).sm := ⟨⟨⟨[], rfl⟩, ⟨[], rfl⟩⟩, by simp [endB], by simp [endB], rfl⟩
theorem endArgsB (a : CV) (k p q : Int) : ArgsL [a, .rv (.agg [.dat (.val (.int .i64 k)), .esl, .esl, .dat (.val (.string ⟨#[]⟩)), .dat (.val (.int .i64 p)), .esl, .dat (.val (.int .i64 q)), .dat (.val (.int .i64 0)), .dat (.val (.int .i64 0))])] [a, (endB k p q).cv] :=
  .same _ (.agg (.cons (.same _) (.cons (.esl 1) (.cons (.esl 2) (.cons (.same _) (.cons (.same _) (.cons .no (.cons (.same _) (.cons (.same _) (.cons (.same _) .nil))))))))) .nil)
theorem set_good {l : List Ob} (g : GoodN l) {n : Nat} (hn : n < l.length) {o : Ob} (ho : o.sm) (hk : o.kind = l[n].kind) (hp : o.peer = -1 ∨ 0 ≤ o.peer ∧ o.peer < l.length) (he : o.entries = l[n].entries) (ht : TreeT ((l.set n o).map Ob.tri)) : GoodN (withSB l n o) ∧ (withSB l n o).length = l.length := by
  have hw : withSB l n o = l.set n o := by rw [withSB, if_neg (by omega)]; simp
  rw [hw]
  exact ⟨⟨g.toGoodM.set' ho hn hk hp (by rw [he, hk]; exact g.en _ (List.getElem_mem hn)), ht⟩, by simp⟩
set_option maxRecDepth 100000 in
set_option maxHeartbeats 8000000 in
theorem pair_bodyB (l : List Ob) (g : GoodN l) (h38 : l.length < 39) : body Try.prog c13 [obsV l] [] (fun r m => ∃ l' a b, (GoodN l' ∧ l'.length ≤ l.length + 2) ∧ FrzV m r (.tup [obsR l', twoR (a, b), iRV 0])) := by
  refine acall_le (endArgsB _ _ _ _) (mk_ok l g (by omega) _ (endB_sm _ _ _) (show (4 : Int) ≠ 0 by decide) (.inl rfl) rfl rfl fun l1 a g1 hl1 _ ha => ?_)
  refine acall_le (endArgsB _ _ _ _) (mk_ok l1 g1 (by omega) _ (endB_sm _ _ _) (show (4 : Int) ≠ 0 by decide) (.inr ⟨(show (0 : Int) ≤ (a : Nat) by omega), (show ((a : Nat) : Int) < l1.length by have := (List.getElem?_eq_some_iff.1 ha.1).1; omega)⟩) rfl rfl fun l2 b g2 hl2 hl12 hb => ?_)
  have hlt : a < l2.length := by
    have := (List.getElem?_eq_some_iff.1 ha.1).1
    omega
  refine ok_some (obj_getB hlt) ?_
  have hs := g2.sm _ (List.getElem_mem hlt)
  obtain ⟨g3, hl3⟩ := set_good g2 hlt (o := { l2[a] with peer := b }) ⟨hs.t, hs.d, hs.e, hs.q⟩ rfl (.inr ⟨(show (0 : Int) ≤ (b : Nat) by omega), (show ((b : Nat) : Int) < l2.length by have := (List.getElem?_eq_some_iff.1 hb.1).1; omega)⟩) rfl (by rw [tri_set (by rw [tri_at hlt]; rfl)]; exact g2.tr)
  refine with_okB l2 (by omega) a (by omega) { l2[a] with peer := b } ?_
  exact ⟨_, _, _, ⟨g3, by omega⟩, frz3 (FrzR.self rfl) (FrzR.self rfl)⟩
set_option maxRecDepth 100000 in
theorem pair_okB (l : List Ob) (g : GoodN l) (h38 : l.length < 39) {m : Mem} {K : CV → Mem → Prop} (h : ∀ (l' : List Ob) (a b : Int), GoodN l' → l'.length ≤ l.length + 2 → K (.tup [obsR l', twoR (a, b), iRV 0]) m) : ACall Try.prog 13 [obsV l] m K := by
  refine acall_frame (K0 := fun r m => ∃ l' a b, (GoodN l' ∧ l'.length ≤ l.length + 2) ∧ FrzV m r (.tup [obsR l', twoR (a, b), iRV 0])) (acall_body Try.func13 l13 rfl (Nat.le_of_ble_eq_true rfl) (pair_bodyB l g h38)) (by simp [obsV, obsD, CV.isD, CC.isD]) fun r m1 hr => ?_
  obtain ⟨l', a, b, ⟨h1, h2⟩, hf⟩ := hr
  exact ⟨_, hf, h l' a b h1 h2⟩

def c4 : LF := ⟨299, [.cell true 3 2], (.seq (.reg [
    ⟨(some 2), .alloc [.esl, .esl, .esl], none⟩]) (.seq (.reg [
    ⟨(some 34), .mov (.t 0), none⟩,
    ⟨(some 35), .build [.esl] [(0, 1, (.t 34))], none⟩,
    ⟨(some 36), .box (.t 35), none⟩,
    ⟨(some 3), .mov (.t 36), none⟩]) (.seq (.reg [
    ⟨(some 37), .build [(.dat (.val (.int .i64 (0)))), .esl, .esl, (.dat (.val (.string ⟨#[]⟩))), (.dat (.val (.int .i64 (0)))), .esl, (.dat (.val (.int .i64 (0)))), (.dat (.val (.int .i64 (0)))), (.dat (.val (.int .i64 (0))))] [(0, 1, (.c (.rv (.one (.dat (.val (.int .i64 (2)))))))), (7, 1, (.c (.rv (.one (.dat (.val (.int .i64 (1)))))))), (4, 1, (.c (.rv (.one (.dat (.val (.int .i64 (-1)))))))), (6, 1, (.c (.rv (.one (.dat (.val (.int .i64 (-1))))))))], none⟩,
    ⟨(some 38), .bsl 9 [(.dat (.val (.int .i64 (0)))), .esl, .esl, (.dat (.val (.string ⟨#[]⟩))), (.dat (.val (.int .i64 (0)))), .esl, (.dat (.val (.int .i64 (0)))), (.dat (.val (.int .i64 (0)))), (.dat (.val (.int .i64 (0))))] 1 [(0, (.t 37))], none⟩,
    ⟨(some 4), .mov (.t 38), none⟩]) (.seq (.reg [
    ⟨(some 39), .bsl 1 [(.dat (.val (.string ⟨#[]⟩)))] 4 [(0, (.c (.rv (.one (.dat (.val (.string ⟨#[97]⟩))))))), (1, (.c (.rv (.one (.dat (.val (.string ⟨#[98]⟩))))))), (2, (.c (.rv (.one (.dat (.val (.string ⟨#[99]⟩))))))), (3, (.c (.rv (.one (.dat (.val (.string ⟨#[100]⟩)))))))], none⟩,
    ⟨(some 5), .mov (.t 39), none⟩]) (.seq (.seq (.reg [
    ⟨(some 40), .mov (.t 3), none⟩,
    ⟨(some 41), .call (.c (.rv (.one (.fn 9 [])))) [(.t 40), (.c (.rv (.one (.dat (.val (.int .i64 (8)))))))], none⟩,
    ⟨(some 42), .mov (.c (.rv (.one (.dat (.val (.int .i64 (0))))))), none⟩]) (.block 0 (.loop (.seq (.reg [
    ⟨(some 43), .bin .lss (.t 42) (.t 41), none⟩]) (.seq (.cond (.t 43) .skip (.exit 0)) (.seq (.block 1 (.seq (.reg [
    ⟨(some 44), .mov (.t 3), none⟩,
    ⟨(some 45), .call (.c (.rv (.one (.fn 9 [])))) [(.t 44), (.c (.rv (.one (.dat (.val (.int .i64 (3)))))))], none⟩,
    ⟨(some 46), .bin .add (.c (.rv (.one (.dat (.val (.int .i64 (1))))))) (.t 45), none⟩,
    ⟨(some 47), .build [(.dat (.val (.int .i64 (0)))), .esl, .esl, (.dat (.val (.string ⟨#[]⟩))), (.dat (.val (.int .i64 (0)))), .esl, (.dat (.val (.int .i64 (0)))), (.dat (.val (.int .i64 (0)))), (.dat (.val (.int .i64 (0))))] [(0, 1, (.t 46)), (4, 1, (.c (.rv (.one (.dat (.val (.int .i64 (-1)))))))), (6, 1, (.c (.rv (.one (.dat (.val (.int .i64 (-1))))))))], none⟩,
    ⟨(some 6), .alloc [(.dat (.val (.int .i64 (0)))), .esl, .esl, (.dat (.val (.string ⟨#[]⟩))), (.dat (.val (.int .i64 (0)))), .esl, (.dat (.val (.int .i64 (0)))), (.dat (.val (.int .i64 (0)))), (.dat (.val (.int .i64 (0))))], none⟩,
    ⟨none, .store 9 (.t 6) (.t 47), none⟩]) (.seq (.seq (.reg [
    ⟨(some 48), .fadr 0 (.t 6), none⟩,
    ⟨(some 49), .load false 1 (.t 48), none⟩]) (.block 2 (.seq (.reg [
    ⟨(some 51), .bin .eql (.t 49) (.c (.rv (.one (.dat (.val (.int .i64 (1))))))), none⟩,
    ⟨(some 50), .mov (.t 51), none⟩]) (.cond (.t 50) (.reg [
    ⟨(some 52), .bsl 1 [(.dat (.val (.int .u8 (0))))] 4 [(0, (.c (.rv (.one (.dat (.val (.int .u8 (100)))))))), (1, (.c (.rv (.one (.dat (.val (.int .u8 (97)))))))), (2, (.c (.rv (.one (.dat (.val (.int .u8 (116)))))))), (3, (.c (.rv (.one (.dat (.val (.int .u8 (97))))))))], none⟩,
    ⟨(some 53), .idb (.t 52), none⟩,
    ⟨(some 54), .mov (.t 3), none⟩,
    ⟨(some 55), .call (.c (.rv (.one (.fn 9 [])))) [(.t 54), (.c (.rv (.one (.dat (.val (.int .i64 (5)))))))], none⟩,
    ⟨(some 56), .slc 1 (.t 53) none (some (.t 55)) none, none⟩,
    ⟨(some 57), .fadr 1 (.t 6), none⟩,
    ⟨none, .store 1 (.t 57) (.t 56), none⟩]) (.seq (.reg [
    ⟨(some 59), .bin .eql (.t 49) (.c (.rv (.one (.dat (.val (.int .i64 (3))))))), none⟩,
    ⟨(some 58), .mov (.t 59), none⟩]) (.cond (.t 58) (.reg [
    ⟨(some 60), .bsl 1 [(.dat (.val (.string ⟨#[]⟩)))] 6 [(0, (.c (.rv (.one (.dat (.val (.string ⟨#[97]⟩))))))), (1, (.c (.rv (.one (.dat (.val (.string ⟨#[98, 47, 99]⟩))))))), (2, (.c (.rv (.one (.dat (.val (.string ⟨#[46, 46]⟩))))))), (3, (.c (.rv (.one (.dat (.val (.string ⟨#[47, 97]⟩))))))), (4, (.c (.rv (.one (.dat (.val (.string ⟨#[46, 46, 47, 98]⟩))))))), (5, (.c (.rv (.one (.dat (.val (.string ⟨#[]⟩)))))))], none⟩,
    ⟨(some 61), .mov (.t 3), none⟩,
    ⟨(some 62), .call (.c (.rv (.one (.fn 9 [])))) [(.t 61), (.c (.rv (.one (.dat (.val (.int .i64 (6)))))))], none⟩,
    ⟨(some 63), .idx 1 (.t 60) (.t 62), none⟩,
    ⟨(some 64), .load false 1 (.t 63), none⟩,
    ⟨(some 65), .fadr 3 (.t 6), none⟩,
    ⟨none, .store 1 (.t 65) (.t 64), none⟩]) .skip)))))) (.ghost (.seq (.reg [
    ⟨(some 67), .mov (.t 4), none⟩,
    ⟨(some 68), .load true 9 (.t 6), none⟩,
    ⟨(some 69), .call (.c (.rv (.one (.fn 10 [])))) [(.t 67), (.t 68)], none⟩,
    ⟨(some 66), .mov (.t 69), none⟩,
    ⟨(some 70), .ext (.t 66) 0, none⟩,
    ⟨(some 71), .ext (.t 66) 1, none⟩,
    ⟨(some 72), .ext (.t 66) 2, none⟩,
    ⟨(some 7), .mov (.t 70), none⟩,
    ⟨(some 8), .mov (.t 71), none⟩,
    ⟨(some 9), .mov (.t 72), none⟩]) (.seq (.seq (.reg [
    ⟨(some 73), .mov (.t 9), none⟩,
    ⟨(some 74), .bin .neq (.t 73) (.c (.rv (.one (.dat (.val (.int .i64 (0))))))), none⟩]) (.cond (.t 74) (.exit 0) .skip)) (.seq (.reg [
    ⟨(some 10), .mov (.c (.rv (.one .esl))), none⟩]) (.seq (.seq (.reg [
    ⟨(some 75), .mov (.t 4), none⟩,
    ⟨(some 76), .len 1 (.t 75), none⟩,
    ⟨(some 77), .mov (.c (.rv (.one (.dat (.val (.int .i64 (0))))))), none⟩]) (.block 3 (.loop (.seq (.reg [
    ⟨(some 78), .bin .lss (.t 77) (.t 76), none⟩]) (.seq (.cond (.t 78) .skip (.exit 3)) (.seq (.block 4 (.seq (.reg [
    ⟨(some 79), .mov (.t 77), none⟩,
    ⟨(some 80), .idx 9 (.t 75) (.t 77), none⟩,
    ⟨(some 81), .load true 9 (.t 80), none⟩,
    ⟨(some 12), .alloc [(.dat (.val (.int .i64 (0)))), .esl, .esl, (.dat (.val (.string ⟨#[]⟩))), (.dat (.val (.int .i64 (0)))), .esl, (.dat (.val (.int .i64 (0)))), (.dat (.val (.int .i64 (0)))), (.dat (.val (.int .i64 (0))))], none⟩,
    ⟨(some 11), .mov (.t 79), none⟩,
    ⟨none, .store 9 (.t 12) (.t 81), none⟩]) (.seq (.reg [
    ⟨(some 82), .fadr 0 (.t 12), none⟩,
    ⟨(some 83), .load false 1 (.t 82), none⟩,
    ⟨(some 84), .bin .eql (.t 83) (.c (.rv (.one (.dat (.val (.int .i64 (2))))))), none⟩]) (.cond (.t 84) (.reg [
    ⟨(some 85), .mov (.t 10), none⟩,
    ⟨(some 86), .mov (.t 11), none⟩,
    ⟨(some 87), .bsl 1 [(.dat (.val (.int .i64 (0))))] 1 [(0, (.t 86))], none⟩,
    ⟨(some 88), .app 1 8 (.t 85) (.t 87), none⟩,
    ⟨(some 10), .mov (.t 88), none⟩]) .skip)))) (.reg [
    ⟨(some 89), .bin .add (.t 77) (.c (.rv (.one (.dat (.val (.int .i64 (1))))))), none⟩,
    ⟨(some 77), .mov (.t 89), none⟩]))))))) (.seq (.reg [
    ⟨(some 90), .mov (.t 7), none⟩,
    ⟨(some 4), .mov (.t 90), none⟩]) (.seq (.draw [
    ⟨(some 92), .mov (.t 4), none⟩,
    ⟨(some 93), .mov (.t 10), none⟩,
    ⟨(some 94), .mov (.t 3), none⟩,
    ⟨(some 95), .mov (.t 10), none⟩,
    ⟨(some 96), .len 1 (.t 95), none⟩,
    ⟨(some 97), .call (.c (.rv (.one (.fn 9 [])))) [(.t 94), (.t 96)], none⟩,
    ⟨(some 98), .idx 1 (.t 93) (.t 97), none⟩,
    ⟨(some 99), .load false 1 (.t 98), none⟩,
    ⟨(some 100), .mov (.t 5), none⟩,
    ⟨(some 101), .mov (.t 3), none⟩,
    ⟨(some 102), .call (.c (.rv (.one (.fn 9 [])))) [(.t 101), (.c (.rv (.one (.dat (.val (.int .i64 (4)))))))], none⟩,
    ⟨(some 103), .idx 1 (.t 100) (.t 102), none⟩,
    ⟨(some 104), .load false 1 (.t 103), none⟩,
    ⟨(some 105), .mov (.t 8), none⟩,
    ⟨(some 106), .call (.c (.rv (.one (.fn 11 [])))) [(.t 92), (.t 99), (.t 104), (.t 105)], none⟩,
    ⟨(some 91), .mov (.t 106), none⟩,
    ⟨(some 107), .ext (.t 91) 0, none⟩,
    ⟨(some 108), .ext (.t 91) 1, none⟩,
    ⟨(some 13), .mov (.t 107), none⟩,
    ⟨(some 14), .mov (.t 108), none⟩]
    [(.cons 0 none (.cons 1 none (.cons 2 none (.cons 3 none (.cons 4 none (.cons 8 none (.cons 9 none (.cons 13 none (.cons 5 (some []) (.cons 6 none (.cons 7 none (.cons 10 (some [7, 6]) (.cons 11 none (.cons 12 none (.cons 14 (some []) (.cons 15 none (.cons 16 none (.cons 17 none (.cons 18 none (.cons 19 none .nil))))))))))))))))))))]) (.seq (.reg [
    ⟨(some 109), .mov (.t 14), none⟩,
    ⟨(some 110), .bin .eql (.t 109) (.c (.rv (.one (.dat (.val (.int .i64 (0))))))), none⟩]) (.cond (.t 110) (.reg [
    ⟨(some 111), .mov (.t 13), none⟩,
    ⟨(some 4), .mov (.t 111), none⟩]) (.seq (.reg [
    ⟨(some 112), .fadr 0 (.t 6), none⟩,
    ⟨(some 113), .load false 1 (.t 112), none⟩,
    ⟨(some 114), .bin .eql (.t 113) (.c (.rv (.one (.dat (.val (.int .i64 (2))))))), none⟩]) (.cond (.t 114) (.seq (.reg [
    ⟨(some 115), .mov (.t 4), none⟩,
    ⟨(some 116), .mov (.t 8), none⟩,
    ⟨(some 117), .idx 9 (.t 115) (.t 116), none⟩,
    ⟨(some 118), .load true 9 (.t 117), none⟩,
    ⟨(some 15), .alloc [(.dat (.val (.int .i64 (0)))), .esl, .esl, (.dat (.val (.string ⟨#[]⟩))), (.dat (.val (.int .i64 (0)))), .esl, (.dat (.val (.int .i64 (0)))), (.dat (.val (.int .i64 (0)))), (.dat (.val (.int .i64 (0))))], none⟩,
    ⟨none, .store 9 (.t 15) (.t 118), none⟩]) (.seq (.reg [
    ⟨(some 119), .mov (.t 8), none⟩,
    ⟨(some 120), .fadr 8 (.t 15), none⟩,
    ⟨none, .store 1 (.t 120) (.t 119), none⟩]) (.reg [
    ⟨(some 121), .mov (.t 4), none⟩,
    ⟨(some 122), .mov (.t 8), none⟩,
    ⟨(some 123), .load true 9 (.t 15), none⟩,
    ⟨(some 124), .call (.c (.rv (.one (.fn 12 [])))) [(.t 121), (.t 122), (.t 123)], none⟩,
    ⟨(some 4), .mov (.t 124), none⟩]))) .skip)))))))))))))) (.reg [
    ⟨(some 125), .bin .add (.t 42) (.c (.rv (.one (.dat (.val (.int .i64 (1))))))), none⟩,
    ⟨(some 42), .mov (.t 125), none⟩]))))))) (.seq (.ghost (.seq (.reg [
    ⟨(some 126), .mov (.t 3), none⟩,
    ⟨(some 127), .call (.c (.rv (.one (.fn 9 [])))) [(.t 126), (.c (.rv (.one (.dat (.val (.int .i64 (3)))))))], none⟩,
    ⟨(some 128), .mov (.c (.rv (.one (.dat (.val (.int .i64 (0))))))), none⟩]) (.block 5 (.loop (.seq (.reg [
    ⟨(some 129), .bin .lss (.t 128) (.t 127), none⟩]) (.seq (.cond (.t 129) .skip (.exit 5)) (.seq (.block 6 (.seq (.reg [
    ⟨(some 131), .mov (.t 4), none⟩,
    ⟨(some 132), .call (.c (.rv (.one (.fn 13 [])))) [(.t 131)], none⟩,
    ⟨(some 130), .mov (.t 132), none⟩,
    ⟨(some 133), .ext (.t 130) 0, none⟩,
    ⟨(some 134), .ext (.t 130) 1, none⟩,
    ⟨(some 135), .ext (.t 130) 2, none⟩,
    ⟨(some 17), .alloc [(.dat (.val (.int .i64 (0)))), (.dat (.val (.int .i64 (0))))], none⟩,
    ⟨(some 16), .mov (.t 133), none⟩,
    ⟨none, .store 2 (.t 17) (.t 134), none⟩,
    ⟨(some 18), .mov (.t 135), none⟩]) (.seq (.reg [
    ⟨(some 136), .mov (.t 18), none⟩,
    ⟨(some 137), .bin .eql (.t 136) (.c (.rv (.one (.dat (.val (.int .i64 (0))))))), none⟩]) (.cond (.t 137) (.reg [
    ⟨(some 138), .mov (.t 16), none⟩,
    ⟨(some 4), .mov (.t 138), none⟩]) .skip)))) (.reg [
    ⟨(some 139), .bin .add (.t 128) (.c (.rv (.one (.dat (.val (.int .i64 (1))))))), none⟩,
    ⟨(some 128), .mov (.t 139), none⟩])))))))) (.seq (.reg [
    ⟨(some 140), .mov (.t 4), none⟩,
    ⟨(some 141), .build [.esl, .esl, .esl] [(0, 1, (.t 140))], none⟩,
    ⟨(some 19), .alloc [.esl, .esl, .esl], none⟩,
    ⟨none, .store 3 (.t 19) (.t 141), none⟩]) (.ghost (.seq (.reg [
    ⟨(some 142), .mov (.t 3), none⟩,
    ⟨(some 143), .call (.c (.rv (.one (.fn 9 [])))) [(.t 142), (.c (.rv (.one (.dat (.val (.int .i64 (3)))))))], none⟩,
    ⟨(some 144), .bin .add (.c (.rv (.one (.dat (.val (.int .i64 (1))))))) (.t 143), none⟩,
    ⟨(some 20), .mov (.t 144), none⟩]) (.seq (.seq (.reg [
    ⟨(some 145), .mov (.t 20), none⟩,
    ⟨(some 146), .mov (.c (.rv (.one (.dat (.val (.int .i64 (0))))))), none⟩]) (.block 7 (.loop (.seq (.reg [
    ⟨(some 147), .bin .lss (.t 146) (.t 145), none⟩]) (.seq (.cond (.t 147) .skip (.exit 7)) (.seq (.block 8 (.seq (.reg [
    ⟨(some 148), .mov (.t 146), none⟩,
    ⟨(some 21), .mov (.t 148), none⟩]) (.seq (.reg [
    ⟨(some 149), .mov (.t 21), none⟩,
    ⟨(some 150), .bin .gtr (.t 149) (.c (.rv (.one (.dat (.val (.int .i64 (0))))))), none⟩]) (.cond (.t 150) (.seq (.reg [
    ⟨(some 152), .fadr 0 (.t 19), none⟩,
    ⟨(some 153), .load false 1 (.t 152), none⟩,
    ⟨(some 154), .mov (.t 21), none⟩,
    ⟨(some 155), .build [(.dat (.val (.int .i64 (0)))), .esl, .esl, (.dat (.val (.string ⟨#[]⟩))), (.dat (.val (.int .i64 (0)))), .esl, (.dat (.val (.int .i64 (0)))), (.dat (.val (.int .i64 (0)))), (.dat (.val (.int .i64 (0))))] [(0, 1, (.c (.rv (.one (.dat (.val (.int .i64 (5)))))))), (4, 1, (.c (.rv (.one (.dat (.val (.int .i64 (-1)))))))), (6, 1, (.t 154))], none⟩,
    ⟨(some 156), .call (.c (.rv (.one (.fn 10 [])))) [(.t 153), (.t 155)], none⟩,
    ⟨(some 151), .mov (.t 156), none⟩,
    ⟨(some 157), .ext (.t 151) 0, none⟩,
    ⟨(some 158), .ext (.t 151) 1, none⟩,
    ⟨(some 159), .ext (.t 151) 2, none⟩,
    ⟨(some 22), .mov (.t 157), none⟩,
    ⟨(some 23), .mov (.t 158), none⟩,
    ⟨(some 24), .mov (.t 159), none⟩]) (.reg [
    ⟨(some 160), .mov (.t 22), none⟩,
    ⟨(some 161), .fadr 0 (.t 19), none⟩,
    ⟨none, .store 1 (.t 161) (.t 160), none⟩])) .skip)))) (.reg [
    ⟨(some 162), .bin .add (.t 146) (.c (.rv (.one (.dat (.val (.int .i64 (1))))))), none⟩,
    ⟨(some 146), .mov (.t 162), none⟩]))))))) (.seq (.ghost (.seq (.reg [
    ⟨(some 163), .fadr 0 (.t 19), none⟩,
    ⟨(some 164), .load false 1 (.t 163), none⟩,
    ⟨(some 165), .len 1 (.t 164), none⟩,
    ⟨(some 166), .mov (.c (.rv (.one (.dat (.val (.int .i64 (0))))))), none⟩]) (.block 9 (.loop (.seq (.reg [
    ⟨(some 167), .bin .lss (.t 166) (.t 165), none⟩]) (.seq (.cond (.t 167) .skip (.exit 9)) (.seq (.block 10 (.seq (.reg [
    ⟨(some 168), .mov (.t 166), none⟩,
    ⟨(some 25), .mov (.t 168), none⟩]) (.seq (.reg [
    ⟨(some 169), .mov (.t 3), none⟩,
    ⟨(some 170), .call (.c (.rv (.one (.fn 9 [])))) [(.t 169), (.c (.rv (.one (.dat (.val (.int .i64 (3)))))))], none⟩,
    ⟨(some 171), .mov (.c (.rv (.one (.dat (.val (.int .i64 (0))))))), none⟩]) (.block 11 (.loop (.seq (.reg [
    ⟨(some 172), .bin .lss (.t 171) (.t 170), none⟩]) (.seq (.cond (.t 172) .skip (.exit 11)) (.seq (.block 12 (.draw [
    ⟨(some 173), .fadr 1 (.t 19), none⟩,
    ⟨(some 174), .load false 1 (.t 173), none⟩,
    ⟨(some 175), .mov (.t 25), none⟩,
    ⟨(some 176), .mov (.t 3), none⟩,
    ⟨(some 177), .call (.c (.rv (.one (.fn 9 [])))) [(.t 176), (.c (.rv (.one (.dat (.val (.int .i64 (4)))))))], none⟩,
    ⟨(some 178), .build [(.dat (.val (.int .i64 (0)))), (.dat (.val (.int .i64 (0))))] [(0, 1, (.t 175)), (1, 1, (.t 177))], none⟩,
    ⟨(some 179), .bsl 2 [(.dat (.val (.int .i64 (0)))), (.dat (.val (.int .i64 (0))))] 1 [(0, (.t 178))], none⟩,
    ⟨(some 180), .app 2 16 (.t 174) (.t 179), none⟩,
    ⟨(some 181), .fadr 1 (.t 19), none⟩,
    ⟨none, .store 1 (.t 181) (.t 180), none⟩]
    [(.cons 0 none (.cons 1 none (.cons 2 none (.cons 3 none (.cons 4 (some [1]) (.cons 5 none (.cons 6 (some [1]) (.cons 7 (some []) (.cons 8 none (.cons 9 (some []) .nil))))))))))])) (.reg [
    ⟨(some 182), .bin .add (.t 171) (.c (.rv (.one (.dat (.val (.int .i64 (1))))))), none⟩,
    ⟨(some 171), .mov (.t 182), none⟩]))))))))) (.reg [
    ⟨(some 183), .bin .add (.t 166) (.c (.rv (.one (.dat (.val (.int .i64 (1))))))), none⟩,
    ⟨(some 166), .mov (.t 183), none⟩])))))))) (.seq (.ghost (.seq (.reg [
    ⟨(some 184), .mov (.t 20), none⟩,
    ⟨(some 185), .mov (.c (.rv (.one (.dat (.val (.int .i64 (0))))))), none⟩]) (.block 13 (.loop (.seq (.reg [
    ⟨(some 186), .bin .lss (.t 185) (.t 184), none⟩]) (.seq (.cond (.t 186) .skip (.exit 13)) (.seq (.block 14 (.seq (.reg [
    ⟨(some 187), .mov (.t 185), none⟩,
    ⟨(some 26), .mov (.t 187), none⟩]) (.seq (.reg [
    ⟨(some 188), .mov (.t 26), none⟩,
    ⟨(some 189), .bin .eql (.t 188) (.c (.rv (.one (.dat (.val (.int .i64 (0))))))), none⟩,
    ⟨(some 190), .mov (.t 189), none⟩,
    ⟨(some 191), .mov (.t 3), (some (190, false))⟩,
    ⟨(some 192), .call (.c (.rv (.one (.fn 9 [])))) [(.t 191), (.c (.rv (.one (.dat (.val (.int .i64 (5)))))))], (some (190, false))⟩,
    ⟨(some 193), .bin .gtr (.t 192) (.c (.rv (.one (.dat (.val (.int .i64 (0))))))), (some (190, false))⟩,
    ⟨(some 194), .pick (.t 190) (.c (.rv (.one (.dat (.val (.bool true)))))) (.t 193), none⟩,
    ⟨(some 195), .mov (.t 3), none⟩,
    ⟨(some 196), .call (.c (.rv (.one (.fn 9 [])))) [(.t 195), (.c (.rv (.one (.dat (.val (.int .i64 (2)))))))], none⟩,
    ⟨(some 197), .bin .eql (.t 196) (.c (.rv (.one (.dat (.val (.int .i64 (1))))))), none⟩,
    ⟨(some 198), .build [(.dat (.val (.bool false))), (.dat (.val (.bool false))), (.dat (.val (.int .i64 (0)))), .esl] [(0, 1, (.t 194)), (1, 1, (.t 197))], none⟩,
    ⟨(some 27), .alloc [(.dat (.val (.bool false))), (.dat (.val (.bool false))), (.dat (.val (.int .i64 (0)))), .esl], none⟩,
    ⟨none, .store 4 (.t 27) (.t 198), none⟩]) (.seq (.seq (.reg [
    ⟨(some 199), .mov (.t 3), none⟩,
    ⟨(some 200), .call (.c (.rv (.one (.fn 9 [])))) [(.t 199), (.c (.rv (.one (.dat (.val (.int .i64 (5)))))))], none⟩,
    ⟨(some 201), .mov (.c (.rv (.one (.dat (.val (.int .i64 (0))))))), none⟩]) (.block 15 (.loop (.seq (.reg [
    ⟨(some 202), .bin .lss (.t 201) (.t 200), none⟩]) (.seq (.cond (.t 202) .skip (.exit 15)) (.seq (.block 16 (.seq (.reg [
    ⟨(some 203), .fadr 1 (.t 19), none⟩,
    ⟨(some 204), .load false 1 (.t 203), none⟩,
    ⟨(some 205), .len 1 (.t 204), none⟩,
    ⟨(some 206), .bin .gtr (.t 205) (.c (.rv (.one (.dat (.val (.int .i64 (0))))))), none⟩,
    ⟨(some 207), .mov (.t 206), none⟩,
    ⟨(some 208), .fadr 0 (.t 27), (some (207, true))⟩,
    ⟨(some 209), .load false 1 (.t 208), (some (207, true))⟩,
    ⟨(some 210), .pick (.t 207) (.t 209) (.c (.rv (.one (.dat (.val (.bool false)))))), none⟩]) (.cond (.t 210) (.seq (.draw [
    ⟨(some 212), .fadr 3 (.t 27), none⟩,
    ⟨(some 213), .load false 1 (.t 212), none⟩,
    ⟨(some 214), .mov (.t 3), none⟩,
    ⟨(some 215), .fadr 1 (.t 19), none⟩,
    ⟨(some 216), .load false 1 (.t 215), none⟩,
    ⟨(some 217), .len 1 (.t 216), none⟩,
    ⟨(some 218), .call (.c (.rv (.one (.fn 9 [])))) [(.t 214), (.t 217)], none⟩,
    ⟨(some 219), .bsl 1 [(.dat (.val (.int .i64 (0))))] 6 [(0, (.c (.rv (.one (.dat (.val (.int .i64 (4095)))))))), (1, (.c (.rv (.one (.dat (.val (.int .i64 (255)))))))), (2, (.c (.rv (.one (.dat (.val (.int .i64 (1)))))))), (3, (.c (.rv (.one (.dat (.val (.int .i64 (768)))))))), (4, (.c (.rv (.one (.dat (.val (.int .i64 (3072)))))))), (5, (.c (.rv (.one (.dat (.val (.int .i64 (9))))))))], none⟩,
    ⟨(some 220), .mov (.t 3), none⟩,
    ⟨(some 221), .call (.c (.rv (.one (.fn 9 [])))) [(.t 220), (.c (.rv (.one (.dat (.val (.int .i64 (6)))))))], none⟩,
    ⟨(some 222), .idx 1 (.t 219) (.t 221), none⟩,
    ⟨(some 223), .load false 1 (.t 222), none⟩,
    ⟨(some 224), .build [(.dat (.val (.int .i64 (0)))), (.dat (.val (.int .i64 (0))))] [(0, 1, (.t 218)), (1, 1, (.t 223))], none⟩,
    ⟨(some 225), .call (.c (.rv (.one (.fn 14 [])))) [(.t 213), (.t 224)], none⟩,
    ⟨(some 211), .mov (.t 225), none⟩,
    ⟨(some 226), .ext (.t 211) 0, none⟩,
    ⟨(some 227), .ext (.t 211) 1, none⟩,
    ⟨(some 228), .ext (.t 211) 2, none⟩,
    ⟨(some 28), .mov (.t 226), none⟩,
    ⟨(some 29), .mov (.t 227), none⟩,
    ⟨(some 30), .mov (.t 228), none⟩]
    [(.cons 0 none (.cons 1 none (.cons 2 none (.cons 3 none (.cons 4 none (.cons 5 none (.cons 8 none (.alt (.cons 6 (some [1]) (.alt (.cons 7 (some [5, 4, 1]) (.cons 9 (some [1]) (.cons 10 none (.cons 11 none (.cons 12 none (.cons 13 (some []) (.cons 14 none (.cons 15 none (.cons 16 none (.cons 17 none (.cons 18 none (.cons 19 none (.cons 20 none .nil))))))))))))) (.cons 9 (some [1]) (.cons 7 (some [5, 4, 1]) (.cons 10 none (.cons 11 none (.cons 12 none (.cons 13 (some []) (.cons 14 none (.cons 15 none (.cons 16 none (.cons 17 none (.cons 18 none (.cons 19 none (.cons 20 none .nil))))))))))))))) (.cons 7 (some [5, 4, 1]) (.cons 6 (some [1]) (.cons 9 (some [1]) (.cons 10 none (.cons 11 none (.cons 12 none (.cons 13 (some []) (.cons 14 none (.cons 15 none (.cons 16 none (.cons 17 none (.cons 18 none (.cons 19 none (.cons 20 none .nil))))))))))))))))))))))]) (.seq (.reg [
    ⟨(some 229), .mov (.t 30), none⟩,
    ⟨(some 230), .bin .eql (.t 229) (.c (.rv (.one (.dat (.val (.int .i64 (0))))))), none⟩]) (.cond (.t 230) (.reg [
    ⟨(some 231), .mov (.t 28), none⟩,
    ⟨(some 232), .fadr 3 (.t 27), none⟩,
    ⟨none, .store 1 (.t 232) (.t 231), none⟩]) .skip))) .skip))) (.reg [
    ⟨(some 233), .bin .add (.t 201) (.c (.rv (.one (.dat (.val (.int .i64 (1))))))), none⟩,
    ⟨(some 201), .mov (.t 233), none⟩]))))))) (.seq (.seq (.reg [
    ⟨(some 234), .fadr 0 (.t 27), none⟩,
    ⟨(some 235), .load false 1 (.t 234), none⟩,
    ⟨(some 236), .un .not (.t 235), none⟩]) (.cond (.t 236) (.reg [
    ⟨(some 237), .mov (.t 3), none⟩,
    ⟨(some 238), .call (.c (.rv (.one (.fn 9 [])))) [(.t 237), (.c (.rv (.one (.dat (.val (.int .i64 (9)))))))], none⟩,
    ⟨(some 239), .build [(.dat (.val (.bool false))), (.dat (.val (.bool false))), (.dat (.val (.int .i64 (0)))), .esl] [(2, 1, (.t 238))], none⟩,
    ⟨none, .store 4 (.t 27) (.t 239), none⟩]) .skip)) (.reg [
    ⟨(some 240), .fadr 2 (.t 19), none⟩,
    ⟨(some 241), .load false 1 (.t 240), none⟩,
    ⟨(some 242), .load true 4 (.t 27), none⟩,
    ⟨(some 243), .bsl 4 [(.dat (.val (.bool false))), (.dat (.val (.bool false))), (.dat (.val (.int .i64 (0)))), .esl] 1 [(0, (.t 242))], none⟩,
    ⟨(some 244), .app 4 40 (.t 241) (.t 243), none⟩,
    ⟨(some 245), .fadr 2 (.t 19), none⟩,
    ⟨none, .store 1 (.t 245) (.t 244), none⟩])))))) (.reg [
    ⟨(some 246), .bin .add (.t 185) (.c (.rv (.one (.dat (.val (.int .i64 (1))))))), none⟩,
    ⟨(some 185), .mov (.t 246), none⟩])))))))) (.seq (.ghost (.seq (.reg [
    ⟨(some 247), .fadr 0 (.t 19), none⟩,
    ⟨(some 248), .load false 1 (.t 247), none⟩,
    ⟨(some 249), .len 1 (.t 248), none⟩,
    ⟨(some 250), .mov (.c (.rv (.one (.dat (.val (.int .i64 (0))))))), none⟩]) (.block 17 (.loop (.seq (.reg [
    ⟨(some 251), .bin .lss (.t 250) (.t 249), none⟩]) (.seq (.cond (.t 251) .skip (.exit 17)) (.seq (.block 18 (.seq (.reg [
    ⟨(some 252), .mov (.t 250), none⟩,
    ⟨(some 253), .idx 9 (.t 248) (.t 250), none⟩,
    ⟨(some 254), .load true 9 (.t 253), none⟩,
    ⟨(some 32), .alloc [(.dat (.val (.int .i64 (0)))), .esl, .esl, (.dat (.val (.string ⟨#[]⟩))), (.dat (.val (.int .i64 (0)))), .esl, (.dat (.val (.int .i64 (0)))), (.dat (.val (.int .i64 (0)))), (.dat (.val (.int .i64 (0))))], none⟩,
    ⟨(some 31), .mov (.t 252), none⟩,
    ⟨none, .store 9 (.t 32) (.t 254), none⟩]) (.ghost (.seq (.reg [
    ⟨(some 255), .fadr 0 (.t 32), none⟩,
    ⟨(some 256), .load false 1 (.t 255), none⟩,
    ⟨(some 257), .bin .eql (.t 256) (.c (.rv (.one (.dat (.val (.int .i64 (4))))))), none⟩,
    ⟨(some 258), .mov (.t 257), none⟩,
    ⟨(some 259), .mov (.t 3), (some (258, true))⟩,
    ⟨(some 260), .call (.c (.rv (.one (.fn 9 [])))) [(.t 259), (.c (.rv (.one (.dat (.val (.int .i64 (2)))))))], (some (258, true))⟩,
    ⟨(some 261), .bin .eql (.t 260) (.c (.rv (.one (.dat (.val (.int .i64 (1))))))), (some (258, true))⟩,
    ⟨(some 262), .pick (.t 258) (.t 261) (.c (.rv (.one (.dat (.val (.bool false)))))), none⟩]) (.cond (.t 262) (.seq (.reg [
    ⟨(some 263), .bsl 1 [(.dat (.val (.int .u8 (0))))] 1 [(0, (.c (.rv (.one (.dat (.val (.int .u8 (109))))))))], none⟩,
    ⟨(some 264), .idb (.t 263), none⟩,
    ⟨(some 265), .build [.esl, (.dat (.val (.bool false))), (.dat (.val (.int .i64 (0)))), (.dat (.val (.int .i64 (0))))] [(0, 1, (.t 264))], none⟩,
    ⟨(some 33), .alloc [.esl, (.dat (.val (.bool false))), (.dat (.val (.int .i64 (0)))), (.dat (.val (.int .i64 (0))))], none⟩,
    ⟨none, .store 4 (.t 33) (.t 265), none⟩]) (.seq (.seq (.reg [
    ⟨(some 266), .fadr 1 (.t 19), none⟩,
    ⟨(some 267), .load false 1 (.t 266), none⟩,
    ⟨(some 268), .len 1 (.t 267), none⟩,
    ⟨(some 269), .bin .gtr (.t 268) (.c (.rv (.one (.dat (.val (.int .i64 (0))))))), none⟩,
    ⟨(some 270), .mov (.t 269), none⟩,
    ⟨(some 271), .mov (.t 3), (some (270, true))⟩,
    ⟨(some 272), .call (.c (.rv (.one (.fn 9 [])))) [(.t 271), (.c (.rv (.one (.dat (.val (.int .i64 (2)))))))], (some (270, true))⟩,
    ⟨(some 273), .bin .eql (.t 272) (.c (.rv (.one (.dat (.val (.int .i64 (1))))))), (some (270, true))⟩,
    ⟨(some 274), .pick (.t 270) (.t 273) (.c (.rv (.one (.dat (.val (.bool false)))))), none⟩]) (.cond (.t 274) (.reg [
    ⟨(some 275), .mov (.t 3), none⟩,
    ⟨(some 276), .fadr 1 (.t 19), none⟩,
    ⟨(some 277), .load false 1 (.t 276), none⟩,
    ⟨(some 278), .len 1 (.t 277), none⟩,
    ⟨(some 279), .call (.c (.rv (.one (.fn 9 [])))) [(.t 275), (.t 278)], none⟩,
    ⟨(some 280), .mov (.t 3), none⟩,
    ⟨(some 281), .call (.c (.rv (.one (.fn 9 [])))) [(.t 280), (.c (.rv (.one (.dat (.val (.int .i64 (200)))))))], none⟩,
    ⟨(some 282), .build [(.dat (.val (.int .i64 (0)))), (.dat (.val (.int .i64 (0))))] [(0, 1, (.t 279)), (1, 1, (.t 281))], none⟩,
    ⟨(some 283), .fadr 1 (.t 33), none⟩,
    ⟨none, .store 1 (.t 283) (.c (.rv (.one (.dat (.val (.bool true)))))), none⟩,
    ⟨(some 284), .fadr 2 (.t 33), none⟩,
    ⟨none, .store 2 (.t 284) (.t 282), none⟩]) .skip)) (.seq (.reg [
    ⟨(some 285), .fadr 5 (.t 32), none⟩,
    ⟨(some 286), .load false 1 (.t 285), none⟩,
    ⟨(some 287), .load true 4 (.t 33), none⟩,
    ⟨(some 288), .bsl 4 [.esl, (.dat (.val (.bool false))), (.dat (.val (.int .i64 (0)))), (.dat (.val (.int .i64 (0))))] 1 [(0, (.t 287))], none⟩,
    ⟨(some 289), .app 4 48 (.t 286) (.t 288), none⟩,
    ⟨(some 290), .fadr 5 (.t 32), none⟩,
    ⟨none, .store 1 (.t 290) (.t 289), none⟩]) (.reg [
    ⟨(some 291), .fadr 0 (.t 19), none⟩,
    ⟨(some 292), .load false 1 (.t 291), none⟩,
    ⟨(some 293), .mov (.t 31), none⟩,
    ⟨(some 294), .load true 9 (.t 32), none⟩,
    ⟨(some 295), .call (.c (.rv (.one (.fn 12 [])))) [(.t 292), (.t 293), (.t 294)], none⟩,
    ⟨(some 296), .fadr 0 (.t 19), none⟩,
    ⟨none, .store 1 (.t 296) (.t 295), none⟩])))) .skip))))) (.reg [
    ⟨(some 297), .bin .add (.t 250) (.c (.rv (.one (.dat (.val (.int .i64 (1))))))), none⟩,
    ⟨(some 250), .mov (.t 297), none⟩])))))))) (.seq (.reg [
    ⟨(some 298), .load true 3 (.t 19), none⟩,
    ⟨none, .store 3 (.t 2) (.t 298), none⟩]) .ret))))))))))))))⟩
/-! Build: its text in parts; the last loop -/
theorem l4 : lowF Try.prog Try.f4 = some c4.er := by kernel_rfl
def fstS : LC → LC
  | .seq a _ => a
  | x => x
def sndS : LC → LC
  | .seq _ b => b
  | x => x
def unG : LC → LC
  | .ghost a => a
  | x => x
def R126 : LC := sndS (sndS (sndS (sndS (sndS c4.code))))
def L142 : LC := unG (sndS (sndS R126))
def R163 : LC := sndS (sndS L142)
def R184 : LC := sndS R163
def R247 : LC := sndS R184
def Rend : LC := sndS R247
structure Opn where
  obj : Int
  at' : Int
def Opn.enc (o : Opn) : List Dt := [.val (.int .i64 o.obj), .val (.int .i64 o.at')]
structure Prc where
  live : Bool
  fenced : Bool
  code : Int
  slots : List Sl3
def Prc.enc (p : Prc) : List Dt := [.val (.bool p.live), .val (.bool p.fenced), .val (.int .i64 p.code), sl3D p.slots]
def opnD (l : List Opn) : Dt := .sl 2 (l.map Opn.enc)
def prcD (l : List Prc) : Dt := .sl 4 (l.map Prc.enc)
def kernV (l : List Obj) (op : List Opn) (ps : List Prc) : CV := .rv (.agg [.dat (objsD l), .dat (opnD op), .dat (prcD ps)])
def Obj.tri (o : Obj) : Tri := (o.kind, o.up, o.entries.map unE)
/-- what a kernel that was built is -/
structure GoodK (l : List Obj) (op : List Opn) (ps : List Prc) : Prop where
  objs : GoodL l
  opns : op.length ≤ 100 ∧ ∀ o, o ∈ op → 0 ≤ o.obj ∧ o.obj < l.length
  prcs : ps.length ≤ 3 ∧ ∀ p, p ∈ ps → p.slots.length ≤ 10
  first : ∃ p, ps[0]? = some p ∧ p.live = true
  nz : ∀ o, o ∈ l → o.kind ≠ 0
  pe : ∀ o, o ∈ l → o.peer = -1 ∨ 0 ≤ o.peer ∧ o.peer < l.length
  has : ∀ p, p ∈ ps → ∀ s, s ∈ p.slots → s.has = true
  en : ∀ o, o ∈ l → EntOK l.length o.kind o.entries
  tr : TreeT (l.map Obj.tri)
def KP (r : CV) (m : Mem) : Prop := ∃ r' m', View 0 ⟨[r], m⟩ ⟨[r'], m'⟩ ∧ (∃ l op ps, GoodK l op ps ∧ r' = kernV l op ps) ∧ m' = []
def EK : Ex → St → Prop := endK Try.prog c4.res KP
/-- what an object is at the end -/
structure Ob.fin (o : Ob) : Prop where
  t : (∃ b : List Int, o.data = byD b) ∧ (∃ es : List (ByteArray × Int), o.entries = es.map entD)
  d : o.data.length ≤ 64
  e : o.entries.length ≤ 8
  q : o.queue = noD ∨ ∃ q : Msg, q.typ ∧ q.data.length ≤ 64 ∧ o.queue = .sl 4 [q.enc]
theorem Ob.sm.fin {o : Ob} (h : o.sm) : o.fin := ⟨h.t, h.d, h.e, .inl h.q⟩
theorem DtLe.ofQ {o : Ob} (h : o.fin) : ∃ o' : Obj, o'.sm ∧ (o'.kind = o.kind ∧ o'.peer = o.peer ∧ o'.entries = o.entries ∧ o'.up = o.up) ∧ o'.enc.length = o.enc.length ∧ ∀ (j : Nat) d d', o.enc[j]? = some d → o'.enc[j]? = some d' → DtLe d d' := by
  obtain ⟨kind, data, entries, target, peer, queue, proc, links, up⟩ := o
  rcases h.q with hq | ⟨q, h1, h2, hq⟩
  · have hq : queue = noD := hq
    subst hq
    refine ⟨⟨kind, data, entries, target, peer, [], proc, links, up⟩, ⟨⟨h.t.1, h.t.2, fun q hq => by simp at hq⟩, h.d, h.e, by simp, fun q hq => by simp at hq⟩, ⟨rfl, rfl, rfl, rfl⟩, rfl, fun j d d' h1 h2 => ?_⟩
    match j, h1, h2 with
    | 0, h1, h2 => cases h1; cases h2; exact .refl _
    | 1, h1, h2 => cases h1; cases h2; exact .refl _
    | 2, h1, h2 => cases h1; cases h2; exact .refl _
    | 3, h1, h2 => cases h1; cases h2; exact .refl _
    | 4, h1, h2 => cases h1; cases h2; exact .refl _
    | 5, h1, h2 => cases h1; cases h2; exact .no 4
    | 6, h1, h2 => cases h1; cases h2; exact .refl _
    | 7, h1, h2 => cases h1; cases h2; exact .refl _
    | 8, h1, h2 => cases h1; cases h2; exact .refl _
    | n + 9, h1, h2 => simp [Ob.enc] at h1
  · have hq : queue = .sl 4 [q.enc] := hq
    subst hq
    refine ⟨⟨kind, data, entries, target, peer, [q], proc, links, up⟩, ⟨⟨h.t.1, h.t.2, fun x hx => by simp at hx; subst hx; exact h1⟩, h.d, h.e, by simp, fun x hx => by simp at hx; subst hx; exact h2⟩, ⟨rfl, rfl, rfl, rfl⟩, rfl, fun j d d' h1 h2 => ?_⟩
    have : (⟨kind, data, entries, target, peer, [q], proc, links, up⟩ : Obj).enc = (⟨kind, data, entries, target, peer, .sl 4 [q.enc], proc, links, up⟩ : Ob).enc := rfl
    rw [this] at h2
    rw [h1] at h2
    cases h2
    exact .refl _
theorem finL : ∀ (l : List Ob), (∀ o, o ∈ l → o.fin) → ∃ l' : List Obj, l'.length = l.length ∧ (∀ o, o ∈ l' → o.sm) ∧ (∀ (i : Nat) (o : Ob), l[i]? = some o → ∃ o' : Obj, l'[i]? = some o' ∧ o'.kind = o.kind ∧ o'.peer = o.peer ∧ o'.entries = o.entries ∧ o'.up = o.up) ∧
    (∀ (i : Nat) o o', l[i]? = some o → l'[i]? = some o' → o.enc.length = o'.enc.length) ∧ ∀ (i : Nat) o o' (j : Nat) d d', l[i]? = some o → l'[i]? = some o' → o.enc[j]? = some d → o'.enc[j]? = some d' → DtLe d d'
  | [], _ => ⟨[], rfl, by simp, by simp, by simp, by simp⟩
  | o :: r, h => by
    obtain ⟨o', s1, s2, s3, s4⟩ := DtLe.ofQ (h o (by simp))
    obtain ⟨r', t1, t2, t3, t4, t5⟩ := finL r fun x hx => h x (by simp [hx])
    refine ⟨o' :: r', by simp [t1], fun x hx => ?_, fun i x hi => ?_, fun i x x' hi hi' => ?_, fun i x x' j d d' hi hi' hj hj' => ?_⟩
    · rcases List.mem_cons.1 hx with rfl | hx
      · exact s1
      · exact t2 x hx
    · cases i with
      | zero => simp at hi; subst hi; exact ⟨o', by simp, s2⟩
      | succ i => simpa using t3 i x (by simpa using hi)
    · cases i with
      | zero => simp at hi hi'; subst hi hi'; exact s3.symm
      | succ i => exact t4 i x x' (by simpa using hi) (by simpa using hi')
    · cases i with
      | zero => simp at hi hi'; subst hi hi'; exact s4 j d d' hj hj'
      | succ i => exact t5 i x x' j d d' (by simpa using hi) (by simpa using hi') hj hj'
theorem fin_le {l : List Ob} (h : ∀ o, o ∈ l → o.fin) (hl : l.length ≤ 40) (hr : ∃ o, l[0]? = some o ∧ o.kind = 2) : ∃ l' : List Obj, GoodL l' ∧ l'.length = l.length ∧ DtLe (obsD l) (objsD l') ∧ ∀ o', o' ∈ l' → (∃ o, o ∈ l ∧ o'.kind = o.kind ∧ o'.peer = o.peer ∧ o'.entries = o.entries) ∧ l'.map Obj.tri = l.map Ob.tri := by
  obtain ⟨l', t1, t2, t3, t4, t5⟩ := finL l h
  refine ⟨l', ⟨by omega, t2, ?_⟩, t1, .sl 9 (by simp [t1]) (fun i cs cs' h1 h2 => ?_) (fun i cs cs' j d d' h1 h2 h3 h4 => ?_), fun o' ho' => ?_⟩
  · obtain ⟨o, ho, ho2⟩ := hr
    obtain ⟨o', h1, h2⟩ := t3 0 o ho
    exact ⟨o', h1, h2.1.trans ho2⟩
  · rw [List.getElem?_map] at h1 h2
    obtain ⟨o, ho, rfl⟩ := Option.map_eq_some_iff.1 h1
    obtain ⟨o', ho', rfl⟩ := Option.map_eq_some_iff.1 h2
    exact t4 i o o' ho ho'
  · rw [List.getElem?_map] at h1 h2
    obtain ⟨o, ho, rfl⟩ := Option.map_eq_some_iff.1 h1
    obtain ⟨o', ho', rfl⟩ := Option.map_eq_some_iff.1 h2
    exact t5 i o o' j d d' ho ho' h3 h4
  · obtain ⟨i, hi⟩ := List.getElem?_of_mem ho'
    have hil : i < l.length := by have := (List.getElem?_eq_some_iff.1 hi).1; omega
    obtain ⟨o2, h1, h2⟩ := t3 i l[i] (List.getElem?_eq_getElem hil)
    rw [hi] at h1
    cases h1
    refine ⟨⟨l[i], List.getElem_mem hil, h2.1, h2.2.1, h2.2.2.1⟩, ?_⟩
    apply List.ext_getElem?
    intro j
    rw [List.getElem?_map, List.getElem?_map]
    rcases Nat.lt_or_ge j l.length with hj | hj
    · obtain ⟨o3, h1, h2⟩ := t3 j l[j] (List.getElem?_eq_getElem hj)
      rw [h1, List.getElem?_eq_getElem hj]
      show some o3.tri = some l[j].tri
      simp only [Obj.tri, Ob.tri, h2.1, h2.2.2.1, h2.2.2.2]
    · rw [List.getElem?_eq_none (by omega), List.getElem?_eq_none hj]
      rfl
/-! a block of cells, said cell by cell -/
inductive CcsVp (σ : Nat → Nat) (m : Mem) (Z : Nat → Prop) (p : Option Nat) : List CC → List CC → Prop
  | nil : CcsVp σ m Z p [] []
  | cons {c c' : CC} {r r' : List CC} (h : VwC σ m Z p c c') (hr : CcsVp σ m Z p r r') : CcsVp σ m Z p (c :: r) (c' :: r')
theorem CcsVp.get {σ : Nat → Nat} {m : Mem} {Z : Nat → Prop} {p : Option Nat} {cs cs' : List CC} (h : CcsVp σ m Z p cs cs') : ∀ (i : Nat) c', cs'[i]? = some c' → ∃ c, cs[i]? = some c ∧ VwC σ m Z p c c' := by
  induction h with
  | nil => intro i c' h; simp at h
  | cons h hr ih =>
    intro i c' h2
    cases i with
    | zero => simp at h2; subst h2; exact ⟨_, rfl, h⟩
    | succ i => simpa using ih i c' (by simpa using h2)
theorem CcsVp.var {σ : Nat → Nat} {m : Mem} {Z : Nat → Prop} {id : Nat} {cs cs' : List CC} (h : CcsVp σ m Z (some id) cs cs') : VwB σ m Z id (.var cs) (.var cs') := .var h.get
theorem opnD_len (l : List Opn) : (l.map Opn.enc).length = l.length := List.length_map _
structure St247 where
  i : Nat
  b : List Int
  l : List Ob
structure Fin247 (l l2 : List Ob) : Prop where
  len : l2.length = l.length
  fin : ∀ o, o ∈ l2 → o.fin
  root : ∃ o, l2[0]? = some o ∧ o.kind = 2
  nz : ∀ o, o ∈ l2 → o.kind ≠ 0
  pe : ∀ o, o ∈ l2 → o.peer = -1 ∨ 0 ≤ o.peer ∧ o.peer < l.length
  en : ∀ o, o ∈ l2 → EntOK l.length o.kind o.entries
  tr : l2.map Ob.tri = l.map Ob.tri
theorem Fin247.set {l l2 : List Ob} (h : Fin247 l l2) {n : Nat} {o : Ob} (ho : o.fin) (hn : n < l2.length) (hk : n = 0 → o.kind = 2) (hz : o.kind ≠ 0) (hp : o.peer = -1 ∨ 0 ≤ o.peer ∧ o.peer < l.length) (he : EntOK l.length o.kind o.entries) (ht : (l.map Ob.tri)[n]? = some o.tri) : Fin247 l (withSB l2 n o) := by
  have hw : withSB l2 n o = l2.set n o := by rw [withSB, if_neg (by omega)]; simp
  rw [hw]
  refine ⟨by simpa using h.len, fun x hx => ?_, ?_, fun x hx => ?_, fun x hx => ?_, fun x hx => ?_, by rw [tri_set (by rw [h.tr]; exact ht)]; exact h.tr⟩
  · rcases List.mem_or_eq_of_mem_set hx with hx | rfl
    · exact h.fin x hx
    · exact ho
  · obtain ⟨r, hr, hr2⟩ := h.root
    by_cases h0 : n = 0
    · subst h0
      exact ⟨o, by simp [hn], hk rfl⟩
    · exact ⟨r, by rw [List.getElem?_set_ne (by omega)]; exact hr, hr2⟩
  · rcases List.mem_or_eq_of_mem_set hx with hx | rfl
    · exact h.nz x hx
    · exact hz
  · rcases List.mem_or_eq_of_mem_set hx with hx | rfl
    · exact h.pe x hx
    · exact hp
  · rcases List.mem_or_eq_of_mem_set hx with hx | rfl
    · exact h.en x hx
    · exact he
def z3 : List CC := [.esl, .esl, .esl]
def mk3 (b : List Int) : Bk := .var [.dat (.sl 1 (byD b))]
theorem mk3_ne (b : List Int) : mk3 b ≠ .dead := by intro h; cases h
theorem frzQ {m : Mem} {Z : Nat → Prop} {p : Option Nat} {has : Bool} {opn rts : Int} {X : List (List CC)} (hz7 : Z 7) (hz4 : Z 4) (h7 : m[7]? = some (.row 4 X))
    (hX : X = [[.row 4 1 0 none, .dat (.val (.bool has)), .dat (.val (.int .i64 opn)), .dat (.val (.int .i64 rts))]]) (h4 : m[4]? = some (.row 1 (dRows (byD [109])))) :
    FrzD m Z p (.row 7 4 0 none) (.sl 4 [Msg.enc ⟨byD [109], has, opn, rts⟩]) := by
  subst hX
  refine FrzD.row 7 4 0 none _ [Msg.enc ⟨byD [109], has, opn, rts⟩] hz7 h7 rfl (fun i cs es h1 h2 => ?_) (fun i cs es j c d h1 h2 h3 h4' => ?_)
  · match i, h1, h2 with
    | 0, h1, h2 => cases h1; cases h2; rfl
    | n + 1, h1, h2 => simp at h1
  · match i, h1, h2 with
    | 0, h1, h2 =>
      cases h1
      cases h2
      match j, h3, h4' with
      | 0, h3, h4' => cases h3; cases h4'; exact FrzD.rowD hz4 h4 0 none
      | 1, h3, h4' => cases h3; cases h4'; exact .dat _
      | 2, h3, h4' => cases h3; cases h4'; exact .dat _
      | 3, h3, h4' => cases h3; cases h4'; exact .dat _
      | n + 4, h3, h4' => simp at h3
    | n + 1, h1, h2 => simp at h1

set_option maxRecDepth 100000 in
set_option maxHeartbeats 16000000 in
theorem seg247 (b : List Int) (hb : BYb b) (l : List Ob) (g : GoodN l) (ops : List Opn) (ps : List Prc) (hops : ops.length ≤ 100 ∧ ∀ o, o ∈ ops → 0 ≤ o.obj ∧ o.obj < l.length) (hps : ps.length ≤ 3 ∧ ∀ p, p ∈ ps → SlOK p.slots)
    (hfst : ∃ p, ps[0]? = some p ∧ p.live = true) :
    aw Try.prog 0 (unG (fstS R247)) (seqK (aw Try.prog 0 Rend) EK) ⟨mkE 299 [(2, .rv (.one (.ptr 0 0))), (3, .rv (.one (.ptr 1 0))), (19, .rv (.one (.ptr 2 0)))], [.var z3, mk3 b, .var [.dat (obsD l), .dat (opnD ops), .dat (prcD ps)]]⟩ := by
  have hl40 := g.len
  refine loop_keep (fun (a : St247) => a.i ≤ l.length ∧ BYb a.b ∧ Fin247 l a.l) [2, 3, 19, 248, 249] (fun a => [(250, vInt .i64 (a.i : Nat))]) (fun a => [.var z3, mk3 a.b, .var [.dat (obsD a.l), .dat (opnD ops), .dat (prcD ps)]]) (fun a => l.length - a.i) ⟨0, b, l⟩
    ⟨Nat.zero_le _, hb, rfl, fun o ho => (g.sm o ho).fin, g.root, g.nz, g.pe, g.en, rfl⟩ ?_ (fun a ha => ?_)
  · refine View.of 3 [0, 1, 2] [] rfl rfl rfl rfl rfl rfl ?_ ?_
    · repeat (first | exact .nil | refine .junk ?_ | refine .eq rfl ?_)
    · exact .put (notF rfl) rfl (.eq rfl (by simp)) (.put (notF rfl) rfl (.eq rfl (mk3_ne _)) (.put (notF rfl) rfl (.eq rfl (by simp)) (.nil _)))
  obtain ⟨i, b1, l2⟩ := a
  obtain ⟨h1, h2, h3⟩ := ha
  have h1 : i ≤ l.length := h1
  have h2 : BYb b1 := h2
  have h3 : Fin247 l l2 := h3
  refine bB_dec (fun h => ?_) (fun h => ?_)
  · have hlt : i < l.length := by
      have h : (i : Int) < ((l.map Ob.enc).length : Int) := h
      rw [List.length_map] at h
      omega
    have hl2 := h3.len
    have hog := obj_getB hlt
    have hs := g.sm _ (List.getElem_mem hlt)
    have hk0 : i = 0 → l[i].kind = 2 := by
      intro h0
      subst h0
      obtain ⟨r, hr, hr2⟩ := g.root
      rw [List.getElem?_eq_getElem hlt] at hr
      cases hr
      exact hr2
    have hkz := g.nz _ (List.getElem_mem hlt)
    have hkp := g.pe _ (List.getElem_mem hlt)
    have hke := g.en _ (List.getElem_mem hlt)
    have hkt := tri_at hlt
    generalize l[i] = o at hog hs hk0 hkz hkp hke hkt
    obtain ⟨kind, data, entries, target, peer, queue, proc, links, up⟩ := o
    have hq : queue = noD := hs.q
    subst hq
    refine ok_some hog ?_
    refine ghost_keep [2, 3, 19, 31, 32, 248, 249, 250] [] ([.var z3, mk3 b1, .var [.dat (obsD l2), .dat (opnD ops), .dat (prcD ps)], .var [.dat (.val (.int .i64 kind)), .dat (.sl 1 data), .dat (.sl 2 entries), .dat (.val (.string target)), .dat (.val (.int .i64 peer)), .esl, .dat (.val (.int .i64 proc)), .dat (.val (.int .i64 links)), .dat (.val (.int .i64 up))]]) (View.of 4 [0, 1, 2, 3] [] rfl rfl rfl rfl rfl rfl ?_ ?_) ?_
    · repeat (first | exact .nil | refine .junk ?_ | refine .eq rfl ?_)
    · exact .put (notF rfl) rfl (.eq rfl (by simp)) (.put (notF rfl) rfl (.eq rfl (mk3_ne _)) (.put (notF rfl) rfl (.eq rfl (by simp)) (.put (notF rfl) rfl (CcsVp.var (.cons (.ren (.dat _)) (.cons (.ren (.dat _)) (.cons (.ren (.dat _)) (.cons (.ren (.dat _)) (.cons (.ren (.dat _)) (.cons .un (.cons (.ren (.dat _)) (.cons (.ren (.dat _)) (.cons (.ren (.dat _)) .nil)))))))))) (.nil _))))
    refine bB_beq (fun hk4 => ?_) (fun hk4 => ?_)
    · refine pick_any b1 h2 2 1 rfl fun x b2 hb2 _ _ _ => ?_
      refine bB_beq (fun _ => ?_) (fun _ => ?_)
      · refine bB_dec (fun hn => ?_) (fun hn => ?_)
        · refine pick_any b2 hb2 2 1 rfl fun y b3 hb3 _ _ _ => ?_
          refine bB_beq (fun _ => ?_) (fun _ => ?_)
          · refine pick_any b3 hb3 _ 1 rfl fun z b4 hb4 _ _ _ => ?_
            refine pick_any b4 hb4 200 1 rfl fun w b5 hb5 _ _ _ => ?_
            refine ⟨by simp [subL], ?_⟩
            have hF := h3.set (n := i) (o := ⟨kind, data, entries, target, peer, .sl 4 [Msg.enc ⟨byD [109], true, (z : Nat), (w : Nat)⟩], proc, links, up⟩) ⟨hs.t, hs.d, hs.e, .inr ⟨_, ⟨_, rfl⟩, by simp [byD], rfl⟩⟩ (by omega) hk0 hkz hkp hke hkt
            refine acall_pre (args' := [obsV l2, vInt .i64 (i : Nat), (Ob.mk kind data entries target peer (.sl 4 [Msg.enc ⟨byD [109], true, (z : Nat), (w : Nat)⟩]) proc links up).cv]) (m' := [.var z3, mk3 b5, .var [.dat (obsD l2), .dat (opnD ops), .dat (prcD ps)], .dead, .dead, .dead, .dead, .dead]) (View.of 8 [0, 1, 2, 3, 4, 5, 6, 7] [7, 4] rfl rfl rfl rfl rfl rfl
              (.eq rfl (.eq rfl (.put (CcsVw.agg (.cons (.ren (.dat _)) (.cons (.ren (.dat _)) (.cons (.ren (.dat _)) (.cons (.ren (.dat _)) (.cons (.ren (.dat _)) (.cons (.frz (frzQ (Z := fun k => memN [7, 4] k = true) rfl rfl rfl (by simp [subL]) rfl)) (.cons (.ren (.dat _)) (.cons (.ren (.dat _)) (.cons (.ren (.dat _)) .nil)))))))))) .nil)))
              (.put (notF rfl) rfl (.eq rfl (by simp)) (.put (notF rfl) rfl (.eq rfl (mk3_ne _)) (.put (notF rfl) rfl (.eq rfl (by simp)) (.dead (.dead (.dead (.dead (.dead (.nil _)))))))))) ?_
            refine with_okB l2 (by have := h3.len; omega) i (by have := h3.len; omega) _ ?_
            refine ⟨⟨i + 1, b5, _⟩, ⟨hlt, by assumption, by assumption⟩, (show l.length - (i + 1) < l.length - i by omega), View.of 8 [0, 1, 2] [] rfl rfl rfl rfl rfl rfl ?_ ?_⟩
            · repeat (first | exact .nil | refine .junk ?_ | refine .put (.ren (next_i64 (by omega)).symm) ?_ | refine .eq rfl ?_)
            · exact .put (notF rfl) rfl (.eq rfl (by simp)) (.put (notF rfl) rfl (.eq rfl (mk3_ne _)) (.put (notF rfl) rfl (.eq rfl (by simp)) (.nil _)))
          · skip
            refine ⟨by simp [subL], ?_⟩
            have hF := h3.set (n := i) (o := ⟨kind, data, entries, target, peer, .sl 4 [Msg.enc ⟨byD [109], false, 0, 0⟩], proc, links, up⟩) ⟨hs.t, hs.d, hs.e, .inr ⟨_, ⟨_, rfl⟩, by simp [byD], rfl⟩⟩ (by omega) hk0 hkz hkp hke hkt
            refine acall_pre (args' := [obsV l2, vInt .i64 (i : Nat), (Ob.mk kind data entries target peer (.sl 4 [Msg.enc ⟨byD [109], false, 0, 0⟩]) proc links up).cv]) (m' := [.var z3, mk3 b3, .var [.dat (obsD l2), .dat (opnD ops), .dat (prcD ps)], .dead, .dead, .dead, .dead, .dead]) (View.of 8 [0, 1, 2, 3, 4, 5, 6, 7] [7, 4] rfl rfl rfl rfl rfl rfl
              (.eq rfl (.eq rfl (.put (CcsVw.agg (.cons (.ren (.dat _)) (.cons (.ren (.dat _)) (.cons (.ren (.dat _)) (.cons (.ren (.dat _)) (.cons (.ren (.dat _)) (.cons (.frz (frzQ (Z := fun k => memN [7, 4] k = true) rfl rfl rfl (by simp [subL]) rfl)) (.cons (.ren (.dat _)) (.cons (.ren (.dat _)) (.cons (.ren (.dat _)) .nil)))))))))) .nil)))
              (.put (notF rfl) rfl (.eq rfl (by simp)) (.put (notF rfl) rfl (.eq rfl (mk3_ne _)) (.put (notF rfl) rfl (.eq rfl (by simp)) (.dead (.dead (.dead (.dead (.dead (.nil _)))))))))) ?_
            refine with_okB l2 (by have := h3.len; omega) i (by have := h3.len; omega) _ ?_
            refine ⟨⟨i + 1, b3, _⟩, ⟨hlt, by assumption, by assumption⟩, (show l.length - (i + 1) < l.length - i by omega), View.of 8 [0, 1, 2] [] rfl rfl rfl rfl rfl rfl ?_ ?_⟩
            · repeat (first | exact .nil | refine .junk ?_ | refine .put (.ren (next_i64 (by omega)).symm) ?_ | refine .eq rfl ?_)
            · exact .put (notF rfl) rfl (.eq rfl (by simp)) (.put (notF rfl) rfl (.eq rfl (mk3_ne _)) (.put (notF rfl) rfl (.eq rfl (by simp)) (.nil _)))
        · skip
          refine ⟨by simp [subL], ?_⟩
          have hF := h3.set (n := i) (o := ⟨kind, data, entries, target, peer, .sl 4 [Msg.enc ⟨byD [109], false, 0, 0⟩], proc, links, up⟩) ⟨hs.t, hs.d, hs.e, .inr ⟨_, ⟨_, rfl⟩, by simp [byD], rfl⟩⟩ (by omega) hk0 hkz hkp hke hkt
          refine acall_pre (args' := [obsV l2, vInt .i64 (i : Nat), (Ob.mk kind data entries target peer (.sl 4 [Msg.enc ⟨byD [109], false, 0, 0⟩]) proc links up).cv]) (m' := [.var z3, mk3 b2, .var [.dat (obsD l2), .dat (opnD ops), .dat (prcD ps)], .dead, .dead, .dead, .dead, .dead]) (View.of 8 [0, 1, 2, 3, 4, 5, 6, 7] [7, 4] rfl rfl rfl rfl rfl rfl
            (.eq rfl (.eq rfl (.put (CcsVw.agg (.cons (.ren (.dat _)) (.cons (.ren (.dat _)) (.cons (.ren (.dat _)) (.cons (.ren (.dat _)) (.cons (.ren (.dat _)) (.cons (.frz (frzQ (Z := fun k => memN [7, 4] k = true) rfl rfl rfl (by simp [subL]) rfl)) (.cons (.ren (.dat _)) (.cons (.ren (.dat _)) (.cons (.ren (.dat _)) .nil)))))))))) .nil)))
            (.put (notF rfl) rfl (.eq rfl (by simp)) (.put (notF rfl) rfl (.eq rfl (mk3_ne _)) (.put (notF rfl) rfl (.eq rfl (by simp)) (.dead (.dead (.dead (.dead (.dead (.nil _)))))))))) ?_
          refine with_okB l2 (by have := h3.len; omega) i (by have := h3.len; omega) _ ?_
          refine ⟨⟨i + 1, b2, _⟩, ⟨hlt, by assumption, by assumption⟩, (show l.length - (i + 1) < l.length - i by omega), View.of 8 [0, 1, 2] [] rfl rfl rfl rfl rfl rfl ?_ ?_⟩
          · repeat (first | exact .nil | refine .junk ?_ | refine .put (.ren (next_i64 (by omega)).symm) ?_ | refine .eq rfl ?_)
          · exact .put (notF rfl) rfl (.eq rfl (by simp)) (.put (notF rfl) rfl (.eq rfl (mk3_ne _)) (.put (notF rfl) rfl (.eq rfl (by simp)) (.nil _)))
      · skip
        refine ⟨⟨i + 1, b2, l2⟩, ⟨hlt, by assumption, by assumption⟩, (show l.length - (i + 1) < l.length - i by omega), View.of 4 [0, 1, 2] [] rfl rfl rfl rfl rfl rfl ?_ ?_⟩
        · repeat (first | exact .nil | refine .junk ?_ | refine .put (.ren (next_i64 (by omega)).symm) ?_ | refine .eq rfl ?_)
        · exact .put (notF rfl) rfl (.eq rfl (by simp)) (.put (notF rfl) rfl (.eq rfl (mk3_ne _)) (.put (notF rfl) rfl (.eq rfl (by simp)) (.nil _)))
    · skip
      refine ⟨⟨i + 1, b1, l2⟩, ⟨hlt, by assumption, by assumption⟩, (show l.length - (i + 1) < l.length - i by omega), View.of 4 [0, 1, 2] [] rfl rfl rfl rfl rfl rfl ?_ ?_⟩
      · repeat (first | exact .nil | refine .junk ?_ | refine .put (.ren (next_i64 (by omega)).symm) ?_ | refine .eq rfl ?_)
      · exact .put (notF rfl) rfl (.eq rfl (by simp)) (.put (notF rfl) rfl (.eq rfl (mk3_ne _)) (.put (notF rfl) rfl (.eq rfl (by simp)) (.nil _)))
  · obtain ⟨l', gl, hl', hle, hkp⟩ := fin_le h3.fin (by have := h3.len; omega) h3.root
    refine ⟨kernV l' ops ps, [], View.of 3 [] [] rfl rfl rfl rfl rfl rfl ?_ (.nil _), ⟨l', ops, ps, ⟨gl, ⟨hops.1, fun o ho => by have := hops.2 o ho; have := h3.len; omega⟩, ⟨hps.1, fun p hp => (hps.2 p hp).1⟩, hfst, fun o ho => by obtain ⟨x, hx, e1, _⟩ := (hkp o ho).1; rw [e1]; exact h3.nz x hx, fun o ho => by obtain ⟨x, hx, _, e1, _⟩ := (hkp o ho).1; have := h3.pe x hx; have := h3.len; rw [e1]; omega, fun p hp => (hps.2 p hp).2, fun o ho => by obtain ⟨x, hx, e1, _, e2⟩ := (hkp o ho).1; rw [e1, e2, show l'.length = l.length by have := h3.len; omega]; exact h3.en x hx, by obtain ⟨r, hr, _⟩ := gl.root; rw [(hkp r (List.mem_of_getElem? hr)).2, h3.tr]; exact g.tr⟩, rfl⟩, rfl⟩
    exact .put (CcsVw.agg (.cons (.frz (.le hle)) (.cons (.ren (.dat _)) (.cons (.ren (.dat _)) .nil)))) .nil


end Go.Proofs.Ytbemknkbegkflaa
