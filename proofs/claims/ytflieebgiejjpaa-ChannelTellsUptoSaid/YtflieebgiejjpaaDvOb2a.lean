import Derived.Test.YtflieebgiejjpaaAmZ2
import Derived.Test.YtflieebgiejjpaaDvOb1
import Derived.Test.YtflieebgiejjpaaAmY
set_option linter.unusedVariables false
set_option linter.unusedSimpArgs false
namespace Go.Proofs.Ytflieebgiejjpaa
open Go.AM Go.ChangeShapes Go.WideShapes Go.ChangeAt Go.RowKit
/-! Parts of Build over objects of no room: Make, Pair; pick -/
def BYb (b : List Int) : Prop := ∀ x, x ∈ b → 0 ≤ x ∧ x ≤ 255
theorem pick_any (b : List Int) (hb : BYb b) (n : Int) {m : Mem} {K : CV → Mem → Prop} (id : Nat) (hm : nth m id = some (.var [.dat (.sl 1 (byD b))]))
    (h : ∀ (x : Nat) (b' : List Int), BYb b' → (1 ≤ n → (x : Int) < n) → x ≤ 255 → (n < 1 → x = 0) → K (vInt .i64 (x : Nat)) (setN m id (.var [.dat (.sl 1 (byD b'))]))) : ACall Try.prog 70 [.rv (.one (.ptr id 0)), vInt .i64 n] m K := by
  refine pick_ok b n id hm ?_
  cases b with
  | nil => exact h 0 [] hb (fun hn => by show (0 : Int) < n; omega) (by omega) (fun _ => rfl)
  | cons x r =>
    by_cases hn : n < 1
    · have e : pickS (x :: r) n = (0, x :: r) := by rw [pickS, if_pos hn]
      rw [e]
      exact h 0 (x :: r) hb (fun hn => by show (0 : Int) < n; omega) (by omega) (fun _ => rfl)
    · have e : pickS (x :: r) n = ((IntKind.i64.wrap x).tmod n, r) := by rw [pickS, if_neg hn]
      obtain ⟨h1, h2⟩ := hb x (by simp)
      obtain ⟨k, rfl⟩ : ∃ k : Nat, x = k := ⟨x.toNat, by omega⟩
      obtain ⟨d, rfl⟩ : ∃ d : Nat, n = d := ⟨n.toNat, by omega⟩
      rw [wrapN (by omega)] at e
      have e2 : ((k : Int)).tmod (d : Int) = ((k % d : Nat) : Int) := (Int.ofNat_tmod k d).symm
      rw [e2] at e
      rw [e]
      have hlt : k % d < d := Nat.mod_lt _ (by omega)
      exact h (k % d) r (fun y hy => hb y (by simp [hy])) (fun _ => by omega) (by have := Nat.mod_le k d; omega) (fun h => absurd h hn)
theorem freeB_lt {l : List Ob} (h : l.length < 40) : freeKB l < 40 := by have := freeK_leB l; omega
theorem withB_len {l : List Ob} {k : Nat} {o : Ob} (hk : k ≤ l.length) : (withSB l k o).length ≤ l.length + 1 ∧ l.length ≤ (withSB l k o).length ∧ k < (withSB l k o).length := by
  unfold withSB
  by_cases h : (k : Int) = l.length
  · rw [if_pos h]; simp; omega
  · rw [if_neg h]; simp; omega
theorem withB_at {l : List Ob} {k : Nat} {o : Ob} (hk : k ≤ l.length) : (withSB l k o)[k]? = some o := by
  unfold withSB
  by_cases h : (k : Int) = l.length
  · rw [if_pos h]
    have : k = l.length := by omega
    subst this
    simp
  · rw [if_neg h]
    simp [List.getElem?_set]
    omega
theorem withB_mem {l : List Ob} {k : Nat} {o x : Ob} (hx : x ∈ withSB l k o) : x ∈ l ∨ x = o := by
  unfold withSB at hx
  by_cases h : (k : Int) = l.length
  · rw [if_pos h] at hx
    simpa using hx
  · rw [if_neg h] at hx
    exact List.mem_or_eq_of_mem_set hx
theorem make_goodB {l : List Ob} (g : GoodN l) (h : l.length < 40) {o : Ob} (ho : o.sm) : ∃ (l' : List Ob) (k : Nat), rMakeSB l o = (l', (k : Int), 0) ∧ GoodN l' ∧ l'.length ≤ l.length + 1 ∧ l.length ≤ l'.length ∧ l'[k]? = some o := by
  have hk := freeB_lt h
  have hkl := freeK_leB l
  refine ⟨withSB l (freeKB l) o, freeKB l, by rw [rMakeSB, if_neg (by omega)], ?_, (withB_len hkl).1, (withB_len hkl).2.1, withB_at hkl⟩
  refine ⟨by have := (withB_len (o := o) hkl).1; omega, fun x hx => ?_, ?_⟩
  · rcases withB_mem hx with hx | rfl
    · exact g.sm x hx
    · exact ho
  · obtain ⟨r, hr, hr2⟩ := g.root
    have h0 : 0 < l.length := (List.getElem?_eq_some_iff.1 hr).1
    have hne : freeKB l ≠ 0 := by
      intro h0'
      unfold freeKB at h0'
      cases hf : l.findIdx? (fun o => o.kind == 0) with
      | none => rw [hf] at h0'; simp at h0'; rw [h0'] at h0; simp at h0
      | some k =>
        rw [hf] at h0'
        simp at h0'
        subst h0'
        have := (List.findIdx?_eq_some_iff_getElem.1 hf)
        obtain ⟨hh, h1, _⟩ := this
        rw [List.getElem?_eq_getElem hh] at hr
        cases hr
        simp [hr2] at h1
    refine ⟨r, ?_, hr2⟩
    unfold withSB
    by_cases h : ((freeKB l : Nat) : Int) = l.length
    · rw [if_pos h, List.getElem?_append_left h0]; exact hr
    · rw [if_neg h, List.getElem?_set_ne (by simpa using hne)]; exact hr
/-- Make, where there is room -/
theorem mk_ok (l : List Ob) (g : GoodN l) (h : l.length < 40) (o : Ob) (ho : o.sm) {m : Mem} {K : CV → Mem → Prop}
    (hK : ∀ (l' : List Ob) (k : Nat), GoodN l' → l'.length ≤ l.length + 1 → l.length ≤ l'.length → l'[k]? = some o → K (.tup [obsR l', iRV (k : Nat), iRV 0]) m) : ACall Try.prog 71 [obsV l, o.cv] m K := by
  obtain ⟨l', k, e, h1, h2, h3, h4⟩ := make_goodB g h ho
  refine rmake_okB l (by omega) o ?_
  rw [e]
  exact hK l' k h1 h2 h3 h4
def endB (k p q : Int) : Ob := ⟨k, [], [], ⟨#[]⟩, p, noD, q, 0, 0⟩
theorem endB_sm (k p q : Int) : (endB k p q).sm := ⟨⟨⟨[], rfl⟩, ⟨[], rfl⟩⟩, by simp [endB], by simp [endB], rfl⟩
theorem endArgsB (a : CV) (k p q : Int) : ArgsL [a, .rv (.agg [.dat (.val (.int .i64 k)), .esl, .esl, .dat (.val (.string ⟨#[]⟩)), .dat (.val (.int .i64 p)), .esl, .dat (.val (.int .i64 q)), .dat (.val (.int .i64 0)), .dat (.val (.int .i64 0))])] [a, (endB k p q).cv] :=
  .same _ (.agg (.cons (.same _) (.cons (.esl 1) (.cons (.esl 2) (.cons (.same _) (.cons (.same _) (.cons .no (.cons (.same _) (.cons (.same _) (.cons (.same _) .nil))))))))) .nil)
theorem set_good {l : List Ob} (g : GoodN l) {n : Nat} (hn : n < l.length) {o : Ob} (ho : o.sm) (hk : o.kind = l[n].kind) : GoodN (withSB l n o) ∧ (withSB l n o).length = l.length := by
  have hw : withSB l n o = l.set n o := by rw [withSB, if_neg (by omega)]; simp
  rw [hw]
  exact ⟨g.set ho hn hk, by simp⟩
set_option maxRecDepth 100000 in
set_option maxHeartbeats 8000000 in
theorem pair_bodyB (l : List Ob) (g : GoodN l) (h38 : l.length < 39) : body Try.prog c49 [obsV l] [] (fun r m => ∃ l' a b, (GoodN l' ∧ l'.length ≤ l.length + 2) ∧ FrzV m r (.tup [obsR l', twoR (a, b), iRV 0])) := by
  refine acall_le (endArgsB _ _ _ _) (mk_ok l g (by omega) _ (endB_sm _ _ _) fun l1 a g1 hl1 _ ha => ?_)
  refine acall_le (endArgsB _ _ _ _) (mk_ok l1 g1 (by omega) _ (endB_sm _ _ _) fun l2 b g2 hl2 hl12 hb => ?_)
  have hlt : a < l2.length := by
    have := (List.getElem?_eq_some_iff.1 ha).1
    omega
  refine ok_some (obj_getB hlt) ?_
  have hs := g2.sm _ (List.getElem_mem hlt)
  obtain ⟨g3, hl3⟩ := set_good g2 hlt (o := { l2[a] with peer := b }) ⟨hs.t, hs.d, hs.e, hs.q⟩ rfl
  refine with_okB l2 (by omega) a (by omega) { l2[a] with peer := b } ?_
  exact ⟨_, _, _, ⟨g3, by omega⟩, frz3 (FrzR.self rfl) (FrzR.self rfl)⟩
set_option maxRecDepth 100000 in
theorem pair_okB (l : List Ob) (g : GoodN l) (h38 : l.length < 39) {m : Mem} {K : CV → Mem → Prop} (h : ∀ (l' : List Ob) (a b : Int), GoodN l' → l'.length ≤ l.length + 2 → K (.tup [obsR l', twoR (a, b), iRV 0]) m) : ACall Try.prog 49 [obsV l] m K := by
  refine acall_frame (K0 := fun r m => ∃ l' a b, (GoodN l' ∧ l'.length ≤ l.length + 2) ∧ FrzV m r (.tup [obsR l', twoR (a, b), iRV 0])) (acall_body Try.func49 l49 rfl (Nat.le_of_ble_eq_true rfl) (pair_bodyB l g h38)) (by simp [obsV, obsD, CV.isD, CC.isD]) fun r m1 hr => ?_
  obtain ⟨l', a, b, ⟨h1, h2⟩, hf⟩ := hr
  exact ⟨_, hf, h l' a b h1 h2⟩
end Go.Proofs.Ytflieebgiejjpaa
