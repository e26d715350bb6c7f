import Derived.Test.YtoohefnephhmbaaDoorAmZ2
import Derived.Test.YtoohefnephhmbaaDoorDvPSeq
import Derived.RangeFuncNested
import Derived.RangeFuncCalls
import Derived.Shelf.Abstract
import Derived.WalkKit
import Derived.OwnWalkIn
import Derived.TacticsInMore
import Derived.LoopNIn
import Derived.LoopIn
import Derived.Test.YtoohefnephhmbaaDoorAmY
set_option linter.unusedVariables false
set_option linter.unusedSimpArgs false
namespace Go.Proofs.YtoohefnephhmbaaDoor
open Go.AM Go.ChangeShapes Go.WideShapes Go.ChangeAt Go.RowKit
attribute [local go_sem] Oper.semAt_some
def restLen (w : World) (b o : Nat) : Nat := match w.cell? ⟨b, o, none⟩ with | some (.string s) => s.size | _ => 0
theorem restLen_eq {w : World} {b o : Nat} {s : ByteArray} (h : w.cell? ⟨b, o, none⟩ = some (.string s)) : restLen w b o = s.size := by simp [restLen, h]
@[simp] theorem bysL_data (r : List UInt8) : (bysL r).data.toList = r := rfl
@[simp] theorem bysL_size (r : List UInt8) : (bysL r).size = r.length := by simp [bysL, ByteArray.size]
theorem bysL_extract (r : List UInt8) (a b : Nat) (hb : b ≤ r.length) : (bysL r).extract a b = bysL ((r.take b).drop a) := by
  apply ByteArray.ext
  simp [bysL, ByteArray.data_extract, List.drop_take]
/-- the words of the contract, under whatever fence -/
def YldF (F : Fence) (n : Nat) (P : Program) (l : Nat) (args : Array Value) (W : World) (R : Ending → World → Prop) : Prop :=
  ∃ fn tmps assign body, (Instr.yield l args).run P W = .ok (.round l fn tmps assign body) W ∧ RoundIn F n P l fn tmps assign body W R
set_option maxRecDepth 100000 in
set_option maxHeartbeats 2000000 in
theorem split_walk (F : Fence) (n : Nat) (h49 : F.fn 49) (h51 : F.fn 51) (hro : F.round = none) (hn : 3 ≤ n) (s : ByteArray) (c : UInt8) (l b1 o1 b2 o2 b3 o3 : Nat) (W : World) (J : Nat → World → Prop) (Jx : World → Prop)
    (n12 : b1 ≠ b2) (n13 : b1 ≠ b3) (n23 : b2 ≠ b3)
    (hix : ∀ (s : ByteArray) (w : World), CallsIn F (n - 1) Tryd.prog 51 #[.string s, .string ⟨#[c]⟩] w fun e w' => e = .returned (.int .i64 (Lib.indexByte s.data.toList c)) ∧ w' = w)
    (c1 : W.cell? ⟨b1, o1, none⟩ = some (.string ⟨#[c]⟩)) (c2 : W.cell? ⟨b2, o2, none⟩ = some (.string s)) (f2 : W.frozen? ⟨b2, o2, none⟩ = false) (c3 : W.cell? ⟨b3, o3, none⟩ = some (.int .i64 0))
    (hJ : ∀ k W v, J k W → J k (W.setCell ⟨b2, o2, none⟩ v))
    (hY : ∀ k y W, (pieces c s)[k]? = some y → J k W → YldF F (n - 1) Tryd.prog l #[.string y] W fun e W' =>
      (e = .returned (.bool true) ∧ J (k + 1) W' ∧ W'.heap[b1]? = W.heap[b1]? ∧ W'.heap[b2]? = W.heap[b2]? ∧ W'.heap[b3]? = W.heap[b3]?) ∨ (e = .returned (.bool false) ∧ Jx W'))
    (h0 : J 0 W) (hsz : (s.size : Int) < 4611686018427387904) :
    CallsIn F n Tryd.prog 49 #[.func (.yield l) #[] #[], .pointer (some ⟨b1, o1, none⟩), .pointer (some ⟨b2, o2, none⟩), .pointer (some ⟨b3, o3, none⟩)] W fun e W' =>
      (∃ v, e = .returned v) ∧ (J (pieces c s).length W' ∨ Jx W') := by
  have h1 : 1 ≤ n := by omega
  refine callsIn_of_wp Tryd.func49 rfl h49 ?_ hro
  simp only [Tryd.ntmps49, List.size_toArray, List.length_cons, List.length_nil, Nat.reduceAdd, Nat.reduceSub, Array.replicate_succ, Array.replicate_zero, List.push_toArray, List.append_toArray, List.nil_append, List.cons_append]
  gi_wp2
  gi_loopw [] (fun wr => ∃ (k : Nat) (r : List UInt8), wr.cell? ⟨b2, o2, none⟩ = some (.string (bysL r)) ∧ wr.frozen? ⟨b2, o2, none⟩ = false ∧ wr.cell? ⟨b1, o1, none⟩ = some (.string ⟨#[c]⟩) ∧
      wr.cell? ⟨b3, o3, none⟩ = some (.int .i64 0) ∧ (pieces c s).drop k = (cutL c r).map bysL ∧ J k wr ∧ r.length ≤ s.size) (fun wr => restLen wr b2 o2)
  case atStart =>
    exact ⟨0, s.data.toList, by rw [c2]; rfl, f2, c1, c3, rfl, h0, by show s.data.toList.length ≤ s.data.size; rw [Array.length_toList]; exact Nat.le_refl _⟩
  case round =>
    obtain ⟨k, r, d2, g2, d1, d3, hcut, hj, hlen⟩ := hrel
    rcases Int.lt_or_le (Lib.indexByte r c) 0 with hneg | hpos
    · have hm1 : Lib.indexByte r c = -1 := by have := Lib.indexByte_ge r c; omega
      have hix := (hix (bysL r) wr).mono (R' := fun e w' => e = .returned (.int .i64 (-1)) ∧ w' = wr) fun e w' ⟨h1, h2⟩ => ⟨by rw [h1, bysL_data, hm1], h2⟩
      have hk : (pieces c s)[k]? = some (bysL r) := by
        have := congrArg (fun l => l[0]?) hcut
        simp only [List.getElem?_drop, cutL_none hm1] at this
        simpa using this
      have hlen2 : (pieces c s).length = k + 1 := by
        have h2 := congrArg List.length hcut
        have h3 := (List.getElem?_eq_some_iff.1 hk).1
        rw [cutL_none hm1, List.length_drop] at h2
        simp only [List.map_cons, List.map_nil, List.length_cons, List.length_nil] at h2
        omega
      obtain ⟨fn, tmps, assign, body, hy, hR⟩ := hY k _ wr hk hj
      have hfin : ∀ W, J (k + 1) W → J (pieces c s).length W := fun W h => hlen2 ▸ h
      clear hY hJ hcut hneg hm1 hk c1 c2 f2 c3 h0 hlen2
      gi_wp2_with (gi_at_call 51; refine hix.mono ?_; rintro e w' ⟨rfl, rfl⟩)
      refine hR.mono ?_
      rintro e W' (⟨rfl, hJ', _⟩ | ⟨rfl, hx⟩)
      · gi_wp2
        go_end0
        exact ⟨⟨_, rfl⟩, .inl (hfin _ hJ')⟩
      · gi_wp2
        go_end0
        exact ⟨⟨_, rfl⟩, .inr hx⟩
    · obtain ⟨i, hi⟩ := Int.eq_ofNat_of_zero_le hpos
      obtain ⟨hlt, hcut2⟩ := cutL_some hi
      have hk : (pieces c s)[k]? = some (bysL (r.take i)) := by
        have := congrArg (fun l => l[0]?) hcut
        simp only [List.getElem?_drop, hcut2] at this
        simpa using this
      have hnext : (pieces c s).drop (k + 1) = (cutL c (r.drop (i + 1))).map bysL := by
        have := congrArg List.tail hcut
        rw [hcut2, List.tail_drop] at this
        simpa using this
      obtain ⟨fn, tmps, assign, body, hy, hR⟩ := hY k _ wr hk hj
      obtain ⟨z, hz⟩ : ∃ z : Int, z = (i : Int) := ⟨_, rfl⟩
      have hix := (hix (bysL r) wr).mono (R' := fun e w' => e = .returned (.int .i64 z) ∧ w' = wr) fun e w' ⟨h1, h2⟩ => ⟨by rw [h1, bysL_data, hi, hz], h2⟩
      have Hnext : Hid ((pieces c s).drop (k + 1) = (cutL c (r.drop (i + 1))).map bysL) := hnext
      have HJ : Hid (∀ k W v, J k W → J k (W.setCell ⟨b2, o2, none⟩ v)) := hJ
      have Hz : Hid (z = (i : Int)) := hz
      have z0 : 0 ≤ z := by omega
      have z0' : decide (z < 0) = false := decide_eq_false (by omega)
      have z1 : z < r.length := by omega
      have hw1 : wrap64 z = z := by unfold wrap64; omega
      have hw2 : wrap64 (z + 1) = z + 1 := by unfold wrap64; omega
      have hs1 : (0 ≤ z ∧ z ≤ (r.length : Int)) = True := by simp; omega
      have hs2 : (0 ≤ z + 1 ∧ z + 1 ≤ (r.length : Int)) = True := by simp; omega
      have hs3 : z ≤ (r.length : Int) := by omega
      have hs4 : 0 ≤ z + 1 := by omega
      have hs5 : z + 1 ≤ (r.length : Int) := by omega
      have he1 : bysL (r.take i) = (bysL r).extract 0 z.toNat := by
        rw [bysL_extract r _ _ (by omega), hz]
        simp
      have he2 : (bysL r).extract (z + 1).toNat r.length = bysL (r.drop (i + 1)) := by
        rw [bysL_extract r _ _ (Nat.le_refl _), List.take_length, hz]
        rfl
      have Hend : Hid (i < r.length ∧ r.length ≤ s.size ∧ (bysL r).extract (z + 1).toNat r.length = bysL (r.drop (i + 1))) := ⟨hlt, hlen, he2⟩
      rw [he1] at hy
      clear hJ hY hcut hcut2 hi hk c1 c2 f2 c3 h0 hpos hnext hz hsz he1 he2 hlt hlen
      gi_wp2_with (first
        | (gi_at_call 51; refine hix.mono ?_; rintro e w' ⟨rfl, rfl⟩)
        | (refine wpIn_cond_false (by show Value.bool (decide (z < 0)) = Value.bool false; rw [z0']) ?_))
      refine hR.mono ?_
      rintro e W' (⟨rfl, hJ', e1, e2, e3⟩ | ⟨rfl, hx⟩)
      · have q1 : W'.cell? ⟨b1, o1, none⟩ = some (.string ⟨#[c]⟩) := (World.cell?_of_block (a := ⟨b1, o1, none⟩) e1).trans d1
        have q2 : W'.cell? ⟨b2, o2, none⟩ = some (.string (bysL r)) := (World.cell?_of_block (a := ⟨b2, o2, none⟩) e2).trans d2
        have q3 : W'.cell? ⟨b3, o3, none⟩ = some (.int .i64 0) := (World.cell?_of_block (a := ⟨b3, o3, none⟩) e3).trans d3
        have q4 : W'.frozen? ⟨b2, o2, none⟩ = false := by rw [← g2]; simp only [World.frozen?, e2]
        gi_wp2
        obtain ⟨hlt, hlen, he2⟩ := Hend.out
        have hq : (W'.cell? ⟨b2, o2, none⟩).isSome = true := by rw [q2]; rfl
        have hn2 := World.cell?_setCell_same' W' ⟨b2, o2, none⟩ (.string ((bysL r).extract (z + 1).toNat r.length)) hq
        rw [he2] at hn2 ⊢
        refine ⟨⟨k + 1, r.drop (i + 1), hn2, by rw [World.frozen?_setCell]; exact q4, ?_, ?_, Hnext.out, HJ.out _ _ _ hJ', by simp; omega⟩, ?_⟩
        · exact (World.cell?_setCell_other _ _ _ _ fun e => n12 (congrArg Addr.block e).symm).trans q1
        · exact (World.cell?_setCell_other _ _ _ _ fun e => n23 (congrArg Addr.block e)).trans q3
        · rw [restLen_eq hn2, restLen_eq d2, bysL_size, bysL_size, List.length_drop]
          omega
      · gi_wp2
        refine bodyPost_ret (results_none rfl _ _ _) rfl ?_
        exact ⟨⟨_, rfl⟩, .inr hx⟩
theorem heap_setCell_other (W : World) (a : Addr) (v : Value) {b : Nat} (h : b ≠ a.block) : (W.setCell a v).heap[b]? = W.heap[b]? := by
  simp only [World.setCell, Array.getElem?_modify]
  rw [if_neg (fun e => h e.symm)]
theorem roundIn_wide {n : Nat} {P : Program} {l : Nat} {f : FuncId} {tmps : Array Value} {assign body : Code} {w : World} {R : Ending → World → Prop} (h : RoundIn Fence.wide 0 P l f tmps assign body w R) :
    RoundIn Fence.wide n P l f tmps assign body w R := ⟨h.1, fun c cs _ => h.2 c cs (room_wide _)⟩
/-- **strings.SplitSeq's iterator**: a text's pieces, one by one -/
theorem split_seq (s : ByteArray) (c : UInt8) (hsz : (s.size : Int) < 4611686018427387904) : SeqP Tryd.prog 49 [.string ⟨#[c]⟩, .string s, .int .i64 0] (pieces c s) := by
  refine ⟨⟨Tryd.f49, Tryd.func49, rfl, by decide⟩, ?_⟩
  intro l az W J Jx hlen hnd hcell hJ hJx hY h0
  match az, hlen with
  | [(b1, o1), (b2, o2), (b3, o3)], _ =>
  obtain ⟨c1, f1⟩ := hcell 0 _ _ rfl rfl
  obtain ⟨c2, f2⟩ := hcell 1 _ _ rfl rfl
  obtain ⟨c3, f3⟩ := hcell 2 _ _ rfl rfl
  simp only [List.map_cons, List.map_nil, List.nodup_cons, List.mem_cons, List.not_mem_nil, or_false, not_or, List.nodup_nil] at hnd
  obtain ⟨⟨n12, n13⟩, n23, _⟩ := hnd
  show CallsIn Fence.wide 0 Tryd.prog 49 #[.func (.yield l) #[] #[], .pointer (some ⟨b1, o1, none⟩), .pointer (some ⟨b2, o2, none⟩), .pointer (some ⟨b3, o3, none⟩)] W _
  refine callsIn_wide.2 ((callsIn_wide (n := 5)).1 ?_)
  refine split_walk Fence.wide 5 trivial trivial rfl (by omega) s c l b1 o1 b2 o2 b3 o3 W J Jx n12 n13 n23 (fun s w => callsIn_wide.2 (index_one s c w)) c1 c2 f2 c3 ?_ ?_ h0 hsz
  · intro k W v hj
    exact hJ k W _ hj (by simp) (fun b _ hb => heap_setCell_other _ _ _ (hb (b2, o2) (by simp))) rfl rfl rfl
  · intro k y W hk hj
    obtain ⟨fn, tmps, assign, body, hy, hR⟩ := hY k y W hk hj
    refine ⟨fn, tmps, assign, body, hy, (roundIn_wide hR).mono fun e W' h => ?_⟩
    rcases h with ⟨he, h1, h2, h3⟩ | ⟨he, h1⟩
    · exact .inl ⟨he, h1, h3 (b1, o1) (by simp), h3 (b2, o2) (by simp), h3 (b3, o3) (by simp)⟩
    · exact .inr ⟨he, h1⟩
end Go.Proofs.YtoohefnephhmbaaDoor
