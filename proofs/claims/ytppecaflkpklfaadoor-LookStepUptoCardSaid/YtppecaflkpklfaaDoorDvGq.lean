import Derived.Test.YtppecaflkpklfaaDoorAmZ2
import Derived.Test.YtppecaflkpklfaaDoorAmR
import Derived.Test.YtppecaflkpklfaaDoorAmU
import Derived.Test.YtppecaflkpklfaaDoorRows
import Derived.Shelf.Strings.Search3
import Derived.Test.YtppecaflkpklfaaDoorAmY
import Derived.RangeFuncNested
import Derived.RangeFuncCalls
import Derived.Shelf.Abstract
import Derived.WalkKit
import Derived.OwnWalkIn
import Derived.TacticsInMore
import Derived.LoopNIn
import Derived.LoopIn
import Derived.Test.YtppecaflkpklfaaDoorDvGa
set_option linter.unusedVariables false
set_option linter.unusedSimpArgs false
namespace Go.Proofs.YtppecaflkpklfaaDoor
open Go.AM Go.ChangeShapes Go.WideShapes Go.ChangeAt Go.RowKit
def Tryd.lays143_ren : Go.Shelf.Ren := ⟨fun | 143 => 41 | 219 => 44 | 217 => 45 | 225 => 46 | 224 => 47 | 267 => 48 | 266 => 49 | 314 => 50 | n => n, fun | 9 => 9 | 3 => 3 | 4 => 4 | 5 => 5 | 46 => 102 | 146 => 109 | 51 => 108 | n => n, fun | 1 => 2 | n => n⟩
set_option maxRecDepth 100000 in
theorem Tryd.lays143 : Go.Proofs.Lays.n143 Tryd.prog Tryd.lays143_ren := {
  mixed := by kernel_rfl,
  f143 := Tryd.func41.trans (congrArg some (by kernel_rfl)),
  f217 := Tryd.func45.trans (congrArg some (by kernel_rfl)),
  f219 := Tryd.func44.trans (congrArg some (by kernel_rfl)),
  f224 := Tryd.func47.trans (congrArg some (by kernel_rfl)),
  f225 := Tryd.func46.trans (congrArg some (by kernel_rfl)),
  f266 := Tryd.func49.trans (congrArg some (by kernel_rfl)),
  f267 := Tryd.func48.trans (congrArg some (by kernel_rfl)),
  f314 := Tryd.func50.trans (congrArg some (by kernel_rfl)),
  t3 := Tryd.underlying3,
  a3 := Tryd.isAgg3,
  z3 := Tryd.sizeOf3,
  v3 := Tryd.zeroValue3,
  t4 := Tryd.underlying4,
  a4 := Tryd.isAgg4,
  z4 := Tryd.sizeOf4,
  v4 := Tryd.zeroValue4,
  t5 := Tryd.underlying5,
  a5 := Tryd.isAgg5,
  z5 := Tryd.sizeOf5,
  v5 := Tryd.zeroValue5,
  t9 := Tryd.underlying9,
  a9 := Tryd.isAgg9,
  z9 := Tryd.sizeOf9,
  v9 := Tryd.zeroValue9,
  t46 := Tryd.underlying102,
  a46 := Tryd.isAgg102,
  z46 := Tryd.sizeOf102,
  v46 := Tryd.zeroValue102,
  t51 := Tryd.underlying108,
  a51 := Tryd.isAgg108,
  z51 := Tryd.sizeOf108,
  v51 := Tryd.zeroValue108,
  t146 := Tryd.underlying109,
  a146 := Tryd.isAgg109,
  z146 := Tryd.sizeOf109,
  v146 := Tryd.zeroValue109,
  g1 := by kernel_rfl }
namespace Pth
theorem index_one (s : ByteArray) (c : UInt8) (w : World) : Calls Tryd.prog 41 #[.string s, .string ⟨#[c]⟩] w fun e w' => e = .returned (.int .i64 (Lib.indexByte s.data.toList c)) ∧ w' = w :=
  Any.strings_Index_one Tryd.lays143 s c w
end Pth

namespace Pth
attribute [local go_sem] Oper.semAt_some
/-- a text, cut at a byte -/
def cutL (c : UInt8) : List UInt8 → List (List UInt8)
  | [] => [[]]
  | x :: r => if x == c then [] :: cutL c r else match cutL c r with
    | [] => [[x]]
    | p :: ps => (x :: p) :: ps
theorem cutL_ne (c : UInt8) (l : List UInt8) : cutL c l ≠ [] := by
  cases l with
  | nil => simp [cutL]
  | cons x r =>
    simp only [cutL]
    split
    · simp
    · split <;> simp
theorem cutL_none {c : UInt8} : ∀ {l : List UInt8}, Lib.indexByte l c = -1 → cutL c l = [l]
  | [], _ => rfl
  | x :: r, h => by
    simp only [Lib.indexByte] at h
    split at h
    · cases h
    · rename_i hx
      split at h
      · rename_i h2
        have h2' : Lib.indexByte r c = -1 := by simpa using h2
        simp only [cutL, hx, cutL_none h2', Bool.false_eq_true, if_false]
      · have := Lib.indexByte_ge r c
        omega
theorem cutL_some {c : UInt8} : ∀ {l : List UInt8} {i : Nat}, Lib.indexByte l c = i → i < l.length ∧ cutL c l = l.take i :: cutL c (l.drop (i + 1))
  | [], i, h => by simp [Lib.indexByte] at h
  | x :: r, i, h => by
    simp only [Lib.indexByte] at h
    split at h
    · rename_i hx
      have : i = 0 := by omega
      subst this
      simp [cutL, hx]
    · rename_i hx
      split at h
      · omega
      · cases i with
        | zero =>
          have := Lib.indexByte_ge r c
          rename_i h2
          have : Lib.indexByte r c = -1 := by omega
          simp [this] at h2
        | succ i =>
          have h3 : Lib.indexByte r c = i := by omega
          obtain ⟨h4, h5⟩ := cutL_some h3
          refine ⟨by simpa using h4, ?_⟩
          simp only [cutL, hx, h5, Bool.false_eq_true, if_false]
          simp
/-- a string's pieces -/
def bysL (l : List UInt8) : ByteArray := ⟨l.toArray⟩
def pieces (c : UInt8) (s : ByteArray) : List ByteArray := (cutL c s.data.toList).map bysL
end Pth

namespace Pth
attribute [local go_sem] Oper.semAt_some
def restLen (w : World) (b o : Nat) : Nat := match w.cell? ⟨b, o, none⟩ with | some (.string s) => s.size | _ => 0
theorem restLen_eq {w : World} {b o : Nat} {s : ByteArray} (h : w.cell? ⟨b, o, none⟩ = some (.string s)) : restLen w b o = s.size := by simp [restLen, h]
@[simp] theorem bysL_data (r : List UInt8) : (bysL r).data.toList = r := rfl
@[simp] theorem bysL_size (r : List UInt8) : (bysL r).size = r.length := by simp [bysL, ByteArray.size]
theorem bysL_extract (r : List UInt8) (a b : Nat) (hb : b ≤ r.length) : (bysL r).extract a b = bysL ((r.take b).drop a) := by
  apply ByteArray.ext
  simp [bysL, ByteArray.data_extract, List.drop_take]
/-- the words of the contract, under whatever fence -/
def YldF (F : Fence) (n : Nat) (P : Program) (l : Nat) (args : Array Value) (W : World) (R : Ending → World → Prop) : Prop :=
  ∃ fn tmps assign body, (Instr.yield l args).run P W = .ok (.round l fn tmps assign body) W ∧ RoundIn F n P l fn tmps assign body W R
set_option maxRecDepth 100000 in
set_option maxHeartbeats 2000000 in
theorem split_walk (F : Fence) (n : Nat) (h49 : F.fn 39) (h51 : F.fn 41) (hro : F.round = none) (hn : 3 ≤ n) (s : ByteArray) (c : UInt8) (l b1 o1 b2 o2 b3 o3 : Nat) (W : World) (J : Nat → World → Prop) (Jx : World → Prop)
    (n12 : b1 ≠ b2) (n13 : b1 ≠ b3) (n23 : b2 ≠ b3)
    (hix : ∀ (s : ByteArray) (w : World), CallsIn F (n - 1) Tryd.prog 41 #[.string s, .string ⟨#[c]⟩] w fun e w' => e = .returned (.int .i64 (Lib.indexByte s.data.toList c)) ∧ w' = w)
    (c1 : W.cell? ⟨b1, o1, none⟩ = some (.string ⟨#[c]⟩)) (c2 : W.cell? ⟨b2, o2, none⟩ = some (.string s)) (f2 : W.frozen? ⟨b2, o2, none⟩ = false) (c3 : W.cell? ⟨b3, o3, none⟩ = some (.int .i64 0))
    (hJ : ∀ k W v, J k W → J k (W.setCell ⟨b2, o2, none⟩ v))
    (hY : ∀ k y W, (pieces c s)[k]? = some y → J k W → YldF F (n - 1) Tryd.prog l #[.string y] W fun e W' =>
      (e = .returned (.bool true) ∧ J (k + 1) W' ∧ W'.heap[b1]? = W.heap[b1]? ∧ W'.heap[b2]? = W.heap[b2]? ∧ W'.heap[b3]? = W.heap[b3]?) ∨ (e = .returned (.bool false) ∧ Jx W'))
    (h0 : J 0 W) (hsz : (s.size : Int) < 4611686018427387904) :
    CallsIn F n Tryd.prog 39 #[.func (.yield l) #[] #[], .pointer (some ⟨b1, o1, none⟩), .pointer (some ⟨b2, o2, none⟩), .pointer (some ⟨b3, o3, none⟩)] W fun e W' =>
      (∃ v, e = .returned v) ∧ (J (pieces c s).length W' ∨ Jx W') := by
  have h1 : 1 ≤ n := by omega
  refine callsIn_of_wp Tryd.func39 rfl h49 ?_ hro
  simp only [Tryd.ntmps39, List.size_toArray, List.length_cons, List.length_nil, Nat.reduceAdd, Nat.reduceSub, Array.replicate_succ, Array.replicate_zero, List.push_toArray, List.append_toArray, List.nil_append, List.cons_append]
  gi_wp2
  gi_loopw [] (fun wr => ∃ (k : Nat) (r : List UInt8), wr.cell? ⟨b2, o2, none⟩ = some (.string (bysL r)) ∧ wr.frozen? ⟨b2, o2, none⟩ = false ∧ wr.cell? ⟨b1, o1, none⟩ = some (.string ⟨#[c]⟩) ∧
      wr.cell? ⟨b3, o3, none⟩ = some (.int .i64 0) ∧ (pieces c s).drop k = (cutL c r).map bysL ∧ J k wr ∧ r.length ≤ s.size) (fun wr => restLen wr b2 o2)
  case atStart =>
    exact ⟨0, s.data.toList, by rw [c2]; rfl, f2, c1, c3, rfl, h0, by show s.data.toList.length ≤ s.data.size; rw [Array.length_toList]; exact Nat.le_refl _⟩
  case round =>
    obtain ⟨k, r, d2, g2, d1, d3, hcut, hj, hlen⟩ := hrel
    rcases Int.lt_or_le (Lib.indexByte r c) 0 with hneg | hpos
    · have hm1 : Lib.indexByte r c = -1 := by have := Lib.indexByte_ge r c; omega
      have hix := (hix (bysL r) wr).mono (R' := fun e w' => e = .returned (.int .i64 (-1)) ∧ w' = wr) fun e w' ⟨h1, h2⟩ => ⟨by rw [h1, bysL_data, hm1], h2⟩
      have hk : (pieces c s)[k]? = some (bysL r) := by
        have := congrArg (fun l => l[0]?) hcut
        simp only [List.getElem?_drop, cutL_none hm1] at this
        simpa using this
      have hlen2 : (pieces c s).length = k + 1 := by
        have h2 := congrArg List.length hcut
        have h3 := (List.getElem?_eq_some_iff.1 hk).1
        rw [cutL_none hm1, List.length_drop] at h2
        simp only [List.map_cons, List.map_nil, List.length_cons, List.length_nil] at h2
        omega
      obtain ⟨fn, tmps, assign, body, hy, hR⟩ := hY k _ wr hk hj
      have hfin : ∀ W, J (k + 1) W → J (pieces c s).length W := fun W h => hlen2 ▸ h
      clear hY hJ hcut hneg hm1 hk c1 c2 f2 c3 h0 hlen2
      gi_wp2_with (gi_at_call 41; refine hix.mono ?_; rintro e w' ⟨rfl, rfl⟩)
      refine hR.mono ?_
      rintro e W' (⟨rfl, hJ', _⟩ | ⟨rfl, hx⟩)
      · gi_wp2
        go_end0
        exact ⟨⟨_, rfl⟩, .inl (hfin _ hJ')⟩
      · gi_wp2
        go_end0
        exact ⟨⟨_, rfl⟩, .inr hx⟩
    · obtain ⟨i, hi⟩ := Int.eq_ofNat_of_zero_le hpos
      obtain ⟨hlt, hcut2⟩ := cutL_some hi
      have hk : (pieces c s)[k]? = some (bysL (r.take i)) := by
        have := congrArg (fun l => l[0]?) hcut
        simp only [List.getElem?_drop, hcut2] at this
        simpa using this
      have hnext : (pieces c s).drop (k + 1) = (cutL c (r.drop (i + 1))).map bysL := by
        have := congrArg List.tail hcut
        rw [hcut2, List.tail_drop] at this
        simpa using this
      obtain ⟨fn, tmps, assign, body, hy, hR⟩ := hY k _ wr hk hj
      obtain ⟨z, hz⟩ : ∃ z : Int, z = (i : Int) := ⟨_, rfl⟩
      have hix := (hix (bysL r) wr).mono (R' := fun e w' => e = .returned (.int .i64 z) ∧ w' = wr) fun e w' ⟨h1, h2⟩ => ⟨by rw [h1, bysL_data, hi, hz], h2⟩
      have Hnext : Hid ((pieces c s).drop (k + 1) = (cutL c (r.drop (i + 1))).map bysL) := hnext
      have HJ : Hid (∀ k W v, J k W → J k (W.setCell ⟨b2, o2, none⟩ v)) := hJ
      have Hz : Hid (z = (i : Int)) := hz
      have z0 : 0 ≤ z := by omega
      have z0' : decide (z < 0) = false := decide_eq_false (by omega)
      have z1 : z < r.length := by omega
      have hw1 : wrap64 z = z := by unfold wrap64; omega
      have hw2 : wrap64 (z + 1) = z + 1 := by unfold wrap64; omega
      have hs1 : (0 ≤ z ∧ z ≤ (r.length : Int)) = True := by simp; omega
      have hs2 : (0 ≤ z + 1 ∧ z + 1 ≤ (r.length : Int)) = True := by simp; omega
      have hs3 : z ≤ (r.length : Int) := by omega
      have hs4 : 0 ≤ z + 1 := by omega
      have hs5 : z + 1 ≤ (r.length : Int) := by omega
      have he1 : bysL (r.take i) = (bysL r).extract 0 z.toNat := by
        rw [bysL_extract r _ _ (by omega), hz]
        simp
      have he2 : (bysL r).extract (z + 1).toNat r.length = bysL (r.drop (i + 1)) := by
        rw [bysL_extract r _ _ (Nat.le_refl _), List.take_length, hz]
        rfl
      have Hend : Hid (i < r.length ∧ r.length ≤ s.size ∧ (bysL r).extract (z + 1).toNat r.length = bysL (r.drop (i + 1))) := ⟨hlt, hlen, he2⟩
      rw [he1] at hy
      clear hJ hY hcut hcut2 hi hk c1 c2 f2 c3 h0 hpos hnext hz hsz he1 he2 hlt hlen
      gi_wp2_with (first
        | (gi_at_call 41; refine hix.mono ?_; rintro e w' ⟨rfl, rfl⟩)
        | (refine wpIn_cond_false (by show Value.bool (decide (z < 0)) = Value.bool false; rw [z0']) ?_))
      refine hR.mono ?_
      rintro e W' (⟨rfl, hJ', e1, e2, e3⟩ | ⟨rfl, hx⟩)
      · have q1 : W'.cell? ⟨b1, o1, none⟩ = some (.string ⟨#[c]⟩) := (World.cell?_of_block (a := ⟨b1, o1, none⟩) e1).trans d1
        have q2 : W'.cell? ⟨b2, o2, none⟩ = some (.string (bysL r)) := (World.cell?_of_block (a := ⟨b2, o2, none⟩) e2).trans d2
        have q3 : W'.cell? ⟨b3, o3, none⟩ = some (.int .i64 0) := (World.cell?_of_block (a := ⟨b3, o3, none⟩) e3).trans d3
        have q4 : W'.frozen? ⟨b2, o2, none⟩ = false := by rw [← g2]; simp only [World.frozen?, e2]
        gi_wp2
        obtain ⟨hlt, hlen, he2⟩ := Hend.out
        have hq : (W'.cell? ⟨b2, o2, none⟩).isSome = true := by rw [q2]; rfl
        have hn2 := World.cell?_setCell_same' W' ⟨b2, o2, none⟩ (.string ((bysL r).extract (z + 1).toNat r.length)) hq
        rw [he2] at hn2 ⊢
        refine ⟨⟨k + 1, r.drop (i + 1), hn2, by rw [World.frozen?_setCell]; exact q4, ?_, ?_, Hnext.out, HJ.out _ _ _ hJ', by simp; omega⟩, ?_⟩
        · exact (World.cell?_setCell_other _ _ _ _ fun e => n12 (congrArg Addr.block e).symm).trans q1
        · exact (World.cell?_setCell_other _ _ _ _ fun e => n23 (congrArg Addr.block e)).trans q3
        · rw [restLen_eq hn2, restLen_eq d2, bysL_size, bysL_size, List.length_drop]
          omega
      · gi_wp2
        refine bodyPost_ret (results_none rfl _ _ _) rfl ?_
        exact ⟨⟨_, rfl⟩, .inr hx⟩
theorem heap_setCell_other (W : World) (a : Addr) (v : Value) {b : Nat} (h : b ≠ a.block) : (W.setCell a v).heap[b]? = W.heap[b]? := by
  simp only [World.setCell, Array.getElem?_modify]
  rw [if_neg (fun e => h e.symm)]
theorem roundIn_wide {n : Nat} {P : Program} {l : Nat} {f : FuncId} {tmps : Array Value} {assign body : Code} {w : World} {R : Ending → World → Prop} (h : RoundIn Fence.wide 0 P l f tmps assign body w R) :
    RoundIn Fence.wide n P l f tmps assign body w R := ⟨h.1, fun c cs _ => h.2 c cs (room_wide _)⟩
/-- **strings.SplitSeq's iterator**: a text's pieces, one by one -/
theorem split_seq (s : ByteArray) (c : UInt8) (hsz : (s.size : Int) < 4611686018427387904) : SeqP Tryd.prog 39 [.string ⟨#[c]⟩, .string s, .int .i64 0] (pieces c s) := by
  refine ⟨⟨Tryd.f39, Tryd.func39, rfl, by decide⟩, ?_⟩
  intro l az W J Jx hlen hnd hcell hJ hJx hY h0
  match az, hlen with
  | [(b1, o1), (b2, o2), (b3, o3)], _ =>
  obtain ⟨c1, f1⟩ := hcell 0 _ _ rfl rfl
  obtain ⟨c2, f2⟩ := hcell 1 _ _ rfl rfl
  obtain ⟨c3, f3⟩ := hcell 2 _ _ rfl rfl
  simp only [List.map_cons, List.map_nil, List.nodup_cons, List.mem_cons, List.not_mem_nil, or_false, not_or, List.nodup_nil] at hnd
  obtain ⟨⟨n12, n13⟩, n23, _⟩ := hnd
  show CallsIn Fence.wide 0 Tryd.prog 39 #[.func (.yield l) #[] #[], .pointer (some ⟨b1, o1, none⟩), .pointer (some ⟨b2, o2, none⟩), .pointer (some ⟨b3, o3, none⟩)] W _
  refine callsIn_wide.2 ((callsIn_wide (n := 5)).1 ?_)
  refine split_walk Fence.wide 5 trivial trivial rfl (by omega) s c l b1 o1 b2 o2 b3 o3 W J Jx n12 n13 n23 (fun s w => callsIn_wide.2 (index_one s c w)) c1 c2 f2 c3 ?_ ?_ h0 hsz
  · intro k W v hj
    exact hJ k W _ hj (by simp) (fun b _ hb => heap_setCell_other _ _ _ (hb (b2, o2) (by simp))) rfl rfl rfl
  · intro k y W hk hj
    obtain ⟨fn, tmps, assign, body, hy, hR⟩ := hY k y W hk hj
    refine ⟨fn, tmps, assign, body, hy, (roundIn_wide hR).mono fun e W' h => ?_⟩
    rcases h with ⟨he, h1, h2, h3⟩ | ⟨he, h1⟩
    · exact .inl ⟨he, h1, h3 (b1, o1) (by simp), h3 (b2, o2) (by simp), h3 (b3, o3) (by simp)⟩
    · exact .inr ⟨he, h1⟩
end Pth

def c31 : LF := ⟨52, [.tmp 2], (.seq (.reg [
    ⟨(some 2), .mov (.c (.rv (.one (.dat (.val (.bool false)))))), none⟩]) (.seq (.seq (.reg [
    ⟨(some 5), .mov (.t 0), none⟩,
    ⟨(some 6), .len 0 (.t 5), none⟩,
    ⟨(some 7), .bin .lss (.t 6) (.c (.rv (.one (.dat (.val (.int .i64 (1))))))), none⟩,
    ⟨(some 8), .mov (.t 7), none⟩,
    ⟨(some 9), .mov (.t 0), (some (8, false))⟩,
    ⟨(some 10), .len 0 (.t 9), (some (8, false))⟩,
    ⟨(some 11), .bin .gtr (.t 10) (.c (.rv (.one (.dat (.val (.int .i64 (12))))))), (some (8, false))⟩,
    ⟨(some 12), .pick (.t 8) (.c (.rv (.one (.dat (.val (.bool true)))))) (.t 11), none⟩,
    ⟨(some 13), .mov (.t 12), none⟩,
    ⟨(some 14), .mov (.t 0), (some (13, false))⟩,
    ⟨(some 15), .bin .eql (.t 14) (.c (.rv (.one (.dat (.val (.string ⟨#[46]⟩)))))), (some (13, false))⟩,
    ⟨(some 16), .pick (.t 13) (.c (.rv (.one (.dat (.val (.bool true)))))) (.t 15), none⟩,
    ⟨(some 17), .mov (.t 16), none⟩,
    ⟨(some 18), .mov (.t 0), (some (17, false))⟩,
    ⟨(some 19), .bin .eql (.t 18) (.c (.rv (.one (.dat (.val (.string ⟨#[46, 46]⟩)))))), (some (17, false))⟩,
    ⟨(some 20), .pick (.t 17) (.c (.rv (.one (.dat (.val (.bool true)))))) (.t 19), none⟩]) (.cond (.t 20) (.seq (.reg [
    ⟨(some 2), .mov (.c (.rv (.one (.dat (.val (.bool false)))))), none⟩]) .ret) .skip)) (.seq (.seq (.reg [
    ⟨(some 21), .mov (.t 0), none⟩,
    ⟨(some 22), .len 0 (.t 21), none⟩,
    ⟨(some 23), .mov (.c (.rv (.one (.dat (.val (.int .i64 (0))))))), none⟩]) (.block 0 (.loop (.seq (.reg [
    ⟨(some 24), .bin .lss (.t 23) (.t 22), none⟩]) (.seq (.cond (.t 24) .skip (.exit 0)) (.seq (.block 1 (.seq (.reg [
    ⟨(some 25), .mov (.t 23), none⟩,
    ⟨(some 3), .mov (.t 25), none⟩]) (.seq (.reg [
    ⟨(some 26), .mov (.t 0), none⟩,
    ⟨(some 27), .mov (.t 3), none⟩,
    ⟨(some 28), .sidx (.t 26) (.t 27), none⟩,
    ⟨(some 4), .mov (.t 28), none⟩]) (.seq (.reg [
    ⟨(some 29), .mov (.t 4), none⟩,
    ⟨(some 30), .bin .lss (.t 29) (.c (.rv (.one (.dat (.val (.int .u8 (97))))))), none⟩,
    ⟨(some 31), .mov (.t 30), none⟩,
    ⟨(some 32), .mov (.t 4), (some (31, false))⟩,
    ⟨(some 33), .bin .gtr (.t 32) (.c (.rv (.one (.dat (.val (.int .u8 (122))))))), (some (31, false))⟩,
    ⟨(some 34), .pick (.t 31) (.c (.rv (.one (.dat (.val (.bool true)))))) (.t 33), none⟩,
    ⟨(some 35), .mov (.t 34), none⟩,
    ⟨(some 36), .mov (.t 4), (some (35, true))⟩,
    ⟨(some 37), .bin .lss (.t 36) (.c (.rv (.one (.dat (.val (.int .u8 (48))))))), (some (35, true))⟩,
    ⟨(some 38), .mov (.t 37), (some (35, true))⟩,
    ⟨(some 39), .mov (.t 4), (some (38, false))⟩,
    ⟨(some 40), .bin .gtr (.t 39) (.c (.rv (.one (.dat (.val (.int .u8 (57))))))), (some (38, false))⟩,
    ⟨(some 41), .pick (.t 38) (.c (.rv (.one (.dat (.val (.bool true)))))) (.t 40), (some (35, true))⟩,
    ⟨(some 42), .pick (.t 35) (.t 41) (.c (.rv (.one (.dat (.val (.bool false)))))), none⟩,
    ⟨(some 43), .mov (.t 42), none⟩,
    ⟨(some 44), .mov (.t 4), (some (43, true))⟩,
    ⟨(some 45), .bin .neq (.t 44) (.c (.rv (.one (.dat (.val (.int .u8 (46))))))), (some (43, true))⟩,
    ⟨(some 46), .pick (.t 43) (.t 45) (.c (.rv (.one (.dat (.val (.bool false)))))), none⟩,
    ⟨(some 47), .mov (.t 46), none⟩,
    ⟨(some 48), .mov (.t 4), (some (47, true))⟩,
    ⟨(some 49), .bin .neq (.t 48) (.c (.rv (.one (.dat (.val (.int .u8 (95))))))), (some (47, true))⟩,
    ⟨(some 50), .pick (.t 47) (.t 49) (.c (.rv (.one (.dat (.val (.bool false)))))), none⟩]) (.cond (.t 50) (.seq (.reg [
    ⟨(some 2), .mov (.c (.rv (.one (.dat (.val (.bool false)))))), none⟩]) .ret) .skip))))) (.reg [
    ⟨(some 51), .bin .add (.t 23) (.c (.rv (.one (.dat (.val (.int .i64 (1))))))), none⟩,
    ⟨(some 23), .mov (.t 51), none⟩]))))))) (.seq (.reg [
    ⟨(some 2), .mov (.c (.rv (.one (.dat (.val (.bool true)))))), none⟩]) .ret))))⟩
namespace Pth
abbrev Txt := List UInt8
def vT (t : Txt) : CV := vStr (bysL t)
theorem bysL_of (s : ByteArray) : ∃ t : Txt, s = bysL t := ⟨s.data.toList, rfl⟩
theorem bysL_toList (t : Txt) : (bysL t).toList = t := ByteArray.toList_mk t
theorem bysL_inj {a b : Txt} (h : bysL a = bysL b) : a = b := by rw [← bysL_toList a, ← bysL_toList b, h]
theorem bysL_add (a b : Txt) : bysL a ++ bysL b = bysL (a ++ b) := by
  apply ByteArray.ext
  simp [bysL]
theorem bB_str {a b : Txt} {A B : Prop} (ha : a = b → A) (hb : a ≠ b → B) : @Bool.rec (fun _ => Prop) B A ((bysL a).toList == (bysL b).toList) := by
  rw [bysL_toList, bysL_toList]
  cases h : (a == b)
  · exact hb (by simpa using h)
  · exact ha (by simpa using h)
def okN (n : Nat) : Bool := (decide (97 ≤ n) && decide (n ≤ 122)) || (decide (48 ≤ n) && decide (n ≤ 57)) || decide (n = 46) || decide (n = 95)
/-- may a text be a name? -/
def nameOk (t : Txt) : Bool := decide (1 ≤ t.length) && decide (t.length ≤ 12) && decide (t ≠ [46]) && decide (t ≠ [46, 46]) && t.all fun c => okN c.toNat
theorem nameOk_bad {t : Txt} {k : Nat} (hk : k < t.length) (h : okN t[k].toNat = false) : nameOk t = false := by
  have : (t.all fun c => okN c.toNat) = false := by
    rw [List.all_eq_false]
    exact ⟨t[k], List.getElem_mem hk, by simp [h]⟩
  simp [nameOk, this]
theorem nameOk_all {t : Txt} (h1 : 1 ≤ t.length) (h2 : t.length ≤ 12) (h3 : t ≠ [46]) (h4 : t ≠ [46, 46]) (h : ∀ k (hk : k < t.length), okN t[k].toNat = true) : nameOk t = true := by
  have : (t.all fun c => okN c.toNat) = true := by
    rw [List.all_eq_true]
    intro c hc
    obtain ⟨k, hk, rfl⟩ := List.mem_iff_getElem.1 hc
    exact h k hk
  simp [nameOk, this, h1, h2, h3, h4]
theorem okN_f {n : Nat} (h1 : ¬ (97 ≤ n ∧ n ≤ 122)) (h2 : ¬ (48 ≤ n ∧ n ≤ 57)) (h3 : n ≠ 46) (h4 : n ≠ 95) : okN n = false := by
  have a : ¬ (97 ≤ n) ∨ ¬ (n ≤ 122) := by omega
  have b : ¬ (48 ≤ n) ∨ ¬ (n ≤ 57) := by omega
  unfold okN
  rcases a with a | a <;> rcases b with b | b <;> simp [a, b, h3, h4]
theorem okN_t {n : Nat} (h : (97 ≤ n ∧ n ≤ 122) ∨ (48 ≤ n ∧ n ≤ 57) ∨ n = 46 ∨ n = 95) : okN n = true := by
  unfold okN
  rcases h with ⟨a, b⟩ | ⟨a, b⟩ | h | h <;> simp_all
theorem l31 : lowF Tryd.prog Tryd.f31 = some c31 := by kernel_rfl
theorem getT {t : Txt} {k : Nat} (hk : k < t.length) : getZ (bysL t).data.toList (k : Nat) = some t[k] := by
  rw [getZ_nat, bysL_data, List.getElem?_eq_getElem hk]
theorem bysL_sizeI (t : Txt) : (((bysL t).size : Nat) : Int) = t.length := by rw [bysL_size]
set_option maxRecDepth 100000 in
set_option maxHeartbeats 8000000 in
theorem name_body (t : Txt) : body Tryd.prog c31 [vT t] [] (fun r m => r = vBool (nameOk t)) := by
  refine bB_dec (fun h => ?_) (fun h => ?_)
  · rw [bysL_sizeI] at h
    have : nameOk t = false := by simp [nameOk]; omega
    rw [this]; rfl
  rw [bysL_sizeI] at h
  refine bB_dec (fun h2 => ?_) (fun h2 => ?_)
  · rw [bysL_sizeI] at h2
    have : nameOk t = false := by simp [nameOk]; omega
    rw [this]; rfl
  rw [bysL_sizeI] at h2
  refine bB_str (b := [46]) (fun h3 => ?_) (fun h3 => ?_)
  · subst h3; rfl
  refine bB_str (b := [46, 46]) (fun h4 => ?_) (fun h4 => ?_)
  · subst h4; rfl
  refine loop_keep (fun k => k ≤ t.length ∧ ∀ j (hj : j < t.length), j < k → okN t[j].toNat = true) [0] (fun k => [(22, vInt .i64 (t.length : Nat)), (23, vInt .i64 (k : Nat))]) (fun _ => []) (fun k => t.length - k) 0 ⟨Nat.zero_le _, fun j _ h => absurd h (Nat.not_lt_zero _)⟩ ?_ (fun k hk => ?_)
  · refine View.of 0 [] [] rfl rfl rfl rfl rfl rfl ?_ (.nil _)
    repeat (first | exact .nil | refine .junk ?_ | refine .eq rfl ?_ | refine .put (.ren (by rw [bysL_sizeI]; rfl)) ?_)
  obtain ⟨hk, hall⟩ : k ≤ t.length ∧ ∀ j (hj : j < t.length), j < k → okN t[j].toNat = true := hk
  refine bB_dec (fun h5 => ?_) (fun h5 => ?_)
  · have hlt : k < t.length := by
      have h5 : (k : Int) < (t.length : Int) := h5
      omega
    refine ok_some (getT hlt) ?_
    repeat' first | refine bB_dec (fun _ => ?_) (fun _ => ?_) | refine bB_bne (fun _ => ?_) (fun _ => ?_)
    all_goals first
      | (show vBool false = vBool (nameOk t)
         rw [nameOk_bad hlt (okN_f (by omega) (by omega) (by omega) (by omega))])
      | (refine ⟨k + 1, ⟨hlt, fun j hj hjk => ?_⟩, (show t.length - (k + 1) < t.length - k by omega), View.of 0 [] [] rfl rfl rfl rfl rfl rfl ?_ (.nil _)⟩
         · rcases Nat.lt_or_ge j k with h | h
           · exact hall j hj h
           · have : j = k := by omega
             subst this
             exact okN_t (by omega)
         · repeat (first | exact .nil | refine .junk ?_ | refine .put (.ren (next_i64 (by omega)).symm) ?_ | refine .eq rfl ?_))
  · show vBool true = vBool (nameOk t)
    have h5 : ¬ (k : Int) < (t.length : Int) := h5
    rw [nameOk_all (by omega) (by omega) h3 h4 fun j hj => hall j hj (by omega)]
theorem name_ok (t : Txt) {m : Mem} {K : CV → Mem → Prop} (h : K (vBool (nameOk t)) m) : ACall Tryd.prog 31 [vT t] m K :=
  acall_val Tryd.func31 l31 rfl (Nat.le_of_ble_eq_true rfl) (name_body t) rfl rfl h
end Pth

namespace Pth
theorem bB_ndec {p : Prop} [Decidable p] {A B : Prop} (ha : ¬ p → A) (hb : p → B) : @Bool.rec (fun _ => Prop) B A (!decide p) := by
  by_cases h : p
  · simp only [h, decide_true, Bool.not_true]; exact hb h
  · simp only [h, decide_false, Bool.not_false]; exact ha h
theorem bB_nstr {a b : Txt} {A B : Prop} (ha : a ≠ b → A) (hb : a = b → B) : @Bool.rec (fun _ => Prop) B A (!((bysL a).toList == (bysL b).toList)) := by
  rw [bysL_toList, bysL_toList]
  by_cases h : a = b
  · subst h; simpa using hb rfl
  · have : (a == b) = false := by simpa using h
    rw [this]; exact ha h
theorem strB {a b : Txt} : ((bysL a).toList == (bysL b).toList) = decide (a = b) := by
  rw [bysL_toList, bysL_toList]
  by_cases h : a = b <;> simp [h]
theorem l16 : lowF Tryd.prog Tryd.f16 = some c16 := by kernel_rfl
set_option maxRecDepth 100000 in
set_option maxHeartbeats 8000000 in
theorem rname_body (t : Txt) (ht : t.length ≤ 4194304) : body Tryd.prog c16 [vT t] [] (fun r m => r = vBool (nameOk t)) := by
  refine loop_keep (fun k => k ≤ t.length ∧ ∀ j (hj : j < t.length), j < k → okN t[j].toNat = true) [0] (fun k => [(6, vInt .i64 (t.length : Nat)), (7, vInt .i64 (k : Nat))]) (fun _ => []) (fun k => t.length - k) 0 ⟨Nat.zero_le _, fun j _ h => absurd h (Nat.not_lt_zero _)⟩ ?_ (fun k hk => ?_)
  · refine View.of 0 [] [] rfl rfl rfl rfl rfl rfl ?_ (.nil _)
    repeat (first | exact .nil | refine .junk ?_ | refine .eq rfl ?_ | refine .put (.ren (by rw [bysL_sizeI]; rfl)) ?_)
  obtain ⟨hk, hall⟩ : k ≤ t.length ∧ ∀ j (hj : j < t.length), j < k → okN t[j].toNat = true := hk
  refine bB_dec (fun h5 => ?_) (fun h5 => ?_)
  · have hlt : k < t.length := by
      have h5 : (k : Int) < (t.length : Int) := h5
      omega
    refine ok_some (getT hlt) ?_
    repeat' first | refine bB_dec (fun _ => ?_) (fun _ => ?_) | refine bB_bne (fun _ => ?_) (fun _ => ?_) | refine bB_ndec (fun _ => ?_) (fun _ => ?_)
    all_goals first
      | (show vBool false = vBool (nameOk t)
         rw [nameOk_bad hlt (okN_f (by omega) (by omega) (by omega) (by omega))])
      | (refine ⟨k + 1, ⟨hlt, fun j hj hjk => ?_⟩, (show t.length - (k + 1) < t.length - k by omega), View.of 0 [] [] rfl rfl rfl rfl rfl rfl ?_ (.nil _)⟩
         · rcases Nat.lt_or_ge j k with h | h
           · exact hall j hj h
           · have : j = k := by omega
             subst this
             exact okN_t (by omega)
         · repeat (first | exact .nil | refine .junk ?_ | refine .put (.ren (next_i64 (by omega)).symm) ?_ | refine .eq rfl ?_))
  · have h5 : ¬ (k : Int) < (t.length : Int) := h5
    have hall' : (t.all fun c => okN c.toNat) = true := by
      rw [List.all_eq_true]
      intro c hc
      obtain ⟨j, hj, rfl⟩ := List.mem_iff_getElem.1 hc
      exact hall j hj (by omega)
    refine bB_dec (fun h1 => ?_) (fun h1 => ?_)
    · rw [bysL_sizeI] at h1
      refine bB_dec (fun h2 => ?_) (fun h2 => ?_)
      · rw [bysL_sizeI] at h2
        refine bB_nstr (b := [46]) (fun h3 => ?_) (fun h3 => ?_)
        · show vBool (!((bysL t).toList == (bysL [46, 46]).toList)) = _
          rw [strB]
          have a1 : 1 ≤ t.length := by omega
          have a2 : t.length ≤ 12 := by omega
          simp [nameOk, hall', a1, a2, h3, vBool]
        · subst h3; rfl
      · rw [bysL_sizeI] at h2
        have : nameOk t = false := by simp [nameOk]; omega
        rw [this]; rfl
    · rw [bysL_sizeI] at h1
      have : nameOk t = false := by simp [nameOk]; omega
      rw [this]; rfl
theorem rname_ok (t : Txt) (ht : t.length ≤ 4194304) {m : Mem} {K : CV → Mem → Prop} (h : K (vBool (nameOk t)) m) : ACall Tryd.prog 16 [vT t] m K :=
  acall_val Tryd.func16 l16 rfl (Nat.le_of_ble_eq_true rfl) (rname_body t ht) rfl rfl h
end Pth

def c26 : LF := ⟨37, [.cell false 1 2, .cell false 1 3, .cell false 1 4], (.seq (.reg [
    ⟨(some 2), .alloc [.esl], none⟩,
    ⟨(some 3), .alloc [(.dat (.val (.bool false)))], none⟩,
    ⟨(some 4), .alloc [(.dat (.val (.int .i64 (0))))], none⟩]) (.seq (.seq (.reg [
    ⟨(some 7), .mov (.t 0), none⟩,
    ⟨(some 8), .bin .eql (.t 7) (.c (.rv (.one (.dat (.val (.string ⟨#[]⟩)))))), none⟩]) (.cond (.t 8) (.seq (.reg [
    ⟨none, .store 1 (.t 2) (.c (.rv (.one .esl))), none⟩,
    ⟨none, .store 1 (.t 3) (.c (.rv (.one (.dat (.val (.bool false)))))), none⟩,
    ⟨none, .store 1 (.t 4) (.c (.rv (.one (.dat (.val (.int .i64 (2))))))), none⟩]) .ret) .skip)) (.seq (.seq (.reg [
    ⟨(some 9), .mov (.t 0), none⟩,
    ⟨(some 10), .len 0 (.t 9), none⟩,
    ⟨(some 11), .bin .gtr (.t 10) (.c (.rv (.one (.dat (.val (.int .i64 (60))))))), none⟩]) (.cond (.t 11) (.seq (.reg [
    ⟨none, .store 1 (.t 2) (.c (.rv (.one .esl))), none⟩,
    ⟨none, .store 1 (.t 3) (.c (.rv (.one (.dat (.val (.bool false)))))), none⟩,
    ⟨none, .store 1 (.t 4) (.c (.rv (.one (.dat (.val (.int .i64 (4))))))), none⟩]) .ret) .skip)) (.seq (.reg [
    ⟨(some 5), .alloc [.esl], none⟩]) (.seq (.seq (.reg [
    ⟨(some 12), .mov (.t 0), none⟩,
    ⟨(some 13), .call (.c (.rv (.one (.fn 30 [])))) [(.t 12), (.c (.rv (.one (.dat (.val (.string ⟨#[47]⟩))))))], none⟩]) (.block 0 (.rfun (.t 13) 14 (.reg [
    ⟨(some 6), .mov (.t 14), none⟩]) (.block 1 (.block 2 (.seq (.reg [
    ⟨(some 16), .mov (.t 6), none⟩,
    ⟨(some 17), .bin .eql (.t 16) (.c (.rv (.one (.dat (.val (.string ⟨#[]⟩)))))), none⟩,
    ⟨(some 18), .mov (.t 17), none⟩,
    ⟨(some 19), .mov (.t 6), (some (18, false))⟩,
    ⟨(some 20), .bin .eql (.t 19) (.c (.rv (.one (.dat (.val (.string ⟨#[46]⟩)))))), (some (18, false))⟩,
    ⟨(some 21), .pick (.t 18) (.c (.rv (.one (.dat (.val (.bool true)))))) (.t 20), none⟩,
    ⟨(some 15), .mov (.t 21), none⟩]) (.cond (.t 15) .skip (.seq (.reg [
    ⟨(some 23), .mov (.t 6), none⟩,
    ⟨(some 24), .bin .eql (.t 23) (.c (.rv (.one (.dat (.val (.string ⟨#[46, 46]⟩)))))), none⟩,
    ⟨(some 25), .mov (.t 24), none⟩,
    ⟨(some 26), .mov (.t 6), (some (25, false))⟩,
    ⟨(some 27), .call (.c (.rv (.one (.fn 31 [])))) [(.t 26)], (some (25, false))⟩,
    ⟨(some 28), .pick (.t 25) (.c (.rv (.one (.dat (.val (.bool true)))))) (.t 27), none⟩,
    ⟨(some 22), .mov (.t 28), none⟩]) (.cond (.t 22) (.reg [
    ⟨(some 29), .load false 1 (.t 5), none⟩,
    ⟨(some 30), .mov (.t 6), none⟩,
    ⟨(some 31), .bsl 1 [(.dat (.val (.string ⟨#[]⟩)))] 1 [(0, (.t 30))], none⟩,
    ⟨(some 32), .app 1 16 (.t 29) (.t 31), none⟩,
    ⟨none, .store 1 (.t 5) (.t 32), none⟩]) (.seq (.reg [
    ⟨none, .store 1 (.t 2) (.c (.rv (.one .esl))), none⟩,
    ⟨none, .store 1 (.t 3) (.c (.rv (.one (.dat (.val (.bool false)))))), none⟩,
    ⟨none, .store 1 (.t 4) (.c (.rv (.one (.dat (.val (.int .i64 (7))))))), none⟩]) .ret)))))))))) (.seq (.draw [
    ⟨(some 33), .load false 1 (.t 5), none⟩,
    ⟨(some 34), .mov (.t 0), none⟩,
    ⟨(some 35), .sidx (.t 34) (.c (.rv (.one (.dat (.val (.int .i64 (0))))))), none⟩,
    ⟨(some 36), .bin .eql (.t 35) (.c (.rv (.one (.dat (.val (.int .u8 (47))))))), none⟩,
    ⟨none, .store 1 (.t 2) (.t 33), none⟩,
    ⟨none, .store 1 (.t 3) (.t 36), none⟩,
    ⟨none, .store 1 (.t 4) (.c (.rv (.one (.dat (.val (.int .i64 (0))))))), none⟩]
    [(.cons 0 none (.cons 1 none (.cons 2 none (.cons 3 none (.cons 4 (some []) (.cons 5 (some []) (.cons 6 (some []) .nil)))))))]) .ret))))))⟩
def c30 : LF := ⟨8, [.tmp 4], (.seq (.reg [
    ⟨(some 4), .mov (.c (.rv (.one (.dat (.val .nilFunc))))), none⟩]) (.seq (.reg [
    ⟨(some 5), .mov (.t 0), none⟩,
    ⟨(some 6), .mov (.t 1), none⟩,
    ⟨(some 7), .call (.c (.rv (.one (.fn 35 [])))) [(.t 5), (.t 6), (.c (.rv (.one (.dat (.val (.int .i64 (0)))))))], none⟩,
    ⟨(some 4), .mov (.t 7), none⟩]) .ret))⟩
def c35 : LF := ⟨8, [.tmp 6], (.seq (.reg [
    ⟨(some 3), .box (.t 0), none⟩,
    ⟨(some 4), .box (.t 1), none⟩,
    ⟨(some 5), .box (.t 2), none⟩,
    ⟨(some 6), .mov (.c (.rv (.one (.dat (.val .nilFunc))))), none⟩]) (.seq (.reg [
    ⟨(some 7), .fn 39 [(.t 4), (.t 3), (.t 5)], none⟩,
    ⟨(some 6), .mov (.t 7), none⟩]) .ret))⟩
namespace Pth
theorem l35 : lowF Tryd.prog Tryd.f35 = some c35 := by kernel_rfl
theorem l30 : lowF Tryd.prog Tryd.f30 = some c30 := by kernel_rfl
def strC (s : ByteArray) : Bk := .var [.dat (.val (.string s))]
def sqM (s sep : ByteArray) (b0 b1 b2 b3 : Bk) : Mem := [b0, b1, b2, b3, strC s, strC sep, .var [.dat (.val (.int .i64 0))]]
set_option maxRecDepth 100000 in
theorem sq43 (s sep : ByteArray) {b0 b1 b2 b3 : Bk} {K : CV → Mem → Prop} (h : K (.rv (.one (.fn 39 [5, 4, 6]))) (sqM s sep b0 b1 b2 b3)) : ACall Tryd.prog 35 [vStr s, vStr sep, vInt .i64 0] [b0, b1, b2, b3] K :=
  acall_body Tryd.func35 l35 rfl (Nat.le_of_ble_eq_true rfl) h
set_option maxRecDepth 100000 in
theorem sq38 (s sep : ByteArray) {b0 b1 b2 b3 : Bk} {K : CV → Mem → Prop} (h : K (.rv (.one (.fn 39 [5, 4, 6]))) (sqM s sep b0 b1 b2 b3)) : ACall Tryd.prog 30 [vStr s, vStr sep] [b0, b1, b2, b3] K := by
  refine acall_body Tryd.func30 l30 rfl (Nat.le_of_ble_eq_true rfl) ?_
  exact sq43 s sep h
theorem cutL_len (c : UInt8) : ∀ t : Txt, (cutL c t).length ≤ t.length + 1
  | [] => by simp [cutL]
  | x :: r => by
    have ih := cutL_len c r
    simp only [cutL]
    split
    · simp; exact ih
    · split
      · simp
      · rename_i h
        rw [h] at ih
        simp at ih ⊢
        omega
theorem dRows_append (a b : List (List Dt)) : dRows (a ++ b) = dRows a ++ dRows b := by simp [dRows]
theorem first47 (c : UInt8) (r : Txt) : decide ((c :: r)[0]? = some 47) = ((c.toNat : Int) == 47) := by
  by_cases h : c = 47
  · subst h; rfl
  · have h2 : (c.toNat : Int) ≠ 47 := by
      intro e
      have e2 : c.toNat = (47 : UInt8).toNat := by
        show c.toNat = 47
        omega
      exact h (UInt8.toNat_inj.1 e2)
    simp [h, h2]
theorem l26 : lowF Tryd.prog Tryd.f26 = some c26 := by kernel_rfl
def tD (t : Txt) : List Dt := [.val (.string (bysL t))]
def txD (l : List Txt) : Dt := .sl 1 (l.map tD)
def txV (l : List Txt) : CV := .rv (.one (.dat (txD l)))
def keepT (w : Txt) : Bool := !(decide (w = []) || decide (w = [46]))
def goodT (w : Txt) : Bool := decide (w = []) || decide (w = [46]) || decide (w = [46, 46]) || nameOk w
def partsS (t : Txt) : List Txt := (cutL 47 t).filter keepT
/-- what a path's parts are -/
def splitS (t : Txt) : List Txt × Bool × Int :=
  if t = [] then ([], false, 2) else if 60 < t.length then ([], false, 4) else if (cutL 47 t).all goodT then (partsS t, decide (t[0]? = some 47), 0) else ([], false, 7)
def spRV (p : List Txt × Bool × Int) : CV := .tup [.one (.dat (txD p.1)), .one (.dat (.val (.bool p.2.1))), .one (.dat (.val (.int .i64 p.2.2)))]
def pt (id : Nat) : CV := .rv (.one (.ptr id 0))
def spE (t : Txt) : List CV := vT t :: .junk :: pt 0 :: pt 1 :: pt 2 :: pt 3 :: repl 31 .junk
def spM : List Txt → Mem
  | [] => [.var [.esl], .var [.dat (.val (.bool false))], .var [.dat (.val (.int .i64 0))], .var [.esl]]
  | x :: r => [.var [.esl], .var [.dat (.val (.bool false))], .var [.dat (.val (.int .i64 0))], .var [.row 4 1 0 none], .row 1 (dRows ((x :: r).map tD))]
theorem pieces_get {c : UInt8} {t : Txt} {k : Nat} {y : ByteArray} (h : (pieces c (bysL t))[k]? = some y) : ∃ w, (cutL c t)[k]? = some w ∧ y = bysL w := by
  simp only [pieces, bysL_data, List.getElem?_map] at h
  cases hc : (cutL c t)[k]? with
  | none => rw [hc] at h; cases h
  | some w => rw [hc] at h; cases h; exact ⟨w, rfl, rfl⟩
theorem frz3 {m : Mem} {c : CC} {l : List Txt} {b : Bool} {e : Int} (h : FrzC m c (.dat (txD l))) : FrzV m (.tup [.one c, .one (.dat (.val (.bool b))), .one (.dat (.val (.int .i64 e)))]) (spRV (l, b, e)) := by
  refine .tup rfl fun i r r' h1 h2 => ?_
  match i with
  | 0 => cases h1; cases h2; exact .one h
  | 1 => cases h1; cases h2; exact .one (.dat _)
  | 2 => cases h1; cases h2; exact .one (.dat _)
  | n + 3 => simp at h1
set_option maxRecDepth 100000 in
set_option maxHeartbeats 8000000 in
theorem split_body (t : Txt) : body Tryd.prog c26 [vT t] [] (fun r m => FrzV m r (spRV (splitS t))) := by
  refine bB_str (b := []) (fun h => ?_) (fun h0 => ?_)
  · subst h
    exact frz3 (.esl 1)
  refine bB_dec (fun h => ?_) (fun h1 => ?_)
  · rw [bysL_sizeI] at h
    have : splitS t = ([], false, 4) := by rw [splitS, if_neg h0, if_pos (by omega)]
    rw [this]
    exact frz3 (.esl 1)
  rw [bysL_sizeI] at h1
  refine sq38 (bysL t) ⟨#[47]⟩ ?_
  refine ⟨39, [5, 4, 6], [.string ⟨#[47]⟩, .string (bysL t), .int .i64 0], pieces 47 (bysL t), List Txt, fun k out => out = ((cutL 47 t).take k).filter keepT ∧ ((cutL 47 t).take k).all goodT = true, fun out => ⟨spE t, spM out⟩, rfl,
    ⟨⟨rfl, rfl⟩, ⟨rfl, rfl⟩, ⟨rfl, rfl⟩, trivial⟩, ⟨by decide, by simp⟩, split_seq (bysL t) 47 (by rw [bysL_sizeI]; omega), ⟨[], ⟨by simp, by simp⟩, ?_⟩, ?_, ?_⟩
  · refine View.of 7 [0, 1, 2, 3] [] rfl rfl rfl rfl rfl rfl ?_ ?_
    · repeat (first | exact .nil | refine .junk ?_ | refine .eq rfl ?_)
    · repeat (first | exact .nil _ | refine .put (by simp [memN]) rfl (.eq rfl (by simp)) ?_)
  · intro k y out hk hJ
    obtain ⟨w, hw, rfl⟩ := pieces_get hk
    obtain ⟨ho, hg⟩ := hJ
    have htk : (cutL 47 t).take (k + 1) = (cutL 47 t).take k ++ [w] := by rw [List.take_add_one, hw]; rfl
    have skip : w = [] ∨ w = [46] → out = ((cutL 47 t).take (k + 1)).filter keepT ∧ ((cutL 47 t).take (k + 1)).all goodT = true := by
      intro h
      rw [htk, List.filter_append, List.all_append, ← ho, hg]
      rcases h with rfl | rfl <;> simp [keepT, goodT]
    have keep : w ≠ [] → w ≠ [46] → (w = [46, 46] ∨ nameOk w = true) → out ++ [w] = ((cutL 47 t).take (k + 1)).filter keepT ∧ ((cutL 47 t).take (k + 1)).all goodT = true := by
      intro h1 h2 h3
      rw [htk, List.filter_append, List.all_append, ← ho, hg]
      rcases h3 with rfl | h3
      · simp [keepT, goodT]
      · simp [keepT, goodT, h1, h2, h3]
    have bad : w ≠ [] → w ≠ [46] → w ≠ [46, 46] → nameOk w = false → splitS t = ([], false, 7) := by
      intro h1 h2 h3 h4
      have : (cutL 47 t).all goodT = false := by
        rw [List.all_eq_false]
        exact ⟨w, List.mem_of_getElem? hw, by simp [goodT, h1, h2, h3, h4]⟩
      rw [splitS, if_neg h0, if_neg (by omega), this]
      rfl
    have hlen : out.length ≤ 61 := by
      rw [ho]
      have h2 := List.length_filter_le keepT ((cutL 47 t).take k)
      have h3 := cutL_len 47 t
      have h4 : ((cutL 47 t).take k).length ≤ (cutL 47 t).length := by rw [List.length_take]; omega
      omega
    clear ho hg htk hk
    cases out with
    | nil =>
      have same : View 0 ⟨spE t, spM []⟩ ⟨spE t, spM []⟩ := by
        refine View.of 4 [0, 1, 2, 3] [] rfl rfl rfl rfl rfl rfl ?_ ?_
        · repeat (first | exact .nil | refine .junk ?_ | refine .eq rfl ?_)
        · repeat (first | exact .nil _ | refine .put (by simp [memN]) rfl (.eq rfl (by simp)) ?_)
      have fin : ∀ m, m = ([.var [.esl], .var [.dat (.val (.bool false))], .var [.dat (.val (.int .i64 0))], .var [.row 5 1 0 none], .dead, .row 1 ([] ++ [[.dat (.val (.string (bysL w)))]])] : Mem) → View 0 ⟨spE t, m⟩ ⟨spE t, spM ([] ++ [w])⟩ := by
        rintro m rfl
        refine View.of 6 [0, 1, 2, 3, 5] [] rfl rfl rfl rfl rfl rfl ?_ ?_
        · repeat (first | exact .nil | refine .junk ?_ | refine .eq rfl ?_)
        · repeat (first | exact .nil _ | refine .put (by simp [memN]) rfl (.eq rfl (by simp)) ?_)
      refine bB_str (b := []) (fun e1 => ?_) (fun e1 => ?_)
      · exact ⟨[], skip (.inl e1), same⟩
      refine bB_str (b := [46]) (fun e2 => ?_) (fun e2 => ?_)
      · exact ⟨[], skip (.inr e2), same⟩
      refine bB_str (b := [46, 46]) (fun e3 => ?_) (fun e3 => ?_)
      · exact ⟨(show 1 * 16 ≤ 140737488355328 by omega), _, keep e1 e2 (.inl e3), fin _ rfl⟩
      · refine name_ok w ?_
        refine bB_split (fun e4 => ?_) (fun e4 => ?_)
        · exact ⟨(show 1 * 16 ≤ 140737488355328 by omega), _, keep e1 e2 (.inr e4), fin _ rfl⟩
        · rw [bad e1 e2 e3 e4]
          exact frz3 (.esl 1)
    | cons x r =>
      have same : View 0 ⟨spE t, spM (x :: r)⟩ ⟨spE t, spM (x :: r)⟩ := by
        refine View.of 5 [0, 1, 2, 3, 4] [] rfl rfl rfl rfl rfl rfl ?_ ?_
        · repeat (first | exact .nil | refine .junk ?_ | refine .eq rfl ?_)
        · refine .put (by simp [memN]) rfl (.eq rfl (by simp)) (.put (by simp [memN]) rfl (.eq rfl (by simp)) (.put (by simp [memN]) rfl (.eq rfl (by simp)) (.put (by simp [memN]) rfl (.eq rfl (by simp)) (.put (by simp [memN]) rfl (.rowDE rfl) (.nil _)))))
      have fin : ∀ m, m = ([.var [.esl], .var [.dat (.val (.bool false))], .var [.dat (.val (.int .i64 0))], .var [.row 6 1 0 none], .dead, .dead, .row 1 (dRows ((x :: r).map tD) ++ [[.dat (.val (.string (bysL w)))]])] : Mem) → View 0 ⟨spE t, m⟩ ⟨spE t, spM ((x :: r) ++ [w])⟩ := by
        rintro m rfl
        refine View.of 7 [0, 1, 2, 3, 6] [] rfl rfl rfl rfl rfl rfl ?_ ?_
        · repeat (first | exact .nil | refine .junk ?_ | refine .eq rfl ?_)
        · refine .put (by simp [memN]) rfl (.eq rfl (by simp)) (.put (by simp [memN]) rfl (.eq rfl (by simp)) (.put (by simp [memN]) rfl (.eq rfl (by simp)) (.put (by simp [memN]) rfl (.eq rfl (by simp)) (.put (by simp [memN]) rfl (.rowDE ?_) (.nil _)))))
          show _ = dRows (((x :: r) ++ [w]).map tD)
          rw [List.map_append, dRows_append]
          rfl
      have big : ((dRows ((x :: r).map tD)).length + 1) * 16 ≤ 140737488355328 := by
        simp [dRows]
        simp at hlen
        omega
      refine bB_str (b := []) (fun e1 => ?_) (fun e1 => ?_)
      · exact ⟨_, skip (.inl e1), same⟩
      refine bB_str (b := [46]) (fun e2 => ?_) (fun e2 => ?_)
      · exact ⟨_, skip (.inr e2), same⟩
      refine bB_str (b := [46, 46]) (fun e3 => ?_) (fun e3 => ?_)
      · exact ⟨big, _, keep e1 e2 (.inl e3), fin _ rfl⟩
      · refine name_ok w ?_
        refine bB_split (fun e4 => ?_) (fun e4 => ?_)
        · exact ⟨big, _, keep e1 e2 (.inr e4), fin _ rfl⟩
        · rw [bad e1 e2 e3 e4]
          exact frz3 (.esl 1)
  · intro out hJ
    obtain ⟨ho, hg⟩ := hJ
    have hpl : (pieces 47 (bysL t)).length = (cutL 47 t).length := by simp [pieces]
    rw [hpl, List.take_length] at ho hg
    have hs : splitS t = (out, decide (t[0]? = some 47), 0) := by
      rw [splitS, if_neg h0, if_neg (by omega), hg]
      simp [partsS, ho]
    rw [hs]
    obtain ⟨c, r, rfl⟩ : ∃ c r, t = c :: r := by
      cases t with
      | nil => exact absurd rfl h0
      | cons c r => exact ⟨c, r, rfl⟩
    have hc : decide ((c :: r)[0]? = some 47) = ((c.toNat : Int) == 47) := first47 c r
    cases out with
    | nil =>
      rw [hc]
      refine ⟨trivial, trivial, trivial, ?_⟩
      exact frz3 (l := []) (c := .esl) (.esl 1)
    | cons x r =>
      rw [hc]
      refine ⟨trivial, trivial, trivial, ?_⟩
      exact frz3 (l := x :: r) (c := .row 4 1 0 none) (FrzC.rowD (ds := (x :: r).map tD) rfl 0 none)
theorem split_ok (t : Txt) {m : Mem} {K : CV → Mem → Prop} (h : K (spRV (splitS t)) m) : ACall Tryd.prog 26 [vT t] m K :=
  acall_frame (acall_body Tryd.func26 l26 rfl (Nat.le_of_ble_eq_true rfl) (split_body t)) (by simp [vT, vStr, CV.isD, CC.isD]) fun r m1 hf => ⟨_, hf, h⟩
end Pth

def c29 : LF := ⟨40, [.tmp 4], (.seq (.reg [
    ⟨(some 4), .mov (.c (.rv (.one .esl))), none⟩]) (.seq (.reg [
    ⟨(some 7), .bsl 1 [(.dat (.val (.string ⟨#[]⟩)))] 1 [(0, (.c (.rv (.one (.dat (.val (.string ⟨#[]⟩)))))))], none⟩,
    ⟨(some 5), .mov (.t 7), none⟩]) (.seq (.seq (.reg [
    ⟨(some 8), .mov (.t 0), none⟩,
    ⟨(some 9), .len 0 (.t 8), none⟩,
    ⟨(some 10), .mov (.c (.rv (.one (.dat (.val (.int .i64 (0))))))), none⟩]) (.block 0 (.loop (.seq (.reg [
    ⟨(some 11), .bin .lss (.t 10) (.t 9), none⟩]) (.seq (.cond (.t 11) .skip (.exit 0)) (.seq (.block 1 (.seq (.reg [
    ⟨(some 12), .mov (.t 10), none⟩,
    ⟨(some 6), .mov (.t 12), none⟩]) (.seq (.reg [
    ⟨(some 13), .mov (.t 0), none⟩,
    ⟨(some 14), .mov (.t 6), none⟩,
    ⟨(some 15), .sidx (.t 13) (.t 14), none⟩,
    ⟨(some 16), .mov (.t 1), none⟩,
    ⟨(some 17), .bin .eql (.t 15) (.t 16), none⟩]) (.cond (.t 17) (.reg [
    ⟨(some 18), .mov (.t 5), none⟩,
    ⟨(some 19), .bsl 1 [(.dat (.val (.string ⟨#[]⟩)))] 1 [(0, (.c (.rv (.one (.dat (.val (.string ⟨#[]⟩)))))))], none⟩,
    ⟨(some 20), .app 1 16 (.t 18) (.t 19), none⟩,
    ⟨(some 5), .mov (.t 20), none⟩]) (.draw [
    ⟨(some 21), .mov (.t 5), none⟩,
    ⟨(some 22), .mov (.t 5), none⟩,
    ⟨(some 23), .len 1 (.t 22), none⟩,
    ⟨(some 24), .bin .sub (.t 23) (.c (.rv (.one (.dat (.val (.int .i64 (1))))))), none⟩,
    ⟨(some 25), .mov (.t 5), none⟩,
    ⟨(some 26), .mov (.t 5), none⟩,
    ⟨(some 27), .len 1 (.t 26), none⟩,
    ⟨(some 28), .bin .sub (.t 27) (.c (.rv (.one (.dat (.val (.int .i64 (1))))))), none⟩,
    ⟨(some 29), .idx 1 (.t 25) (.t 28), none⟩,
    ⟨(some 30), .load false 1 (.t 29), none⟩,
    ⟨(some 31), .mov (.t 0), none⟩,
    ⟨(some 32), .mov (.t 6), none⟩,
    ⟨(some 33), .mov (.t 6), none⟩,
    ⟨(some 34), .bin .add (.t 33) (.c (.rv (.one (.dat (.val (.int .i64 (1))))))), none⟩,
    ⟨(some 35), .strs (.t 31) (some (.t 32)) (some (.t 34)), none⟩,
    ⟨(some 36), .bin .add (.t 30) (.t 35), none⟩,
    ⟨(some 37), .idx 1 (.t 21) (.t 24), none⟩,
    ⟨none, .store 1 (.t 37) (.t 36), none⟩]
    [(.cons 0 none (.cons 1 none (.cons 2 none (.cons 3 none (.cons 4 none (.cons 5 none (.cons 6 none (.cons 7 none (.cons 8 none (.cons 9 none (.cons 10 none (.cons 11 none (.cons 12 none (.cons 13 none (.cons 14 none (.cons 15 none (.cons 16 none (.cons 17 (some []) .nil))))))))))))))))))]))))) (.reg [
    ⟨(some 38), .bin .add (.t 10) (.c (.rv (.one (.dat (.val (.int .i64 (1))))))), none⟩,
    ⟨(some 10), .mov (.t 38), none⟩]))))))) (.seq (.reg [
    ⟨(some 39), .mov (.t 5), none⟩,
    ⟨(some 4), .mov (.t 39), none⟩]) .ret))))⟩
namespace Pth
theorem cutL_last (c : UInt8) (t : Txt) : ∃ f e, cutL c t = f ++ [e] := by
  have h := cutL_ne c t
  exact ⟨(cutL c t).dropLast, (cutL c t).getLast h, (List.dropLast_concat_getLast h).symm⟩
theorem cutL_snoc_eq {c : UInt8} : ∀ {t : Txt}, cutL c (t ++ [c]) = cutL c t ++ [[]]
  | [] => by simp [cutL]
  | x :: r => by
    have ih := cutL_snoc_eq (c := c) (t := r)
    simp only [List.cons_append, cutL, ih]
    split
    · rfl
    · cases h : cutL c r with
      | nil => exact absurd h (cutL_ne c r)
      | cons p ps => simp
theorem cutL_snoc_ne {c x : UInt8} (hx : x ≠ c) : ∀ {t : Txt} {f : List Txt} {e : Txt}, cutL c t = f ++ [e] → cutL c (t ++ [x]) = f ++ [e ++ [x]]
  | [], f, e, h => by
    have hf : f = [] ∧ e = [] := by
      cases f with
      | nil => simp [cutL] at h; exact ⟨rfl, h⟩
      | cons a b => simp [cutL] at h
    obtain ⟨rfl, rfl⟩ := hf
    simp [cutL, hx]
  | y :: r, f, e, h => by
    simp only [cutL] at h
    simp only [List.cons_append, cutL]
    split
    · rename_i hy
      rw [if_pos hy] at h
      cases f with
      | nil =>
        simp at h
        exact absurd h.2 (cutL_ne c r)
      | cons a b =>
        simp at h
        obtain ⟨rfl, h⟩ := h
        rw [cutL_snoc_ne hx h]
        rfl
    · rename_i hy
      rw [if_neg hy] at h
      cases hc : cutL c r with
      | nil => exact absurd hc (cutL_ne c r)
      | cons p ps =>
        rw [hc] at h
        simp only at h
        cases f with
        | nil =>
          simp at h
          obtain ⟨rfl, rfl⟩ := h
          rw [cutL_snoc_ne hx (f := []) (e := p) (by rw [hc]; rfl)]
          rfl
        | cons a b =>
          simp at h
          obtain ⟨rfl, rfl⟩ := h
          rw [cutL_snoc_ne hx (f := p :: b) (e := e) (by rw [hc]; rfl)]
          rfl
theorem cutL_mem_len (c : UInt8) : ∀ (t : Txt) (w : Txt), w ∈ cutL c t → w.length ≤ t.length
  | [], w, h => by simp [cutL] at h; simp [h]
  | x :: r, w, h => by
    have ih := cutL_mem_len c r
    simp only [cutL] at h
    split at h
    · rcases List.mem_cons.1 h with rfl | h
      · simp
      · have := ih w h
        simp
        omega
    · cases hc : cutL c r with
      | nil => exact absurd hc (cutL_ne c r)
      | cons p ps =>
        rw [hc] at h ih
        rcases List.mem_cons.1 h with rfl | h
        · have := ih p (by simp)
          simpa using this
        · have := ih w (by simp [h])
          simp
          omega
theorem binV_add {a b : Txt} (h : a.length + b.length ≤ 4611686018427387904) : binV .add (.string (bysL a)) (.string (bysL b)) = some (.string (bysL (a ++ b))) := by
  simp only [binV]
  rw [decide_eq_false (by rw [bysL_size, bysL_size]; show ¬ (((a.length + b.length : Nat) : Int) > 9223372036854775807); omega)]
  rw [bysL_add]
theorem dRows_len (l : List (List Dt)) : (dRows l).length = l.length := by simp [dRows]
theorem l29 : lowF Tryd.prog Tryd.f29 = some c29 := by kernel_rfl
def rowT (l : List Txt) : Bk := .row 1 (dRows (l.map tD))
set_option maxRecDepth 100000 in
set_option maxHeartbeats 8000000 in
theorem cut_body (t : Txt) (c : UInt8) (ht : t.length ≤ 4194304) : body Tryd.prog c29 [vT t, vInt .u8 c.toNat] [] (fun r m => FrzV m r (txV (cutL c t))) := by
  refine loop_keep (fun k => k ≤ t.length) [0, 1] (fun k => [(5, .rv (.one (.row 0 1 0 none))), (9, vInt .i64 (t.length : Nat)), (10, vInt .i64 (k : Nat))]) (fun k => [rowT (cutL c (t.take k))]) (fun k => t.length - k) 0 (Nat.zero_le _) ?_ (fun k hk => ?_)
  · refine View.of 1 [0] [] rfl rfl rfl rfl rfl rfl ?_ ?_
    · repeat (first | exact .nil | refine .junk ?_ | refine .eq rfl ?_ | refine .put (.ren (by rw [bysL_sizeI]; rfl)) ?_)
    · exact .put (by simp [memN]) rfl (.rowDE rfl) (.nil _)
  have hk : k ≤ t.length := hk
  obtain ⟨f, e, hfe⟩ := cutL_last c (t.take k)
  show aw Tryd.prog _ _ _ ⟨_, [rowT (cutL c (t.take k))]⟩
  rw [hfe]
  refine bB_dec (fun h5 => ?_) (fun h5 => ?_)
  · have hlt : k < t.length := by
      have h5 : (k : Int) < (t.length : Int) := h5
      omega
    have htk : t.take (k + 1) = t.take k ++ [t[k]] := by rw [List.take_succ_eq_append_getElem hlt]
    refine ok_some (getT hlt) ?_
    refine bB_beq (fun h6 => ?_) (fun h6 => ?_)
    · have hc : t[k] = c := UInt8.toNat_inj.1 (by omega)
      refine ⟨?_, k + 1, hlt, (show t.length - (k + 1) < t.length - k by omega), View.of 3 [2] [] rfl rfl rfl rfl rfl rfl ?_ ?_⟩
      · show ((dRows ((f ++ [e]).map tD)).length + 1) * 16 ≤ _
        have := cutL_len c (t.take k)
        rw [hfe] at this
        have h4 : (t.take k).length ≤ t.length := by rw [List.length_take]; omega
        rw [dRows_len, List.length_map]
        omega
      · repeat (first | exact .nil | refine .junk ?_ | refine .put (.ren (next_i64 (by omega)).symm) ?_ | refine .eq rfl ?_)
      · refine .put (by simp [memN]) rfl (.rowDE ?_) (.nil _)
        rw [htk, hc, cutL_snoc_eq, hfe, List.map_append (l₂ := [[]]), dRows_append]
        rfl
    · have hc : t[k] ≠ c := fun e => h6 (by rw [e])
      have hn : (dRows ((f ++ [e]).map tD)).length = f.length + 1 := by rw [dRows_len, List.length_map]; simp
      have hfl : f.length ≤ t.length := by
        have := cutL_len c (t.take k)
        rw [hfe] at this
        have h4 : (t.take k).length ≤ t.length := by rw [List.length_take]; omega
        simp at this
        omega
      have hidx : idxZ (IntKind.i64.wrap (((dRows ((f ++ [e]).map tD)).length : Int) - 1)) (dRows ((f ++ [e]).map tD)).length = some f.length := by
        rw [hn, show (((f.length + 1 : Nat) : Int) - 1) = (f.length : Int) by omega, wrapN (by omega)]
        exact idxZ_nat (by omega)
      have hnth : nth (dRows ((f ++ [e]).map tD)) f.length = some [.dat (.val (.string (bysL e)))] := by
        rw [nth_eq]; simp [dRows, tD]
      have hx : (bysL t).extract k (k + 1) = bysL [t[k]] := by
        rw [bysL_extract t _ _ (by omega), htk, List.drop_append_of_le_length (by rw [List.length_take]; omega), List.drop_of_length_le (by rw [List.length_take]; omega)]
        rfl
      refine ok_some hidx ?_
      refine ok_some hnth ?_
      refine ok_some (x := k + 1) ?_ ?_
      · show natX (.rv (.one (.dat (.val (.int .i64 (IntKind.i64.wrap ((k : Int) + 1))))))) = _
        rw [next_i64 (by omega)]
        rfl
      refine bB_yes ?_ ?_
      · show (Nat.ble k (k + 1) && Nat.ble (k + 1) (bysL t).size) = true
        rw [Bool.and_eq_true, Nat.ble_eq, Nat.ble_eq, bysL_size]
        omega
      refine ok_some (x := .string (bysL (e ++ [t[k]]))) ?_ ?_
      · have he := cutL_mem_len c (t.take k) e (by rw [hfe]; simp)
        have h4 : (t.take k).length ≤ t.length := by rw [List.length_take]; omega
        rw [hx]
        exact binV_add (by simp; omega)
      refine ok_some hidx ?_
      refine ok_some hnth ?_
      refine ⟨trivial, k + 1, hlt, (show t.length - (k + 1) < t.length - k by omega), View.of 1 [0] [] rfl rfl rfl rfl rfl rfl ?_ ?_⟩
      · repeat (first | exact .nil | refine .junk ?_ | refine .put (.ren (next_i64 (by omega)).symm) ?_ | refine .eq rfl ?_)
      · refine .put (by simp [memN]) rfl (.rowDE ?_) (.nil _)
        rw [htk, cutL_snoc_ne hc hfe, List.map_append (l₂ := [e ++ [t[k]]]), dRows_append]
        rw [setN_eq]
        simp [dRows, tD, addN]
  · have h5 : ¬ (k : Int) < (t.length : Int) := h5
    have : t.take k = t := List.take_of_length_le (by omega)
    rw [this] at hfe
    rw [hfe]
    exact .rv (.one (FrzC.rowD (ds := (f ++ [e]).map tD) rfl 0 none))
theorem cut_ok (t : Txt) (c : UInt8) (ht : t.length ≤ 4194304) {m : Mem} {K : CV → Mem → Prop} (h : K (txV (cutL c t)) m) : ACall Tryd.prog 29 [vT t, vInt .u8 c.toNat] m K :=
  acall_frame (acall_body Tryd.func29 l29 rfl (Nat.le_of_ble_eq_true rfl) (cut_body t c ht)) (by simp [vT, vStr, vInt, CV.isD, CC.isD]) fun r m1 hf => ⟨_, hf, h⟩
end Pth

def c21 : LF := ⟨42, [.tmp 2, .tmp 3, .tmp 4], (.seq (.reg [
    ⟨(some 2), .mov (.c (.rv (.one .esl))), none⟩,
    ⟨(some 3), .mov (.c (.rv (.one (.dat (.val (.bool false)))))), none⟩,
    ⟨(some 4), .mov (.c (.rv (.one (.dat (.val (.int .i64 (0))))))), none⟩]) (.seq (.seq (.reg [
    ⟨(some 8), .mov (.t 0), none⟩,
    ⟨(some 9), .bin .eql (.t 8) (.c (.rv (.one (.dat (.val (.string ⟨#[]⟩)))))), none⟩]) (.cond (.t 9) (.seq (.reg [
    ⟨(some 2), .mov (.c (.rv (.one .esl))), none⟩,
    ⟨(some 3), .mov (.c (.rv (.one (.dat (.val (.bool false)))))), none⟩,
    ⟨(some 4), .mov (.c (.rv (.one (.dat (.val (.int .i64 (2))))))), none⟩]) .ret) .skip)) (.seq (.seq (.reg [
    ⟨(some 10), .mov (.t 0), none⟩,
    ⟨(some 11), .len 0 (.t 10), none⟩,
    ⟨(some 12), .bin .gtr (.t 11) (.c (.rv (.one (.dat (.val (.int .i64 (60))))))), none⟩]) (.cond (.t 12) (.seq (.reg [
    ⟨(some 2), .mov (.c (.rv (.one .esl))), none⟩,
    ⟨(some 3), .mov (.c (.rv (.one (.dat (.val (.bool false)))))), none⟩,
    ⟨(some 4), .mov (.c (.rv (.one (.dat (.val (.int .i64 (4))))))), none⟩]) .ret) .skip)) (.seq (.reg [
    ⟨(some 5), .mov (.c (.rv (.one .esl))), none⟩]) (.seq (.seq (.reg [
    ⟨(some 13), .mov (.t 0), none⟩,
    ⟨(some 14), .call (.c (.rv (.one (.fn 29 [])))) [(.t 13), (.c (.rv (.one (.dat (.val (.int .u8 (47)))))))], none⟩,
    ⟨(some 15), .len 1 (.t 14), none⟩,
    ⟨(some 16), .mov (.c (.rv (.one (.dat (.val (.int .i64 (0))))))), none⟩]) (.block 0 (.loop (.seq (.reg [
    ⟨(some 17), .bin .lss (.t 16) (.t 15), none⟩]) (.seq (.cond (.t 17) .skip (.exit 0)) (.seq (.block 1 (.seq (.reg [
    ⟨(some 18), .idx 1 (.t 14) (.t 16), none⟩,
    ⟨(some 19), .load false 1 (.t 18), none⟩,
    ⟨(some 7), .mov (.t 19), none⟩]) (.seq (.seq (.reg [
    ⟨(some 20), .mov (.t 7), none⟩,
    ⟨(some 21), .bin .eql (.t 20) (.c (.rv (.one (.dat (.val (.string ⟨#[]⟩)))))), none⟩,
    ⟨(some 22), .mov (.t 21), none⟩,
    ⟨(some 23), .mov (.t 7), (some (22, false))⟩,
    ⟨(some 24), .bin .eql (.t 23) (.c (.rv (.one (.dat (.val (.string ⟨#[46]⟩)))))), (some (22, false))⟩,
    ⟨(some 25), .pick (.t 22) (.c (.rv (.one (.dat (.val (.bool true)))))) (.t 24), none⟩]) (.cond (.t 25) (.exit 1) .skip)) (.seq (.seq (.reg [
    ⟨(some 26), .mov (.t 7), none⟩,
    ⟨(some 27), .bin .neq (.t 26) (.c (.rv (.one (.dat (.val (.string ⟨#[46, 46]⟩)))))), none⟩,
    ⟨(some 28), .mov (.t 27), none⟩,
    ⟨(some 29), .mov (.t 7), (some (28, true))⟩,
    ⟨(some 30), .call (.c (.rv (.one (.fn 16 [])))) [(.t 29)], (some (28, true))⟩,
    ⟨(some 31), .un .not (.t 30), (some (28, true))⟩,
    ⟨(some 32), .pick (.t 28) (.t 31) (.c (.rv (.one (.dat (.val (.bool false)))))), none⟩]) (.cond (.t 32) (.seq (.reg [
    ⟨(some 2), .mov (.c (.rv (.one .esl))), none⟩,
    ⟨(some 3), .mov (.c (.rv (.one (.dat (.val (.bool false)))))), none⟩,
    ⟨(some 4), .mov (.c (.rv (.one (.dat (.val (.int .i64 (7))))))), none⟩]) .ret) .skip)) (.reg [
    ⟨(some 33), .mov (.t 5), none⟩,
    ⟨(some 34), .mov (.t 7), none⟩,
    ⟨(some 35), .bsl 1 [(.dat (.val (.string ⟨#[]⟩)))] 1 [(0, (.t 34))], none⟩,
    ⟨(some 36), .app 1 16 (.t 33) (.t 35), none⟩,
    ⟨(some 5), .mov (.t 36), none⟩]))))) (.reg [
    ⟨(some 37), .bin .add (.t 16) (.c (.rv (.one (.dat (.val (.int .i64 (1))))))), none⟩,
    ⟨(some 16), .mov (.t 37), none⟩]))))))) (.seq (.draw [
    ⟨(some 38), .mov (.t 5), none⟩,
    ⟨(some 39), .mov (.t 0), none⟩,
    ⟨(some 40), .sidx (.t 39) (.c (.rv (.one (.dat (.val (.int .i64 (0))))))), none⟩,
    ⟨(some 41), .bin .eql (.t 40) (.c (.rv (.one (.dat (.val (.int .u8 (47))))))), none⟩,
    ⟨(some 2), .mov (.t 38), none⟩,
    ⟨(some 3), .mov (.t 41), none⟩,
    ⟨(some 4), .mov (.c (.rv (.one (.dat (.val (.int .i64 (0))))))), none⟩]
    [(.cons 0 none (.cons 1 none (.cons 2 none (.cons 3 none (.cons 4 none (.cons 5 none (.cons 6 none .nil)))))))]) .ret))))))⟩
namespace Pth
theorem l21 : lowF Tryd.prog Tryd.f21 = some c21 := by kernel_rfl
theorem tx_get {l : List Txt} {k : Nat} (h : k < l.length) : getZ (l.map tD) (k : Nat) = some (tD l[k]) := by
  rw [getZ_nat, List.getElem?_map, List.getElem?_eq_getElem h]; rfl
set_option maxRecDepth 100000 in
set_option maxHeartbeats 8000000 in
theorem rsplit_body (t : Txt) : body Tryd.prog c21 [vT t] [] (fun r m => FrzV m r (spRV (splitS t))) := by
  refine bB_str (b := []) (fun h => ?_) (fun h0 => ?_)
  · subst h
    exact frz3 (.esl 1)
  refine bB_dec (fun h => ?_) (fun h1 => ?_)
  · rw [bysL_sizeI] at h
    have : splitS t = ([], false, 4) := by rw [splitS, if_neg h0, if_pos (by omega)]
    rw [this]
    exact frz3 (.esl 1)
  rw [bysL_sizeI] at h1
  refine cut_ok t 47 (by omega) ?_
  have hcl := cutL_len 47 t
  refine loop_keep (fun k => k ≤ (cutL 47 t).length ∧ ((cutL 47 t).take k).all goodT = true) [0] (fun k => [(5, .rv (.one (.row 0 1 0 none))), (14, txV (cutL 47 t)), (15, vInt .i64 ((cutL 47 t).length : Nat)), (16, vInt .i64 (k : Nat))])
    (fun k => [rowT (((cutL 47 t).take k).filter keepT)]) (fun k => (cutL 47 t).length - k) 0 ⟨Nat.zero_le _, by simp⟩ ?_ (fun k hk => ?_)
  · refine View.trans (View.esl 5 1 0 rfl rfl rfl) (View.of 1 [0] [] rfl rfl rfl rfl rfl rfl ?_ ?_)
    · repeat (first | exact .nil | refine .junk ?_ | refine .eq rfl ?_ | refine .put (.ren (by rw [List.length_map]; rfl)) ?_)
    · exact .put (by simp [memN]) rfl (.rowDE rfl) (.nil _)
  obtain ⟨hk, hg⟩ : k ≤ (cutL 47 t).length ∧ ((cutL 47 t).take k).all goodT = true := hk
  refine bB_dec (fun h5 => ?_) (fun h5 => ?_)
  · have hlt : k < (cutL 47 t).length := by
      have h5 : (k : Int) < ((cutL 47 t).length : Int) := h5
      omega
    have htk : (cutL 47 t).take (k + 1) = (cutL 47 t).take k ++ [(cutL 47 t)[k]] := by rw [List.take_succ_eq_append_getElem hlt]
    refine ok_some (tx_get hlt) ?_
    have hw : (cutL 47 t)[k]? = some (cutL 47 t)[k] := List.getElem?_eq_getElem hlt
    generalize (cutL 47 t)[k] = w at htk hw
    have hwl := cutL_mem_len 47 t w (List.mem_of_getElem? hw)
    have skip : w = [] ∨ w = [46] → ((cutL 47 t).take (k + 1)).filter keepT = ((cutL 47 t).take k).filter keepT ∧ ((cutL 47 t).take (k + 1)).all goodT = true := by
      intro h
      rw [htk, List.filter_append, List.all_append, hg]
      rcases h with rfl | rfl <;> simp [keepT, goodT]
    have keep : w ≠ [] → w ≠ [46] → (w = [46, 46] ∨ nameOk w = true) → ((cutL 47 t).take (k + 1)).filter keepT = ((cutL 47 t).take k).filter keepT ++ [w] ∧ ((cutL 47 t).take (k + 1)).all goodT = true := by
      intro h1 h2 h3
      rw [htk, List.filter_append, List.all_append, hg]
      rcases h3 with rfl | h3
      · simp [keepT, goodT]
      · simp [keepT, goodT, h1, h2, h3]
    have bad : w ≠ [] → w ≠ [46] → w ≠ [46, 46] → nameOk w = false → splitS t = ([], false, 7) := by
      intro h1 h2 h3 h4
      have : (cutL 47 t).all goodT = false := by
        rw [List.all_eq_false]
        exact ⟨w, List.mem_of_getElem? hw, by simp [goodT, h1, h2, h3, h4]⟩
      rw [splitS, if_neg h0, if_neg (by omega), this]
      rfl
    have hlen : (((cutL 47 t).take k).filter keepT).length ≤ 61 := by
      have h2 := List.length_filter_le keepT ((cutL 47 t).take k)
      have h4 : ((cutL 47 t).take k).length ≤ (cutL 47 t).length := by rw [List.length_take]; omega
      omega
    have big : ((dRows ((((cutL 47 t).take k).filter keepT).map tD)).length + 1) * 16 ≤ 140737488355328 := by
      rw [dRows_len, List.length_map]
      omega
    refine bB_str (b := []) (fun e1 => ?_) (fun e1 => ?_)
    · refine ⟨k + 1, ⟨hlt, (skip (.inl e1)).2⟩, (show (cutL 47 t).length - (k + 1) < (cutL 47 t).length - k by omega), View.of 1 [0] [] rfl rfl rfl rfl rfl rfl ?_ ?_⟩
      · repeat (first | exact .nil | refine .junk ?_ | refine .put (.ren (next_i64 (by omega)).symm) ?_ | refine .eq rfl ?_)
      · exact .put (by simp [memN]) rfl (.rowDE (by rw [(skip (.inl e1)).1])) (.nil _)
    refine bB_str (b := [46]) (fun e2 => ?_) (fun e2 => ?_)
    · refine ⟨k + 1, ⟨hlt, (skip (.inr e2)).2⟩, (show (cutL 47 t).length - (k + 1) < (cutL 47 t).length - k by omega), View.of 1 [0] [] rfl rfl rfl rfl rfl rfl ?_ ?_⟩
      · repeat (first | exact .nil | refine .junk ?_ | refine .put (.ren (next_i64 (by omega)).symm) ?_ | refine .eq rfl ?_)
      · exact .put (by simp [memN]) rfl (.rowDE (by rw [(skip (.inr e2)).1])) (.nil _)
    refine bB_nstr (b := [46, 46]) (fun e3 => ?_) (fun e3 => ?_)
    · refine rname_ok w (by omega) ?_
      cases e4 : nameOk w with
      | true =>
        refine ⟨big, k + 1, ⟨hlt, (keep e1 e2 (.inr e4)).2⟩, (show (cutL 47 t).length - (k + 1) < (cutL 47 t).length - k by omega), View.of 3 [2] [] rfl rfl rfl rfl rfl rfl ?_ ?_⟩
        · repeat (first | exact .nil | refine .junk ?_ | refine .put (.ren (next_i64 (by omega)).symm) ?_ | refine .eq rfl ?_)
        · refine .put (by simp [memN]) rfl (.rowDE ?_) (.nil _)
          rw [(keep e1 e2 (.inr e4)).1, List.map_append, dRows_append]
          rfl
      | false =>
        rw [bad e1 e2 e3 e4]
        exact frz3 (.esl 1)
    · refine ⟨big, k + 1, ⟨hlt, (keep e1 e2 (.inl e3)).2⟩, (show (cutL 47 t).length - (k + 1) < (cutL 47 t).length - k by omega), View.of 3 [2] [] rfl rfl rfl rfl rfl rfl ?_ ?_⟩
      · repeat (first | exact .nil | refine .junk ?_ | refine .put (.ren (next_i64 (by omega)).symm) ?_ | refine .eq rfl ?_)
      · refine .put (by simp [memN]) rfl (.rowDE ?_) (.nil _)
        rw [(keep e1 e2 (.inl e3)).1, List.map_append, dRows_append]
        rfl
  · have h5 : ¬ (k : Int) < ((cutL 47 t).length : Int) := h5
    rw [List.take_of_length_le (by omega : (cutL 47 t).length ≤ k)] at hg
    have hs : splitS t = (((cutL 47 t).take k).filter keepT, decide (t[0]? = some 47), 0) := by
      rw [splitS, if_neg h0, if_neg (by omega), hg, List.take_of_length_le (by omega : (cutL 47 t).length ≤ k)]
      rfl
    rw [hs]
    obtain ⟨c, r, rfl⟩ : ∃ c r, t = c :: r := by
      cases t with
      | nil => exact absurd rfl h0
      | cons c r => exact ⟨c, r, rfl⟩
    rw [first47]
    exact frz3 (l := ((cutL 47 (c :: r)).take k).filter keepT) (c := .row 0 1 0 none) (FrzC.rowD (ds := (((cutL 47 (c :: r)).take k).filter keepT).map tD) rfl 0 none)
theorem rsplit_ok (t : Txt) {m : Mem} {K : CV → Mem → Prop} (h : K (spRV (splitS t)) m) : ACall Tryd.prog 21 [vT t] m K :=
  acall_frame (acall_body Tryd.func21 l21 rfl (Nat.le_of_ble_eq_true rfl) (rsplit_body t)) (by simp [vT, vStr, CV.isD, CC.isD]) fun r m1 hf => ⟨_, hf, h⟩
end Pth


end Go.Proofs.YtppecaflkpklfaaDoor
