import Derived.Test.YtjllbjbpdnhceaaAmZ2
import Derived.Test.YtjllbjbpdnhceaaDvGD
import Derived.Test.YtjllbjbpdnhceaaAmZ3
import Derived.Shelf.SlSortCmp.WholeK
import Derived.Shelf.SlicesG.Cmp
import Derived.WalkKit
import Derived.OwnWalkIn
import Derived.Test.YtjllbjbpdnhceaaAmY
set_option linter.unusedVariables false
set_option linter.unusedSimpArgs false
namespace Go.Proofs.Ytjllbjbpdnhceaa
open Go.AM Go.ChangeShapes Go.WideShapes Go.ChangeAt Go.RowKit
def Try.sortPol_ren : Go.Shelf.Ren := ⟨fun | 6 => 14 | 15 => 28 | 14 => 27 | 28 => 41 | 29 => 42 | 20 => 33 | 21 => 34 | 22 => 35 | 23 => 36 | 24 => 37 | 25 => 38 | 26 => 39 | 27 => 40 | 46 => 44 | 47 => 45 | 48 => 46 | 49 => 47 | 50 => 48 | 57 => 49 | n => n, fun | 22 => 22 | 24 => 38 | 25 => 44 | 3 => 3 | 39 => 56 | 0 => 0 | 53 => 70 | 55 => 72 | 4 => 4 | 46 => 63 | 45 => 62 | 50 => 67 | 5 => 5 | 9 => 9 | 66 => 74 | 70 => 78 | 76 => 80 | 77 => 33 | n => n, fun | n => n⟩
set_option maxRecDepth 100000 in
theorem Try.sortPol : Go.Proofs.SlLaysF0.n6 Try.prog Try.sortPol_ren := {
  mixed := by kernel_rfl,
  f6 := ⟨ "slices.SortFunc[[]ringfence/api.Policy,ringfence/api.Policy]", by decide, Try.func14.trans (congrArg some (by kernel_rfl))⟩,
  f14 := ⟨ "slices.pdqsortCmpFunc[ringfence/api.Policy]", by decide, Try.func27.trans (congrArg some (by kernel_rfl))⟩,
  f15 := Try.func28.trans (congrArg some (by kernel_rfl)),
  f20 := ⟨ "slices.insertionSortCmpFunc[ringfence/api.Policy]", by decide, Try.func33.trans (congrArg some (by kernel_rfl))⟩,
  f21 := ⟨ "slices.heapSortCmpFunc[ringfence/api.Policy]", by decide, Try.func34.trans (congrArg some (by kernel_rfl))⟩,
  f22 := ⟨ "slices.breakPatternsCmpFunc[ringfence/api.Policy]", by decide, Try.func35.trans (congrArg some (by kernel_rfl))⟩,
  f23 := ⟨ "slices.choosePivotCmpFunc[ringfence/api.Policy]", by decide, Try.func36.trans (congrArg some (by kernel_rfl))⟩,
  f24 := ⟨ "slices.reverseRangeCmpFunc[ringfence/api.Policy]", by decide, Try.func37.trans (congrArg some (by kernel_rfl))⟩,
  f25 := ⟨ "slices.partialInsertionSortCmpFunc[ringfence/api.Policy]", by decide, Try.func38.trans (congrArg some (by kernel_rfl))⟩,
  f26 := ⟨ "slices.partitionEqualCmpFunc[ringfence/api.Policy]", by decide, Try.func39.trans (congrArg some (by kernel_rfl))⟩,
  f27 := ⟨ "slices.partitionCmpFunc[ringfence/api.Policy]", by decide, Try.func40.trans (congrArg some (by kernel_rfl))⟩,
  f28 := Try.func41.trans (congrArg some (by kernel_rfl)),
  f29 := Try.func42.trans (congrArg some (by kernel_rfl)),
  f46 := ⟨ "slices.siftDownCmpFunc[ringfence/api.Policy]", by decide, Try.func44.trans (congrArg some (by kernel_rfl))⟩,
  f47 := Try.func45.trans (congrArg some (by kernel_rfl)),
  f48 := Try.func46.trans (congrArg some (by kernel_rfl)),
  f49 := ⟨ "slices.medianAdjacentCmpFunc[ringfence/api.Policy]", by decide, Try.func47.trans (congrArg some (by kernel_rfl))⟩,
  f50 := ⟨ "slices.medianCmpFunc[ringfence/api.Policy]", by decide, Try.func48.trans (congrArg some (by kernel_rfl))⟩,
  f57 := ⟨ "slices.order2CmpFunc[ringfence/api.Policy]", by decide, Try.func49.trans (congrArg some (by kernel_rfl))⟩,
  t0 := Try.underlying0,
  a0 := Try.isAgg0,
  z0 := Try.sizeOf0,
  v0 := Try.zeroValue0,
  t3 := Try.underlying3,
  a3 := Try.isAgg3,
  z3 := Try.sizeOf3,
  v3 := Try.zeroValue3,
  t4 := Try.underlying4,
  a4 := Try.isAgg4,
  z4 := Try.sizeOf4,
  v4 := Try.zeroValue4,
  t5 := Try.underlying5,
  a5 := Try.isAgg5,
  z5 := Try.sizeOf5,
  v5 := Try.zeroValue5,
  t9 := Try.underlying9,
  a9 := Try.isAgg9,
  z9 := Try.sizeOf9,
  v9 := Try.zeroValue9,
  t22 := Try.underlying22,
  a22 := Try.isAgg22,
  z22 := Try.sizeOf22,
  v22 := Try.zeroValue22,
  t25 := Try.underlying44,
  a25 := Try.isAgg44,
  z25 := Try.sizeOf44,
  v25 := Try.zeroValue44,
  t39 := Try.underlying56,
  a39 := Try.isAgg56,
  z39 := Try.sizeOf56,
  v39 := Try.zeroValue56,
  t45 := Try.underlying62,
  a45 := Try.isAgg62,
  z45 := Try.sizeOf62,
  v45 := Try.zeroValue62,
  t46 := Try.underlying63,
  a46 := Try.isAgg63,
  z46 := Try.sizeOf63,
  v46 := Try.zeroValue63,
  t50 := Try.underlying67,
  a50 := Try.isAgg67,
  z50 := Try.sizeOf67,
  v50 := Try.zeroValue67,
  t53 := Try.underlying70,
  a53 := Try.isAgg70,
  z53 := Try.sizeOf70,
  v53 := Try.zeroValue70,
  t55 := Try.underlying72,
  a55 := Try.isAgg72,
  z55 := Try.sizeOf72,
  v55 := Try.zeroValue72,
  t66 := Try.underlying74,
  a66 := Try.isAgg74,
  z66 := Try.sizeOf74,
  v66 := Try.zeroValue74,
  t70 := Try.underlying78,
  a70 := Try.isAgg78,
  z70 := Try.sizeOf78,
  v70 := Try.zeroValue78,
  t76 := Try.underlying80,
  a76 := Try.isAgg80,
  z76 := Try.sizeOf80,
  v76 := Try.zeroValue80,
  t77 := Try.underlying33,
  a77 := Try.isAgg33,
  z77 := Try.sizeOf33,
  v77 := Try.zeroValue33 }
def Try.cmpInt_ren : Go.Shelf.Ren := ⟨fun | 5 => 16 | 7 => 29 | n => n, fun | 22 => 3 | 3 => 3 | 4 => 4 | n => n, fun | n => n⟩
set_option maxRecDepth 100000 in
theorem Try.cmpInt : Go.Proofs.SlLaysC2.n5 Try.prog Try.cmpInt_ren := {
  mixed := by kernel_rfl,
  f5 := ⟨ "cmp.Compare[int]", by decide, Try.func16.trans (congrArg some (by kernel_rfl))⟩,
  f7 := ⟨ "cmp.isNaN[int]", by decide, Try.func29.trans (congrArg some (by kernel_rfl))⟩,
  t3 := Try.underlying3,
  a3 := Try.isAgg3,
  z3 := Try.sizeOf3,
  v3 := Try.zeroValue3,
  t4 := Try.underlying4,
  a4 := Try.isAgg4,
  z4 := Try.sizeOf4,
  v4 := Try.zeroValue4,
  t22 := Try.underlying3,
  a22 := Try.isAgg3,
  z22 := Try.sizeOf3,
  v22 := Try.zeroValue3 }

open Go.Shelf Go.Lib Go.Sort in
def pvE (x : Pol × (Option Addr × Nat × Nat)) : List Value := [.int .i64 x.1.call, .slice x.2.1 x.2.2.1 x.2.2.2]
instance instPol : Inhabited Pol := ⟨⟨0, []⟩⟩
open Go.Shelf Go.Lib Go.Sort in
set_option maxHeartbeats 1000000 in
theorem pclosure (a b : Int) (s1 s2 : Option Addr) (n1 n2 k1 k2 : Nat) (W : World) : Calls Try.prog 15 #[.agg #[.int .i64 a, .slice s1 n1 k1], .agg #[.int .i64 b, .slice s2 n2 k2]] W fun e w' => e = .returned (.int .i64 (Lib.compareInt a b)) ∧ ∃ q os', w' = Sort.grow (W.drewN q) os' := by
  have hcon := fun W' => AnyG.cmp_Compare_int Try.cmpInt a b W'
  change ∀ W', Calls Try.prog 16 _ _ _ at hcon
  generalize Lib.compareInt a b = r at hcon ⊢
  go_enter Try.func15, Try.ntmps15
  go_wp2_with (go_at_call 16; refine (hcon _).mono ?_; rintro e w' ⟨rfl, rfl⟩)
  go_ret
  exact ⟨rfl, 0, _, by rw [Sort.alloc_eq_grow, Sort.alloc_eq_grow, Sort.grow_grow]; rfl⟩
open Go.Shelf Go.Lib Go.Sort in
theorem pltC (x y : Pol × (Option Addr × Nat × Nat)) : ltOf (fun x y : Pol × (Option Addr × Nat × Nat) => Lib.compareInt x.1.call y.1.call) x y = decide (x.1.call < y.1.call) := by
  unfold ltOf Lib.compareInt
  by_cases h1 : x.1.call < y.1.call
  · simp [h1]
  · by_cases h2 : y.1.call < x.1.call <;> simp [h1, h2]
open Go.Shelf Go.Lib Go.Sort in
theorem pswo : SWO (ltOf fun x y : Pol × (Option Addr × Nat × Nat) => Lib.compareInt x.1.call y.1.call) where
  irrefl x := by rw [pltC]; simp
  trans x y z h1 h2 := by rw [pltC] at *; simp at *; omega
  ntrans x y z h1 h2 := by rw [pltC] at *; simp at *; omega
open Go.Shelf Go.Lib Go.Sort in
set_option maxRecDepth 100000 in
set_option maxHeartbeats 4000000 in
theorem psort_ok (l : List Pol) (hne : l ≠ []) (hl : l.length ≤ 4194304) {m : Mem} {id : Nat} (hb : nth m id = some (.row 2 (dRows (l.map Pol.enc)))) {K : CV → Mem → Prop}
    (h : ∀ l' : List Pol, l'.Perm l → l'.Pairwise (fun a b => ¬ b.call < a.call) → K (.tup []) (setN m id (.row 2 (dRows (l'.map Pol.enc))))) : ACall Try.prog 14 [.rv (.one (.row id 2 0 none)), .rv (.one (.fn 15 []))] m K := by
  refine ⟨⟨Try.f14, Try.func14, rfl, by decide⟩, fun ρ w vs hM hvl hd => ?_⟩
  obtain ⟨v0, h0, d0⟩ := hd 0 _ rfl
  obtain ⟨v1, h1, d1⟩ := hd 1 _ rfl
  have hvs : vs = [v0, v1] := by
    match vs, hvl with
    | [a, b], _ => simp at h0 h1; rw [h0, h1]
  rw [nth_eq] at hb
  obtain ⟨hid, _, _, hlc, hcm, a, hv0, ha⟩ := (show DenC ρ w none (.row id 2 0 none) v0 from d0)
  obtain ⟨_, hv1⟩ := (show DenC ρ w none (.fn 15 []) v1 from d1)
  obtain ⟨hln, _, _, hsz, hcu⟩ := hM.bk id _ hb
  have hlen : (ρ.loc (.root id)).len = l.length := by rw [← hln]; simp [dRows]
  have hpos : 0 < l.length := List.length_pos_iff.2 hne
  have hcap : 0 < (ρ.loc (.root id)).cap := by omega
  obtain ⟨cur, hcur, hcsz, hcells⟩ := hcu hcap
  have ha := ha hcap
  have hel : ∀ i (hi : i < l.length), ∃ x : Option Addr × Nat × Nat, cur[(ρ.loc (.root id)).base + i * 2 + 0]? = some (.int .i64 l[i].call) ∧ cur[(ρ.loc (.root id)).base + i * 2 + 1]? = some (.slice x.1 x.2.1 x.2.2) ∧
      DenD ρ.S w (.sl 2 (l[i].masks.map Msk.enc)) (.slice x.1 x.2.1 x.2.2) := by
    intro i hi
    have hri : (dRows (l.map Pol.enc))[i]? = some (l[i].enc.map .dat) := by simp [dRows, hi]
    obtain ⟨u, hu, hdu⟩ := hcells i _ 0 _ hri rfl
    obtain ⟨u1, hu1, hdu1⟩ := hcells i _ 1 _ hri rfl
    have e0 : u = .int .i64 l[i].call := by
      have hdu : DenD ρ.S w (.val (.int .i64 l[i].call)) u := hdu
      cases hdu with
      | val _ _ => rfl
    have hdu1 : DenD ρ.S w (.sl 2 (l[i].masks.map Msk.enc)) u1 := hdu1
    obtain ⟨b, n, c, e1⟩ : ∃ b n c, u1 = Value.slice b n c := by
      generalize l[i].masks.map Msk.enc = E at hdu1
      cases hdu1 with
      | nil _ b c _ => exact ⟨_, _, _, rfl⟩
      | sl _ _ b off c u _ _ _ _ _ _ => exact ⟨_, _, _, rfl⟩
    subst e0 e1
    exact ⟨(b, n, c), hu, hu1, hdu1⟩
  obtain ⟨X, hX⟩ : ∃ X : Nat → Option Addr × Nat × Nat, ∀ i (hi : i < l.length), cur[(ρ.loc (.root id)).base + i * 2 + 0]? = some (.int .i64 l[i].call) ∧ cur[(ρ.loc (.root id)).base + i * 2 + 1]? = some (.slice (X i).1 (X i).2.1 (X i).2.2) ∧
      DenD ρ.S w (.sl 2 (l[i].masks.map Msk.enc)) (.slice (X i).1 (X i).2.1 (X i).2.2) :=
    ⟨fun i => if hi : i < l.length then Classical.choose (hel i hi) else (none, 0, 0), fun i hi => by
      have := Classical.choose_spec (hel i hi)
      simp only [dif_pos hi]
      exact this⟩
  obtain ⟨d, hdd⟩ : ∃ d : Array (Pol × (Option Addr × Nat × Nat)), d = (l.zipIdx.map fun p => (p.1, X p.2)).toArray := ⟨_, rfl⟩
  have hds : d.size = l.length := by simp [hdd]
  have hdg : ∀ i (hi : i < l.length), d[i]! = (l[i], X i) := by
    intro i hi
    rw [getElem!_pos d i (by omega)]
    simp [hdd]
  have hdl : d.toList.map Prod.fst = l := by
    rw [hdd, List.toList_toArray, List.map_map]
    exact List.zipIdx_map_fst 0 l
  have hH : HoldsK pvE 2 w (ρ.loc (.root id)).b (ρ.loc (.root id)).base d := by
    intro j hj
    rw [size_flatK, hds] at hj
    have hi : j / 2 < l.length := by omega
    obtain ⟨g0, g1, _⟩ := hX (j / 2) hi
    have hc : l.length * 2 ≤ (ρ.loc (.root id)).cap * 2 := by omega
    rw [hcur.cell, get_flatK _ _ _ _ (by rw [hds]; exact hj), hdg _ hi]
    refine ⟨?_, hcur.frozen (by omega)⟩
    rcases Nat.mod_two_eq_zero_or_one j with e | e
    · rw [e, show (ρ.loc (.root id)).base + j = (ρ.loc (.root id)).base + j / 2 * 2 + 0 by omega, g0]; rfl
    · rw [e, show (ρ.loc (.root id)).base + j = (ρ.loc (.root id)).base + j / 2 * 2 + 1 by omega, g1]; rfl
  have eg : ∀ args w, (callFunc 15 args).run Try.prog w = .ok (.enter 15 args) w := enters_of Try.func15 (by kernel_rfl) rfl
  have hblk : (ρ.loc (.root id)).b < w.heap.size := hcur.lt
  have hcon := AnyQ.slices_SortFunc Try.sortPol 2 Try.isAgg38 Try.sizeOf38 pvE (fun _ => rfl) (fun x v hv => by simp [pvE] at hv; rcases hv with rfl | rfl <;> rfl) (fun x y => Lib.compareInt x.1.call y.1.call) pswo 15 #[] (ρ.loc (.root id)).b (ρ.loc (.root id)).base (ρ.loc (.root id)).cap d w eg
    (fun _ _ _ _ x y => pclosure x.1.call y.1.call x.2.1 y.2.1 x.2.2.1 y.2.2.1 x.2.2.2 y.2.2.2 _) hH hblk (by omega)
  change Calls Try.prog 14 _ _ _ at hcon
  have hargs : vs.toArray = #[.slice (some ⟨(ρ.loc (.root id)).b, (ρ.loc (.root id)).base, none⟩) d.size (ρ.loc (.root id)).cap, .func (.func 15) #[] #[]] := by
    rw [hvs, hv0, hv1, ha, hds, ← hlen]
    simp
  rw [hargs]
  refine hcon.mono ?_
  rintro e w' ⟨rfl, d', n, os, hp, hs, rfl⟩
  obtain ⟨hp1, _, hp2⟩ := hp
  have hp2 : d'.toList.Perm d.toList := by
    have e1 : d'.extract 0 d.size = d' := by rw [← hp1]; simp
    have e2 : d.extract 0 d.size = d := by simp
    rw [e1, e2] at hp2
    exact hp2
  have hperm : (d'.toList.map Prod.fst).Perm l := by
    have := hp2.map Prod.fst
    rwa [hdl] at this
  have hll : (d'.toList.map Prod.fst).length = l.length := hperm.length_eq
  have hsort : (d'.toList.map Prod.fst).Pairwise (fun a b => ¬ b.call < a.call) := by
    rw [List.pairwise_iff_getElem]
    intro i j hi hj hij
    have hj2 : j < d'.size := by simpa using hj
    have := hs i j (Nat.zero_le _) hij (by omega)
    rw [pltC, getElem!_pos d' i (by omega), getElem!_pos d' j hj2] at this
    simpa using this
  have hmem : ∀ i, i < d'.size → ∃ k, ∃ hk : k < l.length, d'[i]! = (l[k], X k) := by
    intro i hi
    have : d'[i]! ∈ d.toList := by
      rw [← hp2.mem_iff, getElem!_pos d' i hi]
      exact Array.mem_toList_iff.2 (Array.getElem_mem hi)
    obtain ⟨k, hk⟩ := List.getElem?_of_mem this
    obtain ⟨hk1, hk2⟩ := List.getElem?_eq_some_iff.1 hk
    have hk1 : k < d.size := by simpa using hk1
    refine ⟨k, by omega, ?_⟩
    rw [← hdg k (by omega), getElem!_pos d k hk1, ← hk2]
    simp
  have hb2 := hb
  obtain ⟨hM', hX'⟩ := put_sound (rows' := dRows ((d'.toList.map Prod.fst).map Pol.enc)) (F := flatK pvE 2 d') hM hb (by simpa [dRows] using hpos) (by simp [dRows]; omega) (fun cs hcs => by
      simp only [dRows, List.mem_map] at hcs
      obtain ⟨x, ⟨p, _, rfl⟩, rfl⟩ := hcs
      rfl) (by rw [size_flatK]; simp [dRows]; omega) (fun cs hcs c hc => by
      simp only [dRows, List.mem_map] at hcs
      obtain ⟨x, _, rfl⟩ := hcs
      obtain ⟨d, _, rfl⟩ := List.mem_map.1 hc
      exact ⟨d, rfl⟩) (fun i cs j c hi hj => by
      simp only [dRows, List.getElem?_map] at hi
      cases ho : d'.toList[i]? with
      | none => rw [ho] at hi; simp at hi
      | some y =>
        rw [ho] at hi
        simp only [Option.map_some, Option.some.injEq] at hi
        subst hi
        have hid' : i < d'.size := by have := (List.getElem?_eq_some_iff.1 ho).1; simpa using this
        have hy : d'[i]! = y := by
          rw [getElem!_pos d' i hid']
          have := (List.getElem?_eq_some_iff.1 ho).2
          simpa using this
        obtain ⟨k, hk, hyk⟩ := hmem i hid'
        rw [hy] at hyk
        subst hyk
        have hj2 : j < 2 := by
          have := (List.getElem?_eq_some_iff.1 hj).1
          simpa [Pol.enc] using this
        rw [get_flatK _ _ _ _ (by omega), show (i * 2 + j) / 2 = i by omega, show (i * 2 + j) % 2 = j by omega, hy]
        match j, hj2, hj with
        | 0, _, hj => cases hj; exact DenD.val _ rfl
        | 1, _, hj => cases hj; exact (hX k hk).2.2) n os
  rw [← setN_eq] at hM' hX'
  exact ⟨_, .tup [], _, ρ, rfl, h _ hperm hsort, hM', ⟨[], rfl, rfl, by simp⟩, hX'⟩

def c6 : LF := ⟨22, [.tmp 2, .cell true 2 3], (.seq (.reg [
    ⟨(some 2), .mov (.c (.rv (.one .esl))), none⟩,
    ⟨(some 3), .alloc [(.dat (.val (.int .i64 (0)))), (.dat (.val (.int .i64 (0))))], none⟩]) (.seq (.seq (.reg [
    ⟨(some 6), .mov (.t 0), none⟩,
    ⟨(some 7), .call (.c (.rv (.one (.fn 7 [])))) [(.t 6)], none⟩,
    ⟨(some 4), .alloc [(.dat (.val (.int .i64 (0)))), (.dat (.val (.int .i64 (0))))], none⟩,
    ⟨none, .store 2 (.t 4) (.t 7), none⟩]) (.seq (.reg [
    ⟨(some 8), .fadr 0 (.t 4), none⟩,
    ⟨(some 9), .load false 1 (.t 8), none⟩,
    ⟨(some 10), .bin .neq (.t 9) (.c (.rv (.one (.dat (.val (.int .i64 (0))))))), none⟩]) (.cond (.t 10) (.seq (.draw [
    ⟨(some 11), .load true 2 (.t 4), none⟩,
    ⟨(some 2), .mov (.c (.rv (.one .esl))), none⟩,
    ⟨none, .store 2 (.t 3) (.t 11), none⟩]
    [(.cons 0 none (.cons 1 none (.cons 2 (some []) .nil)))]) .ret) .skip))) (.seq (.reg [
    ⟨(some 12), .mov (.t 0), none⟩,
    ⟨(some 13), .call (.c (.rv (.one (.fn 13 [])))) [(.t 12)], none⟩,
    ⟨(some 5), .mov (.t 13), none⟩]) (.seq (.reg [
    ⟨(some 14), .mov (.t 5), none⟩,
    ⟨(some 15), .call (.c (.rv (.one (.fn 14 [])))) [(.t 14), (.c (.rv (.one (.fn 15 []))))], none⟩]) (.seq (.reg [
    ⟨(some 16), .build [(.dat (.val (.int .i64 (0)))), (.dat (.val (.int .i64 (0)))), (.dat (.val (.int .i64 (0)))), (.dat (.val (.int .i64 (0))))] [(0, 1, (.c (.rv (.one (.dat (.val (.int .i64 (1))))))))], none⟩,
    ⟨(some 17), .bsl 4 [(.dat (.val (.int .i64 (0)))), (.dat (.val (.int .i64 (0)))), (.dat (.val (.int .i64 (0)))), (.dat (.val (.int .i64 (0))))] 1 [(0, (.t 16))], none⟩,
    ⟨(some 18), .mov (.t 5), none⟩,
    ⟨(some 19), .call (.c (.rv (.one (.fn 17 [])))) [(.t 18)], none⟩,
    ⟨(some 20), .app 4 32 (.t 17) (.t 19), none⟩,
    ⟨(some 21), .build [(.dat (.val (.int .i64 (0)))), (.dat (.val (.int .i64 (0))))] [], none⟩,
    ⟨(some 2), .mov (.t 20), none⟩,
    ⟨none, .store 2 (.t 3) (.t 21), none⟩]) .ret)))))⟩
def c13 : LF := ⟨8, [.tmp 2], (.seq (.reg [
    ⟨(some 2), .mov (.c (.rv (.one .esl))), none⟩]) (.seq (.seq (.reg [
    ⟨(some 3), .mov (.t 0), none⟩,
    ⟨(some 4), .snil false (.t 3), none⟩]) (.cond (.t 4) (.seq (.reg [
    ⟨(some 2), .mov (.c (.rv (.one .esl))), none⟩]) .ret) .skip)) (.seq (.reg [
    ⟨(some 5), .bsl 2 [(.dat (.val (.int .i64 (0)))), .esl] 0 [], none⟩,
    ⟨(some 6), .mov (.t 0), none⟩,
    ⟨(some 7), .app 2 32 (.t 5) (.t 6), none⟩,
    ⟨(some 2), .mov (.t 7), none⟩]) .ret)))⟩
def c14 : LF := ⟨14, [], (.seq (.reg [
    ⟨(some 5), .mov (.t 0), none⟩,
    ⟨(some 6), .len 1 (.t 5), none⟩,
    ⟨(some 4), .mov (.t 6), none⟩]) (.reg [
    ⟨(some 7), .mov (.t 0), none⟩,
    ⟨(some 8), .mov (.t 4), none⟩,
    ⟨(some 9), .mov (.t 4), none⟩,
    ⟨(some 10), .conv .u64 (.t 9), none⟩,
    ⟨(some 11), .call (.c (.rv (.one (.fn 28 [])))) [(.t 10)], none⟩,
    ⟨(some 12), .mov (.t 1), none⟩,
    ⟨(some 13), .call (.c (.rv (.one (.fn 27 [])))) [(.t 7), (.c (.rv (.one (.dat (.val (.int .i64 (0))))))), (.t 8), (.t 11), (.t 12)], none⟩]))⟩
def c27 : LF := ⟨148, [], (.seq (.reg [
    ⟨(some 10), .mov (.c (.rv (.one (.dat (.val (.bool true)))))), none⟩]) (.seq (.reg [
    ⟨(some 11), .mov (.c (.rv (.one (.dat (.val (.bool true)))))), none⟩]) (.block 0 (.loop (.block 1 (.seq (.reg [
    ⟨(some 21), .mov (.t 2), none⟩,
    ⟨(some 22), .mov (.t 1), none⟩,
    ⟨(some 23), .bin .sub (.t 21) (.t 22), none⟩,
    ⟨(some 12), .mov (.t 23), none⟩]) (.seq (.seq (.reg [
    ⟨(some 24), .mov (.t 12), none⟩,
    ⟨(some 25), .bin .leq (.t 24) (.c (.rv (.one (.dat (.val (.int .i64 (12))))))), none⟩]) (.cond (.t 25) (.seq (.reg [
    ⟨(some 26), .mov (.t 0), none⟩,
    ⟨(some 27), .mov (.t 1), none⟩,
    ⟨(some 28), .mov (.t 2), none⟩,
    ⟨(some 29), .mov (.t 4), none⟩,
    ⟨(some 30), .call (.c (.rv (.one (.fn 33 [])))) [(.t 26), (.t 27), (.t 28), (.t 29)], none⟩]) .ret) .skip)) (.seq (.seq (.reg [
    ⟨(some 31), .mov (.t 3), none⟩,
    ⟨(some 32), .bin .eql (.t 31) (.c (.rv (.one (.dat (.val (.int .i64 (0))))))), none⟩]) (.cond (.t 32) (.seq (.reg [
    ⟨(some 33), .mov (.t 0), none⟩,
    ⟨(some 34), .mov (.t 1), none⟩,
    ⟨(some 35), .mov (.t 2), none⟩,
    ⟨(some 36), .mov (.t 4), none⟩,
    ⟨(some 37), .call (.c (.rv (.one (.fn 34 [])))) [(.t 33), (.t 34), (.t 35), (.t 36)], none⟩]) .ret) .skip)) (.seq (.seq (.reg [
    ⟨(some 38), .mov (.t 10), none⟩,
    ⟨(some 39), .un .not (.t 38), none⟩]) (.cond (.t 39) (.seq (.reg [
    ⟨(some 40), .mov (.t 0), none⟩,
    ⟨(some 41), .mov (.t 1), none⟩,
    ⟨(some 42), .mov (.t 2), none⟩,
    ⟨(some 43), .mov (.t 4), none⟩,
    ⟨(some 44), .call (.c (.rv (.one (.fn 35 [])))) [(.t 40), (.t 41), (.t 42), (.t 43)], none⟩]) (.reg [
    ⟨(some 45), .mov (.t 3), none⟩,
    ⟨(some 46), .bin .sub (.t 45) (.c (.rv (.one (.dat (.val (.int .i64 (1))))))), none⟩,
    ⟨(some 3), .mov (.t 46), none⟩])) .skip)) (.seq (.reg [
    ⟨(some 48), .mov (.t 0), none⟩,
    ⟨(some 49), .mov (.t 1), none⟩,
    ⟨(some 50), .mov (.t 2), none⟩,
    ⟨(some 51), .mov (.t 4), none⟩,
    ⟨(some 52), .call (.c (.rv (.one (.fn 36 [])))) [(.t 48), (.t 49), (.t 50), (.t 51)], none⟩,
    ⟨(some 47), .mov (.t 52), none⟩,
    ⟨(some 53), .ext (.t 47) 0, none⟩,
    ⟨(some 54), .ext (.t 47) 1, none⟩,
    ⟨(some 13), .mov (.t 53), none⟩,
    ⟨(some 14), .mov (.t 54), none⟩]) (.seq (.seq (.reg [
    ⟨(some 55), .mov (.t 14), none⟩,
    ⟨(some 56), .bin .eql (.t 55) (.c (.rv (.one (.dat (.val (.int .i64 (2))))))), none⟩]) (.cond (.t 56) (.seq (.reg [
    ⟨(some 57), .mov (.t 0), none⟩,
    ⟨(some 58), .mov (.t 1), none⟩,
    ⟨(some 59), .mov (.t 2), none⟩,
    ⟨(some 60), .mov (.t 4), none⟩,
    ⟨(some 61), .call (.c (.rv (.one (.fn 37 [])))) [(.t 57), (.t 58), (.t 59), (.t 60)], none⟩]) (.seq (.reg [
    ⟨(some 62), .mov (.t 2), none⟩,
    ⟨(some 63), .bin .sub (.t 62) (.c (.rv (.one (.dat (.val (.int .i64 (1))))))), none⟩,
    ⟨(some 64), .mov (.t 13), none⟩,
    ⟨(some 65), .mov (.t 1), none⟩,
    ⟨(some 66), .bin .sub (.t 64) (.t 65), none⟩,
    ⟨(some 67), .bin .sub (.t 63) (.t 66), none⟩,
    ⟨(some 13), .mov (.t 67), none⟩]) (.reg [
    ⟨(some 14), .mov (.c (.rv (.one (.dat (.val (.int .i64 (1))))))), none⟩]))) .skip)) (.seq (.seq (.reg [
    ⟨(some 68), .mov (.t 10), none⟩,
    ⟨(some 69), .mov (.t 68), none⟩,
    ⟨(some 70), .mov (.t 11), (some (69, true))⟩,
    ⟨(some 71), .pick (.t 69) (.t 70) (.c (.rv (.one (.dat (.val (.bool false)))))), none⟩,
    ⟨(some 72), .mov (.t 71), none⟩,
    ⟨(some 73), .mov (.t 14), (some (72, true))⟩,
    ⟨(some 74), .bin .eql (.t 73) (.c (.rv (.one (.dat (.val (.int .i64 (1))))))), (some (72, true))⟩,
    ⟨(some 75), .pick (.t 72) (.t 74) (.c (.rv (.one (.dat (.val (.bool false)))))), none⟩]) (.cond (.t 75) (.seq (.reg [
    ⟨(some 76), .mov (.t 0), none⟩,
    ⟨(some 77), .mov (.t 1), none⟩,
    ⟨(some 78), .mov (.t 2), none⟩,
    ⟨(some 79), .mov (.t 4), none⟩,
    ⟨(some 80), .call (.c (.rv (.one (.fn 38 [])))) [(.t 76), (.t 77), (.t 78), (.t 79)], none⟩]) (.cond (.t 80) .ret .skip)) .skip)) (.seq (.seq (.draw [
    ⟨(some 81), .mov (.t 1), none⟩,
    ⟨(some 82), .bin .gtr (.t 81) (.c (.rv (.one (.dat (.val (.int .i64 (0))))))), none⟩,
    ⟨(some 83), .mov (.t 82), none⟩,
    ⟨(some 84), .mov (.t 4), (some (83, true))⟩,
    ⟨(some 85), .mov (.t 0), (some (83, true))⟩,
    ⟨(some 86), .mov (.t 1), (some (83, true))⟩,
    ⟨(some 87), .bin .sub (.t 86) (.c (.rv (.one (.dat (.val (.int .i64 (1))))))), (some (83, true))⟩,
    ⟨(some 88), .idx 2 (.t 85) (.t 87), (some (83, true))⟩,
    ⟨(some 89), .load true 2 (.t 88), (some (83, true))⟩,
    ⟨(some 90), .mov (.t 0), (some (83, true))⟩,
    ⟨(some 91), .mov (.t 13), (some (83, true))⟩,
    ⟨(some 92), .idx 2 (.t 90) (.t 91), (some (83, true))⟩,
    ⟨(some 93), .load true 2 (.t 92), (some (83, true))⟩,
    ⟨(some 94), .call (.t 84) [(.t 89), (.t 93)], (some (83, true))⟩,
    ⟨(some 95), .bin .lss (.t 94) (.c (.rv (.one (.dat (.val (.int .i64 (0))))))), (some (83, true))⟩,
    ⟨(some 96), .un .not (.t 95), (some (83, true))⟩,
    ⟨(some 97), .pick (.t 83) (.t 96) (.c (.rv (.one (.dat (.val (.bool false)))))), none⟩]
    [(.cons 0 none (.cons 1 none (.cons 2 none (.cons 3 none (.cons 4 none (.cons 5 none (.cons 6 none (.cons 7 none (.cons 8 none (.cons 9 none (.cons 10 none (.cons 11 none (.cons 12 none (.cons 13 (some []) (.cons 14 none (.cons 15 none (.cons 16 none .nil)))))))))))))))))]) (.cond (.t 97) (.seq (.reg [
    ⟨(some 98), .mov (.t 0), none⟩,
    ⟨(some 99), .mov (.t 1), none⟩,
    ⟨(some 100), .mov (.t 2), none⟩,
    ⟨(some 101), .mov (.t 13), none⟩,
    ⟨(some 102), .mov (.t 4), none⟩,
    ⟨(some 103), .call (.c (.rv (.one (.fn 39 [])))) [(.t 98), (.t 99), (.t 100), (.t 101), (.t 102)], none⟩,
    ⟨(some 15), .mov (.t 103), none⟩]) (.seq (.reg [
    ⟨(some 104), .mov (.t 15), none⟩,
    ⟨(some 1), .mov (.t 104), none⟩]) (.exit 1))) .skip)) (.seq (.reg [
    ⟨(some 106), .mov (.t 0), none⟩,
    ⟨(some 107), .mov (.t 1), none⟩,
    ⟨(some 108), .mov (.t 2), none⟩,
    ⟨(some 109), .mov (.t 13), none⟩,
    ⟨(some 110), .mov (.t 4), none⟩,
    ⟨(some 111), .call (.c (.rv (.one (.fn 40 [])))) [(.t 106), (.t 107), (.t 108), (.t 109), (.t 110)], none⟩,
    ⟨(some 105), .mov (.t 111), none⟩,
    ⟨(some 112), .ext (.t 105) 0, none⟩,
    ⟨(some 113), .ext (.t 105) 1, none⟩,
    ⟨(some 16), .mov (.t 112), none⟩,
    ⟨(some 17), .mov (.t 113), none⟩]) (.seq (.reg [
    ⟨(some 114), .mov (.t 17), none⟩,
    ⟨(some 11), .mov (.t 114), none⟩]) (.seq (.reg [
    ⟨(some 115), .mov (.t 16), none⟩,
    ⟨(some 116), .mov (.t 1), none⟩,
    ⟨(some 117), .bin .sub (.t 115) (.t 116), none⟩,
    ⟨(some 118), .mov (.t 2), none⟩,
    ⟨(some 119), .mov (.t 16), none⟩,
    ⟨(some 120), .bin .sub (.t 118) (.t 119), none⟩,
    ⟨(some 18), .mov (.t 117), none⟩,
    ⟨(some 19), .mov (.t 120), none⟩]) (.seq (.reg [
    ⟨(some 121), .mov (.t 12), none⟩,
    ⟨(some 122), .bin .quo (.t 121) (.c (.rv (.one (.dat (.val (.int .i64 (8))))))), none⟩,
    ⟨(some 20), .mov (.t 122), none⟩]) (.seq (.reg [
    ⟨(some 123), .mov (.t 18), none⟩,
    ⟨(some 124), .mov (.t 19), none⟩,
    ⟨(some 125), .bin .lss (.t 123) (.t 124), none⟩]) (.cond (.t 125) (.seq (.reg [
    ⟨(some 126), .mov (.t 18), none⟩,
    ⟨(some 127), .mov (.t 20), none⟩,
    ⟨(some 128), .bin .geq (.t 126) (.t 127), none⟩,
    ⟨(some 10), .mov (.t 128), none⟩]) (.seq (.reg [
    ⟨(some 129), .mov (.t 0), none⟩,
    ⟨(some 130), .mov (.t 1), none⟩,
    ⟨(some 131), .mov (.t 16), none⟩,
    ⟨(some 132), .mov (.t 3), none⟩,
    ⟨(some 133), .mov (.t 4), none⟩,
    ⟨(some 134), .call (.c (.rv (.one (.fn 27 [])))) [(.t 129), (.t 130), (.t 131), (.t 132), (.t 133)], none⟩]) (.reg [
    ⟨(some 135), .mov (.t 16), none⟩,
    ⟨(some 136), .bin .add (.t 135) (.c (.rv (.one (.dat (.val (.int .i64 (1))))))), none⟩,
    ⟨(some 1), .mov (.t 136), none⟩]))) (.seq (.reg [
    ⟨(some 137), .mov (.t 19), none⟩,
    ⟨(some 138), .mov (.t 20), none⟩,
    ⟨(some 139), .bin .geq (.t 137) (.t 138), none⟩,
    ⟨(some 10), .mov (.t 139), none⟩]) (.seq (.reg [
    ⟨(some 140), .mov (.t 0), none⟩,
    ⟨(some 141), .mov (.t 16), none⟩,
    ⟨(some 142), .bin .add (.t 141) (.c (.rv (.one (.dat (.val (.int .i64 (1))))))), none⟩,
    ⟨(some 143), .mov (.t 2), none⟩,
    ⟨(some 144), .mov (.t 3), none⟩,
    ⟨(some 145), .mov (.t 4), none⟩,
    ⟨(some 146), .call (.c (.rv (.one (.fn 27 [])))) [(.t 140), (.t 142), (.t 143), (.t 144), (.t 145)], none⟩]) (.reg [
    ⟨(some 147), .mov (.t 16), none⟩,
    ⟨(some 2), .mov (.t 147), none⟩]))))))))))))))))))))))⟩
def c28 : LF := ⟨8, [.tmp 2], (.seq (.reg [
    ⟨(some 2), .mov (.c (.rv (.one (.dat (.val (.int .i64 (0))))))), none⟩]) (.seq (.cond (.c (.rv (.one (.dat (.val (.bool false)))))) (.seq (.reg [
    ⟨(some 3), .mov (.t 0), none⟩,
    ⟨(some 4), .conv .u32 (.t 3), none⟩,
    ⟨(some 5), .call (.c (.rv (.one (.fn 41 [])))) [(.t 4)], none⟩,
    ⟨(some 2), .mov (.t 5), none⟩]) .ret) .skip) (.seq (.reg [
    ⟨(some 6), .mov (.t 0), none⟩,
    ⟨(some 7), .call (.c (.rv (.one (.fn 42 [])))) [(.t 6)], none⟩,
    ⟨(some 2), .mov (.t 7), none⟩]) .ret)))⟩
def c33 : LF := ⟨53, [], (.seq (.reg [
    ⟨(some 10), .mov (.t 1), none⟩,
    ⟨(some 11), .bin .add (.t 10) (.c (.rv (.one (.dat (.val (.int .i64 (1))))))), none⟩,
    ⟨(some 8), .mov (.t 11), none⟩]) (.block 0 (.loop (.seq (.seq (.reg [
    ⟨(some 12), .mov (.t 8), none⟩,
    ⟨(some 13), .mov (.t 2), none⟩,
    ⟨(some 14), .bin .lss (.t 12) (.t 13), none⟩]) (.cond (.t 14) .skip (.exit 0))) (.seq (.block 1 (.seq (.reg [
    ⟨(some 17), .mov (.t 8), none⟩,
    ⟨(some 9), .mov (.t 17), none⟩]) (.block 2 (.loop (.seq (.seq (.draw [
    ⟨(some 18), .mov (.t 9), none⟩,
    ⟨(some 19), .mov (.t 1), none⟩,
    ⟨(some 20), .bin .gtr (.t 18) (.t 19), none⟩,
    ⟨(some 21), .mov (.t 20), none⟩,
    ⟨(some 22), .mov (.t 3), (some (21, true))⟩,
    ⟨(some 23), .mov (.t 0), (some (21, true))⟩,
    ⟨(some 24), .mov (.t 9), (some (21, true))⟩,
    ⟨(some 25), .idx 2 (.t 23) (.t 24), (some (21, true))⟩,
    ⟨(some 26), .load true 2 (.t 25), (some (21, true))⟩,
    ⟨(some 27), .mov (.t 0), (some (21, true))⟩,
    ⟨(some 28), .mov (.t 9), (some (21, true))⟩,
    ⟨(some 29), .bin .sub (.t 28) (.c (.rv (.one (.dat (.val (.int .i64 (1))))))), (some (21, true))⟩,
    ⟨(some 30), .idx 2 (.t 27) (.t 29), (some (21, true))⟩,
    ⟨(some 31), .load true 2 (.t 30), (some (21, true))⟩,
    ⟨(some 32), .call (.t 22) [(.t 26), (.t 31)], (some (21, true))⟩,
    ⟨(some 33), .bin .lss (.t 32) (.c (.rv (.one (.dat (.val (.int .i64 (0))))))), (some (21, true))⟩,
    ⟨(some 34), .pick (.t 21) (.t 33) (.c (.rv (.one (.dat (.val (.bool false)))))), none⟩]
    [(.cons 0 none (.cons 1 none (.cons 2 none (.cons 3 none (.cons 4 none (.cons 5 none (.cons 6 none (.cons 7 none (.cons 8 none (.cons 9 none (.cons 10 none (.cons 11 none (.cons 12 none (.cons 13 none (.cons 14 (some []) (.cons 15 none (.cons 16 none .nil)))))))))))))))))]) (.cond (.t 34) .skip (.exit 2))) (.seq (.block 3 (.draw [
    ⟨(some 37), .mov (.t 0), none⟩,
    ⟨(some 38), .mov (.t 9), none⟩,
    ⟨(some 39), .mov (.t 0), none⟩,
    ⟨(some 40), .mov (.t 9), none⟩,
    ⟨(some 41), .bin .sub (.t 40) (.c (.rv (.one (.dat (.val (.int .i64 (1))))))), none⟩,
    ⟨(some 42), .mov (.t 0), none⟩,
    ⟨(some 43), .mov (.t 9), none⟩,
    ⟨(some 44), .bin .sub (.t 43) (.c (.rv (.one (.dat (.val (.int .i64 (1))))))), none⟩,
    ⟨(some 45), .idx 2 (.t 42) (.t 44), none⟩,
    ⟨(some 46), .load true 2 (.t 45), none⟩,
    ⟨(some 47), .mov (.t 0), none⟩,
    ⟨(some 48), .mov (.t 9), none⟩,
    ⟨(some 49), .idx 2 (.t 47) (.t 48), none⟩,
    ⟨(some 50), .load true 2 (.t 49), none⟩,
    ⟨(some 51), .idx 2 (.t 37) (.t 38), none⟩,
    ⟨none, .store 2 (.t 51) (.t 46), none⟩,
    ⟨(some 52), .idx 2 (.t 39) (.t 41), none⟩,
    ⟨none, .store 2 (.t 52) (.t 50), none⟩]
    [(.cons 0 none (.cons 1 none (.cons 2 none (.cons 3 none (.cons 4 none (.cons 5 none (.cons 6 none (.cons 7 none (.cons 8 none (.cons 9 none (.cons 10 none (.cons 11 none (.cons 12 none (.cons 13 none (.cons 14 none (.cons 15 (some []) (.cons 16 none (.cons 17 (some []) .nil))))))))))))))))))])) (.reg [
    ⟨(some 35), .mov (.t 9), none⟩,
    ⟨(some 36), .bin .sub (.t 35) (.c (.rv (.one (.dat (.val (.int .i64 (1))))))), none⟩,
    ⟨(some 9), .mov (.t 36), none⟩]))))))) (.reg [
    ⟨(some 15), .mov (.t 8), none⟩,
    ⟨(some 16), .bin .add (.t 15) (.c (.rv (.one (.dat (.val (.int .i64 (1))))))), none⟩,
    ⟨(some 8), .mov (.t 16), none⟩]))))))⟩
def c42 : LF := ⟨25, [.tmp 2], (.seq (.reg [
    ⟨(some 2), .mov (.c (.rv (.one (.dat (.val (.int .i64 (0))))))), none⟩]) (.seq (.seq (.reg [
    ⟨(some 3), .mov (.t 0), none⟩,
    ⟨(some 4), .bin .geq (.t 3) (.c (.rv (.one (.dat (.val (.int .u64 (4294967296))))))), none⟩]) (.cond (.t 4) (.seq (.reg [
    ⟨(some 5), .mov (.t 0), none⟩,
    ⟨(some 6), .bin .shr (.t 5) (.c (.rv (.one (.dat (.val (.int .u64 (32))))))), none⟩,
    ⟨(some 0), .mov (.t 6), none⟩]) (.reg [
    ⟨(some 2), .mov (.c (.rv (.one (.dat (.val (.int .i64 (32))))))), none⟩])) .skip)) (.seq (.seq (.reg [
    ⟨(some 7), .mov (.t 0), none⟩,
    ⟨(some 8), .bin .geq (.t 7) (.c (.rv (.one (.dat (.val (.int .u64 (65536))))))), none⟩]) (.cond (.t 8) (.seq (.reg [
    ⟨(some 9), .mov (.t 0), none⟩,
    ⟨(some 10), .bin .shr (.t 9) (.c (.rv (.one (.dat (.val (.int .u64 (16))))))), none⟩,
    ⟨(some 0), .mov (.t 10), none⟩]) (.reg [
    ⟨(some 11), .mov (.t 2), none⟩,
    ⟨(some 12), .bin .add (.t 11) (.c (.rv (.one (.dat (.val (.int .i64 (16))))))), none⟩,
    ⟨(some 2), .mov (.t 12), none⟩])) .skip)) (.seq (.seq (.reg [
    ⟨(some 13), .mov (.t 0), none⟩,
    ⟨(some 14), .bin .geq (.t 13) (.c (.rv (.one (.dat (.val (.int .u64 (256))))))), none⟩]) (.cond (.t 14) (.seq (.reg [
    ⟨(some 15), .mov (.t 0), none⟩,
    ⟨(some 16), .bin .shr (.t 15) (.c (.rv (.one (.dat (.val (.int .u64 (8))))))), none⟩,
    ⟨(some 0), .mov (.t 16), none⟩]) (.reg [
    ⟨(some 17), .mov (.t 2), none⟩,
    ⟨(some 18), .bin .add (.t 17) (.c (.rv (.one (.dat (.val (.int .i64 (8))))))), none⟩,
    ⟨(some 2), .mov (.t 18), none⟩])) .skip)) (.seq (.reg [
    ⟨(some 19), .mov (.t 2), none⟩,
    ⟨(some 20), .mov (.t 0), none⟩,
    ⟨(some 21), .conv .u8 (.t 20), none⟩,
    ⟨(some 22), .sidx (.c (.rv (.one (.dat (.val (.string ⟨#[0, 1, 2, 2, 3, 3, 3, 3, 4, 4, 4, 4, 4, 4, 4, 4, 5, 5, 5, 5, 5, 5, 5, 5, 5, 5, 5, 5, 5, 5, 5, 5, 6, 6, 6, 6, 6, 6, 6, 6, 6, 6, 6, 6, 6, 6, 6, 6, 6, 6, 6, 6, 6, 6, 6, 6, 6, 6, 6, 6, 6, 6, 6, 6, 7, 7, 7, 7, 7, 7, 7, 7, 7, 7, 7, 7, 7, 7, 7, 7, 7, 7, 7, 7, 7, 7, 7, 7, 7, 7, 7, 7, 7, 7, 7, 7, 7, 7, 7, 7, 7, 7, 7, 7, 7, 7, 7, 7, 7, 7, 7, 7, 7, 7, 7, 7, 7, 7, 7, 7, 7, 7, 7, 7, 7, 7, 7, 7, 8, 8, 8, 8, 8, 8, 8, 8, 8, 8, 8, 8, 8, 8, 8, 8, 8, 8, 8, 8, 8, 8, 8, 8, 8, 8, 8, 8, 8, 8, 8, 8, 8, 8, 8, 8, 8, 8, 8, 8, 8, 8, 8, 8, 8, 8, 8, 8, 8, 8, 8, 8, 8, 8, 8, 8, 8, 8, 8, 8, 8, 8, 8, 8, 8, 8, 8, 8, 8, 8, 8, 8, 8, 8, 8, 8, 8, 8, 8, 8, 8, 8, 8, 8, 8, 8, 8, 8, 8, 8, 8, 8, 8, 8, 8, 8, 8, 8, 8, 8, 8, 8, 8, 8, 8, 8, 8, 8, 8, 8, 8, 8, 8, 8, 8, 8, 8, 8, 8, 8, 8, 8, 8, 8, 8, 8, 8, 8]⟩)))))) (.t 21), none⟩,
    ⟨(some 23), .conv .i64 (.t 22), none⟩,
    ⟨(some 24), .bin .add (.t 19) (.t 23), none⟩,
    ⟨(some 2), .mov (.t 24), none⟩]) .ret)))))⟩
theorem l13 : lowF Try.prog Try.f13 = some c13 := by kernel_rfl
theorem l14 : lowF Try.prog Try.f14 = some c14 := by kernel_rfl
theorem l27 : lowF Try.prog Try.f27 = some c27 := by kernel_rfl
theorem l28 : lowF Try.prog Try.f28 = some c28 := by kernel_rfl
theorem l33 : lowF Try.prog Try.f33 = some c33 := by kernel_rfl
theorem l42 : lowF Try.prog Try.f42 = some c42 := by kernel_rfl
theorem l6 : lowF Try.prog Try.f6 = some c6 := by kernel_rfl
/-! nothing to sort -/
set_option maxRecDepth 100000 in
theorem len64_0 {m : Mem} {K : CV → Mem → Prop} (h : K (vInt .i64 0) m) : ACall Try.prog 42 [vInt .u64 0] m K :=
  acall_val (r0 := vInt .i64 0) Try.func42 l42 rfl (Nat.le_of_ble_eq_true rfl) (show body Try.prog c42 [vInt .u64 0] [] (fun r m => r = vInt .i64 0) from rfl) rfl rfl h
set_option maxRecDepth 100000 in
theorem blen_0 {m : Mem} {K : CV → Mem → Prop} (h : K (vInt .i64 0) m) : ACall Try.prog 28 [vInt .u64 0] m K :=
  acall_val (r0 := vInt .i64 0) Try.func28 l28 rfl (Nat.le_of_ble_eq_true rfl) (show body Try.prog c28 [vInt .u64 0] [] (fun r m => r = vInt .i64 0) from len64_0 rfl) rfl rfl h
set_option maxRecDepth 100000 in
set_option maxHeartbeats 4000000 in
theorem ins_0 {m : Mem} {K : CV → Mem → Prop} (h : K (.tup []) m) : ACall Try.prog 33 [polsV [], vInt .i64 0, vInt .i64 0, .rv (.one (.fn 15 []))] m K := by
  refine acall_val (r0 := .tup []) Try.func33 l33 rfl (Nat.le_of_ble_eq_true rfl) ?_ rfl rfl h
  refine loop_keep (fun _ : Nat => True) [0, 1, 2, 3, 8] (fun _ => []) (fun _ => []) (fun _ => 0) 0 trivial ?_ (fun _ _ => ?_)
  · refine View.of 0 [] [] rfl rfl rfl rfl rfl rfl ?_ (.nil _)
    repeat (first | exact .nil | refine .junk ?_ | refine .eq rfl ?_)
  · rfl
set_option maxRecDepth 100000 in
set_option maxHeartbeats 4000000 in
theorem pdq_0 {m : Mem} {K : CV → Mem → Prop} (h : K (.tup []) m) : ACall Try.prog 27 [polsV [], vInt .i64 0, vInt .i64 0, vInt .i64 0, .rv (.one (.fn 15 []))] m K := by
  refine acall_val (r0 := .tup []) Try.func27 l27 rfl (Nat.le_of_ble_eq_true rfl) ?_ rfl rfl h
  refine loop_keep (fun _ : Nat => True) [0, 1, 2, 3, 4, 10, 11] (fun _ => []) (fun _ => []) (fun _ => 0) 0 trivial ?_ (fun _ _ => ?_)
  · refine View.of 0 [] [] rfl rfl rfl rfl rfl rfl ?_ (.nil _)
    repeat (first | exact .nil | refine .junk ?_ | refine .eq rfl ?_)
  · refine ins_0 ?_
    rfl
set_option maxRecDepth 100000 in
theorem psort_0 {m : Mem} {K : CV → Mem → Prop} (h : K (.tup []) m) : ACall Try.prog 14 [polsV [], .rv (.one (.fn 15 []))] m K := by
  refine acall_val (r0 := .tup []) Try.func14 l14 rfl (Nat.le_of_ble_eq_true rfl) ?_ rfl rfl h
  refine blen_0 ?_
  refine pdq_0 ?_
  rfl
/-! Clone -/
set_option maxRecDepth 100000 in
theorem pclone_body (l : List Pol) (hl : l.length ≤ 4194304) : body Try.prog c13 [polsV l] [] (fun r m => FrzV m r (polsV l)) := by
  have big : ((([] : List (List CC)).length + ((l.map Pol.enc).map fun ds => ds.map CC.dat).length) * 32) ≤ 140737488355328 := by simp; omega
  refine bB_split (fun h => ?_) (fun h => ?_)
  · have hd : l = [] := List.eq_nil_of_length_eq_zero (by simpa using Nat.eq_of_beq_eq_true h)
    subst hd
    exact ⟨.rv (.one (.esl 2)), big, .rv (.one (FrzC.rowD rfl 0 none))⟩
  · exact ⟨big, .rv (.one (FrzC.rowD rfl 0 none))⟩
theorem pclone_ok (l : List Pol) (hl : l.length ≤ 4194304) {m : Mem} {K : CV → Mem → Prop} (h : K (polsV l) m) : ACall Try.prog 13 [polsV l] m K :=
  acall_frame (acall_body Try.func13 l13 rfl (Nat.le_of_ble_eq_true rfl) (pclone_body l hl)) (by simp [polsV, CV.isD, CC.isD]) fun r m1 hf => ⟨_, hf, h⟩
set_option maxRecDepth 100000 in
theorem pclone2_body (l : List Pol) (hne : l ≠ []) (hl : l.length ≤ 4194304) : body Try.prog c13 [polsV l] [] (fun r m => ∃ r' m', View 0 ⟨[r], m⟩ ⟨[r'], m'⟩ ∧ r' = .rv (.one (.row 0 2 0 none)) ∧ m' = [.row 2 (dRows (l.map Pol.enc))]) := by
  have big : ((([] : List (List CC)).length + ((l.map Pol.enc).map fun ds => ds.map CC.dat).length) * 32) ≤ 140737488355328 := by simp; omega
  refine bB_no ?_ ?_
  · have : (l.map Pol.enc).length ≠ 0 := by simp [hne]
    cases h : Nat.beq (l.map Pol.enc).length 0 with
    | false => rfl
    | true => exact absurd (Nat.eq_of_beq_eq_true h) this
  · refine ⟨big, _, _, View.of 2 [1] [] rfl rfl rfl rfl rfl rfl (.eq rfl .nil) (.put (notF rfl) rfl (.rowDE (by simp [dRows, subL])) (.nil _)), rfl, rfl⟩
theorem pclone_row (l : List Pol) (hne : l ≠ []) (hl : l.length ≤ 4194304) {m : Mem} {K : CV → Mem → Prop} (h : K (.rv (.one (.row m.length 2 0 none))) (m ++ [.row 2 (dRows (l.map Pol.enc))])) : ACall Try.prog 13 [polsV l] m K := by
  refine acall_borrow [] m.length rfl rfl rfl rfl (args0 := [polsV l]) rfl (fun i b' hi => by simp at hi) (K0 := fun r m => r = .rv (.one (.row 0 2 0 none)) ∧ m = [.row 2 (dRows (l.map Pol.enc))])
    (acall_view (acall_body Try.func13 l13 rfl (Nat.le_of_ble_eq_true rfl) (pclone2_body l hne hl)) fun r m1 h => h) (fun r m1 hr => ?_)
  obtain ⟨rfl, rfl⟩ := hr
  refine ⟨Nat.zero_le _, ?_⟩
  show K (.rv (.one (.row (m.length + (0 - 0)) 2 0 none))) (app2 m [Bk.ren _ _])
  rw [app2_eq, Bk.ren_dRows]
  exact h
/-! Compile -/
theorem frz2p {m : Mem} {a b : RV} {f : Int × Int} (h : FrzR m a b) : FrzV m (.tup [a, .agg [.dat (.val (.int .i64 f.1)), .dat (.val (.int .i64 f.2))]]) (.tup [b, .agg [.dat (.val (.int .i64 f.1)), .dat (.val (.int .i64 f.2))]]) := by
  refine .tup rfl fun i r r' h1 h2 => ?_
  match i, h1, h2 with
  | 0, h1, h2 => cases h1; cases h2; exact h
  | 1, h1, h2 => cases h1; cases h2; exact FrzR.self rfl
def pfRV (l : List Ins) (f : Int × Int) : CV := .tup [.one (.dat (insD l)), .agg [.dat (.val (.int .i64 f.1)), .dat (.val (.int .i64 f.2))]]
set_option maxRecDepth 100000 in
set_option maxHeartbeats 16000000 in
theorem comp_body (l : List Pol) : body Try.prog c6 [polsV l] [] (fun r m => ((wrongS l).1 ≠ 0 → FrzV m r (pfRV [] (wrongS l))) ∧ ((wrongS l).1 = 0 → ∃ l', l'.Perm l ∧ rising l' ∧ FrzV m r (pfRV (compS l') (0, 0)))) := by
  refine wrong_ok l ?_
  refine bB_bne (fun h => ?_) (fun h => ?_)
  · refine ⟨trivial, ?_⟩
    have h : (wrongS l).1 ≠ 0 := h
    exact ⟨fun _ => frz2p (.one (.esl 4)), fun h0 => absurd h0 h⟩
  have h : (wrongS l).1 = 0 := h
  obtain ⟨h30, hg, hd⟩ := wrong_facts h
  have app : ∀ l' : List Pol, l'.Perm l → (1 + (((treeF l'.length l').map Ins.enc).map fun ds => ds.map CC.dat).length) * 32 ≤ 140737488355328 := by
    intro l' hp
    have := tree_len30 (n := l'.length) (l := l') (fun p hp' => (hg p (hp.mem_iff.1 hp')).2.2.1) (by rw [hp.length_eq]; exact h30) (Nat.le_refl _)
    simp; omega
  by_cases hne : l = []
  · subst hne
    refine pclone_ok [] (by decide) ?_
    refine psort_0 ?_
    refine tree_ok 0 [] (by decide) (by decide) (by simp) ?_
    refine ⟨by decide, fun h0 => absurd h h0, fun _ => ⟨[], .refl _, .nil, frz2p (f := (0, 0)) (.one (FrzC.rowD (ds := (compS []).map Ins.enc) rfl 0 none))⟩⟩
  · refine pclone_row l hne (by omega) ?_
    refine psort_ok l hne (by omega) rfl fun l' hp hs => ?_
    have hr := rising_of hs (distinct_perm hp hd)
    have hl' : l'.length ≤ 30 := by rw [hp.length_eq]; exact h30
    refine acall_pre (args' := [polsV l']) (m' := [.var [.dat (.val (.int .i64 0)), .dat (.val (.int .i64 0))], .var [.dat (.val (.int .i64 (wrongS l).1)), .dat (.val (.int .i64 (wrongS l).2))], .dead, .row 4 [[.dat (.val (.int .i64 1)), .dat (.val (.int .i64 0)), .dat (.val (.int .i64 0)), .dat (.val (.int .i64 0))]]])
      (View.of 4 [0, 1, 2, 3] [2] rfl rfl rfl rfl rfl rfl (.put (VwV.frz 2 (l'.map Pol.enc) rfl rfl) .nil) (.put (notF rfl) rfl (.eq rfl (by simp)) (.put (notF rfl) rfl (.eq rfl (by simp)) (.dead (.put (notF rfl) rfl (.eq rfl (by simp)) (.nil _)))))) ?_
    refine tree_ok l'.length l' (Nat.le_refl _) hl' (fun p hp' => (hg p (hp.mem_iff.1 hp')).2.2.1) ?_
    refine ⟨app l' hp, fun h0 => absurd h h0, fun _ => ⟨l', hp, hr, frz2p (f := (0, 0)) (.one (FrzC.rowD (ds := (compS l').map Ins.enc) ?_ 0 none))⟩⟩
    rfl
theorem comp_ok (l : List Pol) {m : Mem} {K : CV → Mem → Prop} (h1 : (wrongS l).1 ≠ 0 → K (pfRV [] (wrongS l)) m) (h2 : (wrongS l).1 = 0 → ∀ l' : List Pol, l'.Perm l → rising l' → K (pfRV (compS l') (0, 0)) m) : ACall Try.prog 6 [polsV l] m K := by
  refine acall_frame (acall_body Try.func6 l6 rfl (Nat.le_of_ble_eq_true rfl) (comp_body l)) (by simp [polsV, CV.isD, CC.isD]) fun r m1 hf => ?_
  by_cases h : (wrongS l).1 = 0
  · obtain ⟨l', hp, hr, hz⟩ := hf.2 h
    exact ⟨_, hz, h2 h l' hp hr⟩
  · exact ⟨_, hf.1 h, h1 h⟩


end Go.Proofs.Ytjllbjbpdnhceaa
