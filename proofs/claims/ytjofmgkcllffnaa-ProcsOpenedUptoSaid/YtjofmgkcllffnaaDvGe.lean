import Derived.Test.YtjofmgkcllffnaaAmZ2
import Derived.Test.YtjofmgkcllffnaaDvGc
import Derived.Test.YtjofmgkcllffnaaAmY
import Derived.Test.YtjofmgkcllffnaaAmZ4
set_option linter.unusedVariables false
set_option linter.unusedSimpArgs false
namespace Go.Proofs.Ytjofmgkcllffnaa
open Go.AM Go.ChangeShapes Go.WideShapes Go.ChangeAt Go.RowKit
def c40 : LF := ⟨17, [], (.seq (.reg [
    ⟨(some 5), .fadr 0 (.t 1), none⟩,
    ⟨(some 6), .load false 1 (.t 5), none⟩,
    ⟨(some 7), .mov (.t 0), none⟩,
    ⟨(some 8), .call (.c (.rv (.one (.fn 13 [])))) [(.t 6), (.t 7), (.c (.rv (.one (.dat (.val (.int .i64 (0)))))))], none⟩,
    ⟨(some 9), .mov (.t 8), none⟩,
    ⟨(some 10), .load false 1 (.t 2), (some (9, true))⟩,
    ⟨(some 11), .mov (.t 0), (some (9, true))⟩,
    ⟨(some 12), .mget (.one (.dat (.val (.bool false)))) (.i .i64) (.t 10) (.t 11) false, (some (9, true))⟩,
    ⟨(some 13), .un .not (.t 12), (some (9, true))⟩,
    ⟨(some 14), .pick (.t 9) (.t 13) (.c (.rv (.one (.dat (.val (.bool false)))))), none⟩]) (.cond (.t 14) (.seq (.reg [
    ⟨(some 15), .load false 1 (.t 2), none⟩,
    ⟨(some 16), .mov (.t 0), none⟩,
    ⟨none, .mset (.i .i64) (.t 15) (.t 16) (.c (.rv (.one (.dat (.val (.bool true)))))), none⟩]) (.reg [
    ⟨none, .store 1 (.t 3) (.c (.rv (.one (.dat (.val (.bool true)))))), none⟩])) .skip))⟩
def c41 : LF := ⟨24, [], (.seq (.reg [
    ⟨(some 3), .box (.t 0), none⟩]) (.seq (.reg [
    ⟨(some 4), .fadr 0 (.t 3), none⟩,
    ⟨(some 5), .load false 1 (.t 4), none⟩,
    ⟨(some 6), .bin .geq (.t 5) (.c (.rv (.one (.dat (.val (.int .i64 (0))))))), none⟩,
    ⟨(some 7), .mov (.t 6), none⟩,
    ⟨(some 8), .fadr 0 (.t 3), (some (7, true))⟩,
    ⟨(some 9), .load false 1 (.t 8), (some (7, true))⟩,
    ⟨(some 10), .fadr 1 (.t 1), (some (7, true))⟩,
    ⟨(some 11), .load false 1 (.t 10), (some (7, true))⟩,
    ⟨(some 12), .len 1 (.t 11), (some (7, true))⟩,
    ⟨(some 13), .bin .lss (.t 9) (.t 12), (some (7, true))⟩,
    ⟨(some 14), .pick (.t 7) (.t 13) (.c (.rv (.one (.dat (.val (.bool false)))))), none⟩]) (.cond (.t 14) (.draw [
    ⟨(some 15), .load false 1 (.t 2), none⟩,
    ⟨(some 16), .fadr 1 (.t 1), none⟩,
    ⟨(some 17), .load false 1 (.t 16), none⟩,
    ⟨(some 18), .fadr 0 (.t 3), none⟩,
    ⟨(some 19), .load false 1 (.t 18), none⟩,
    ⟨(some 20), .idx 2 (.t 17) (.t 19), none⟩,
    ⟨(some 21), .fadr 0 (.t 20), none⟩,
    ⟨(some 22), .load false 1 (.t 21), none⟩,
    ⟨(some 23), .call (.t 15) [(.t 22)], none⟩]
    [(.cons 0 none (.cons 1 none (.cons 2 none (.cons 3 none (.cons 4 none (.cons 5 none (.cons 6 none (.cons 7 none (.cons 8 (some []) .nil)))))))))]) .skip)))⟩
/-! Reach of the document: the least set that is closed, as a map -/
theorem l40 : lowF Try.prog Try.f40 = some c40 := by kernel_rfl
theorem l41 : lowF Try.prog Try.f41 = some c41 := by kernel_rfl
def tt1 : RV := .one (.dat (.val (.bool true)))
def entN (n : Nat) : ME := ⟨.int .i64 (n : Nat), tt1⟩
def inN (L : List Nat) (z : Int) : Bool := L.any fun n => z == (n : Int)
theorem mFind_N (z : Int) : ∀ L : List Nat, mFind (.int .i64 z) (L.map entN) = some (if inN L z = true then some tt1 else none)
  | [] => rfl
  | n :: r => by
    have ih := mFind_N z r
    simp only [List.map_cons, mFind, entN, keyEq, decide_true]
    simp only [inN, List.any_cons] at ih ⊢
    by_cases h : z = (n : Int)
    · subst h
      simp
    · have h1 : (z == (n : Int)) = false := by simpa using h
      simp only [h1, Bool.false_or]
      exact ih
theorem mSet_N (z : Int) : ∀ L : List Nat, inN L z = false → mSet (.int .i64 z) tt1 (L.map entN) = some (L.map entN ++ [⟨.int .i64 z, tt1⟩])
  | [], _ => rfl
  | n :: r, h => by
    simp only [inN, List.any_cons, Bool.or_eq_false_iff] at h
    obtain ⟨h1, h2⟩ := h
    have ih := mSet_N z r h2
    simp only [List.map_cons, mSet, entN, keyEq, decide_true, h1]
    rw [ih]
    rfl
theorem mapN_ren {σ : Nat → Nat} (L : List Nat) : (Bk.mp (L.map entN)).ren σ = .mp (L.map entN) := by
  simp [Bk.ren, RV.ren, CC.ren, entN, tt1, Function.comp_def]
theorem inN_iff {L : List Nat} {n : Nat} : inN L (n : Int) = true ↔ n ∈ L := by
  rw [inN, List.any_eq_true]
  constructor
  · rintro ⟨x, hx, h⟩
    have : (n : Int) = x := by simpa using h
    have : n = x := by omega
    rw [this]; exact hx
  · intro h
    exact ⟨n, h, by simp⟩
/-- one more is marked -/
def markL (l : List Obj) (z : Int) (L : List Nat) : List Nat := if (isS l z 0 && !inN L z) = true then L ++ [z.toNat] else L
def markM (l : List Obj) (z : Int) (L : List Nat) (more : Bool) : Bool := if (isS l z 0 && !inN L z) = true then true else more
theorem isS0 {l : List Obj} {z : Int} : isS l z 0 = true ↔ ∃ n, vO l z n := by
  unfold isS vO
  constructor
  · intro h
    by_cases h0 : z ≥ 0
    · obtain ⟨n, rfl⟩ : ∃ n : Nat, z = n := ⟨z.toNat, by omega⟩
      by_cases hn : n < l.length
      · simp [hn] at h
        exact ⟨n, rfl, l[n], List.getElem?_eq_getElem hn, h⟩
      · simp [hn] at h
    · simp [h0] at h
  · rintro ⟨n, rfl, o, ho, hk⟩
    obtain ⟨hn, rfl⟩ := List.getElem?_eq_some_iff.1 ho
    simp [hn, hk]
def kB (l : List Obj) (ops : List Opn) (ps : List Prc) : Bk := .var [.dat (objsD l), .dat (opnD ops), .dat (prcD ps)]
def hadC : Bk := .var [.map 1]
def boolC (b : Bool) : Bk := .var [.dat (.val (.bool b))]
set_option maxRecDepth 100000 in
set_option maxHeartbeats 4000000 in
theorem rmark_body (l : List Obj) (ops : List Opn) (ps : List Prc) (z : Int) (L : List Nat) (more : Bool) :
    body Try.prog c40 [vInt .i64 z, .rv (.one (.ptr 0 0)), .rv (.one (.ptr 2 0)), .rv (.one (.ptr 3 0))] [kB l ops ps, .mp (L.map entN), hadC, boolC more]
      (fun r m => r = .tup [] ∧ m = [kB l ops ps, .mp ((markL l z L).map entN), hadC, boolC (markM l z L more)]) := by
  refine is_ok l z 0 ?_
  cases hI : isS l z 0 with
  | false =>
    have e1 : markL l z L = L := by rw [markL, hI]; rfl
    have e2 : markM l z L more = more := by rw [markM, hI]; rfl
    rw [e1, e2]
    exact ⟨rfl, rfl⟩
  | true =>
    refine ok_some (mFind_N z L) ?_
    cases hN : inN L z with
    | true =>
      have e1 : markL l z L = L := by rw [markL, hI, hN]; rfl
      have e2 : markM l z L more = more := by rw [markM, hI, hN]; rfl
      rw [e1, e2]
      exact ⟨rfl, rfl⟩
    | false =>
      have e1 : markL l z L = L ++ [z.toNat] := by rw [markL, hI, hN]; rfl
      have e2 : markM l z L more = true := by rw [markM, hI, hN]; rfl
      rw [e1, e2]
      refine ok_some (mSet_N z L hN) ?_
      obtain ⟨n, rfl, _⟩ := isS0.1 hI
      refine ⟨rfl, ?_⟩
      rw [List.map_append]
      rfl
theorem sg_low {l : List Nat} {n k x : Nat} (h : nth l k = some x) : sg l n k = x := by simp [sg, h]
set_option maxRecDepth 100000 in
theorem rmark_ok (l : List Obj) (ops : List Opn) (ps : List Prc) (z : Int) (L : List Nat) (more : Bool) (R : Mem) {K : CV → Mem → Prop} (h : K (.tup []) (kB l ops ps :: .mp ((markL l z L).map entN) :: hadC :: boolC (markM l z L more) :: R)) :
    ACall Try.prog 40 [vInt .i64 z, .rv (.one (.ptr 0 0)), .rv (.one (.ptr 2 0)), .rv (.one (.ptr 3 0))] (kB l ops ps :: .mp (L.map entN) :: hadC :: boolC more :: R) K := by
  refine acall_borrow [0, 1, 2, 3] (R.length + 4) rfl rfl rfl (by simp [allLt, Nat.blt]) (args0 := [vInt .i64 z, .rv (.one (.ptr 0 0)), .rv (.one (.ptr 2 0)), .rv (.one (.ptr 3 0))]) rfl (m0 := [kB l ops ps, .mp (L.map entN), hadC, boolC more]) (fun i b' hi => ?_)
    (acall_body Try.func40 l40 rfl (Nat.le_of_ble_eq_true rfl) (rmark_body l ops ps z L more)) (fun r m1 hr => ?_)
  · match i, hi with
    | 0, hi => cases hi; exact .inr ⟨fun h => h, _, rfl, .eq rfl (by simp [kB])⟩
    | 1, hi => cases hi; exact .inr ⟨fun h => h, _, rfl, .eq (mapN_ren L) (by simp)⟩
    | 2, hi => cases hi; exact .inr ⟨fun h => h, _, rfl, .eq rfl (by simp [hadC])⟩
    | 3, hi => cases hi; exact .inr ⟨fun h => h, _, rfl, .eq rfl (by simp [boolC])⟩
    | n + 4, hi => simp at hi
  · obtain ⟨rfl, rfl⟩ := hr
    refine ⟨Nat.le_refl _, ?_⟩
    show K (.tup []) (kB l ops ps :: (Bk.mp ((markL l z L).map entN)).ren (sg [0, 1, 2, 3] (R.length + 4)) :: hadC :: boolC (markM l z L more) :: app2 R [])
    rw [mapN_ren, app2_eq, List.append_nil]
    exact h
/-! what a capability leads to -/
def capZ (ops : List Opn) (z : Int) : Int := if 0 ≤ z then (match ops[z.toNat]? with | some o => o.obj | none => -1) else -1
theorem markL_neg (l : List Obj) (L : List Nat) (more : Bool) : markL l (-1) L = L ∧ markM l (-1) L more = more := by
  have : isS l (-1) 0 = false := by simp [isS]
  constructor
  · rw [markL, this]; rfl
  · rw [markM, this]; rfl
def fnB : Bk := .var [.fn 40 [0, 2, 3]]
theorem opn_get {ops : List Opn} {k : Nat} (h : k < ops.length) : getZ (ops.map Opn.enc) (k : Nat) = some [.val (.int .i64 ops[k].obj), .val (.int .i64 ops[k].at')] := by
  rw [getZ_nat, List.getElem?_map, List.getElem?_eq_getElem h]; rfl
set_option maxRecDepth 100000 in
set_option maxHeartbeats 4000000 in
theorem rcap_body (l : List Obj) (ops : List Opn) (ps : List Prc) (z rts : Int) (L : List Nat) (more : Bool) :
    body Try.prog c41 [.rv (.agg [.dat (.val (.int .i64 z)), .dat (.val (.int .i64 rts))]), .rv (.one (.ptr 0 0)), .rv (.one (.ptr 4 0))] [kB l ops ps, .mp (L.map entN), hadC, boolC more, fnB]
      (fun r m => r = .tup [] ∧ ∃ x, m = [kB l ops ps, .mp ((markL l (capZ ops z) L).map entN), hadC, boolC (markM l (capZ ops z) L more), fnB, x]) := by
  obtain ⟨n1, n2⟩ := markL_neg l L more
  refine bB_dec (fun h0 => ?_) (fun h0 => ?_)
  · obtain ⟨n, rfl⟩ : ∃ n : Nat, z = n := ⟨z.toNat, by omega⟩
    refine bB_dec (fun h => ?_) (fun h => ?_)
    · have hlt : n < ops.length := by
        have h : (n : Int) < ((ops.map Opn.enc).length : Int) := h
        rw [List.length_map] at h
        omega
      have hz : capZ ops (n : Int) = ops[n].obj := by
        rw [capZ, if_pos (by omega), Int.toNat_natCast, List.getElem?_eq_getElem hlt]
      rw [hz]
      refine ok_some (opn_get hlt) ?_
      refine rmark_ok l ops ps ops[n].obj L more [fnB, .var [.dat (.val (.int .i64 (n : Nat))), .dat (.val (.int .i64 rts))]] ?_
      exact ⟨trivial, rfl, _, rfl⟩
    · have hge : ops.length ≤ n := by
        have h : ¬ (n : Int) < ((ops.map Opn.enc).length : Int) := h
        rw [List.length_map] at h
        omega
      have hz : capZ ops (n : Int) = -1 := by
        rw [capZ, if_pos (by omega), Int.toNat_natCast, List.getElem?_eq_none hge]
      rw [hz, n1, n2]
      exact ⟨rfl, _, rfl⟩
  · have hz : capZ ops z = -1 := by rw [capZ, if_neg (by omega)]
    rw [hz, n1, n2]
    exact ⟨rfl, _, rfl⟩
set_option maxRecDepth 100000 in
theorem rcap_ok (l : List Obj) (ops : List Opn) (ps : List Prc) (z rts : Int) (L : List Nat) (more : Bool) (R : Mem) {K : CV → Mem → Prop} (h : K (.tup []) (kB l ops ps :: .mp ((markL l (capZ ops z) L).map entN) :: hadC :: boolC (markM l (capZ ops z) L more) :: fnB :: R)) :
    ACall Try.prog 41 [.rv (.agg [.dat (.val (.int .i64 z)), .dat (.val (.int .i64 rts))]), .rv (.one (.ptr 0 0)), .rv (.one (.ptr 4 0))] (kB l ops ps :: .mp (L.map entN) :: hadC :: boolC more :: fnB :: R) K := by
  refine acall_borrow [0, 1, 2, 3, 4] (R.length + 5) rfl rfl rfl (by simp [allLt, Nat.blt]) (args0 := [.rv (.agg [.dat (.val (.int .i64 z)), .dat (.val (.int .i64 rts))]), .rv (.one (.ptr 0 0)), .rv (.one (.ptr 4 0))]) rfl (m0 := [kB l ops ps, .mp (L.map entN), hadC, boolC more, fnB]) (fun i b' hi => ?_)
    (K0 := fun r m => r = .tup [] ∧ m = [kB l ops ps, .mp ((markL l (capZ ops z) L).map entN), hadC, boolC (markM l (capZ ops z) L more), fnB])
    (acall_view (acall_body Try.func41 l41 rfl (Nat.le_of_ble_eq_true rfl) (rcap_body l ops ps z rts L more)) (fun r m1 hr => ?_)) (fun r m1 hr => ?_)
  · match i, hi with
    | 0, hi => cases hi; exact .inr ⟨fun h => h, _, rfl, .eq rfl (by simp [kB])⟩
    | 1, hi => cases hi; exact .inr ⟨fun h => h, _, rfl, .eq (mapN_ren L) (by simp)⟩
    | 2, hi => cases hi; exact .inr ⟨fun h => h, _, rfl, .eq rfl (by simp [hadC])⟩
    | 3, hi => cases hi; exact .inr ⟨fun h => h, _, rfl, .eq rfl (by simp [boolC])⟩
    | 4, hi => cases hi; exact .inr ⟨fun h => h, _, rfl, .eq rfl (by simp [fnB])⟩
    | n + 5, hi => simp at hi
  · obtain ⟨rfl, x, rfl⟩ := hr
    refine ⟨.tup [], [kB l ops ps, .mp ((markL l (capZ ops z) L).map entN), hadC, boolC (markM l (capZ ops z) L more), fnB], View.of 6 [0, 1, 2, 3, 4] [] rfl rfl rfl rfl rfl rfl (.eq rfl .nil) ?_, rfl, rfl⟩
    exact .put (notF rfl) rfl (.eq rfl (by simp [kB])) (.put (notF rfl) rfl (.eq (mapN_ren _) (by simp)) (.put (notF rfl) rfl (.eq rfl (by simp [hadC])) (.put (notF rfl) rfl (.eq rfl (by simp [boolC])) (.put (notF rfl) rfl (.eq rfl (by simp [fnB])) (.nil _)))))
  · obtain ⟨rfl, rfl⟩ := hr
    refine ⟨Nat.le_refl _, ?_⟩
    show K (.tup []) (kB l ops ps :: (Bk.mp ((markL l (capZ ops z) L).map entN)).ren (sg [0, 1, 2, 3, 4] (R.length + 5)) :: hadC :: boolC (markM l (capZ ops z) L more) :: fnB :: app2 R [])
    rw [mapN_ren, app2_eq, List.append_nil]
    exact h

/-! plain -/
theorem vO_fun {l : List Obj} {z : Int} {n k : Nat} (h : vO l z n) (h2 : vO l z k) : n = k := by
  have a := h.1
  have b := h2.1
  omega
structure RInv (l : List Obj) (ops : List Opn) (ps : List Prc) (L : List Nat) : Prop where
  nd : L.Nodup
  val : ∀ n, n ∈ L → vO l (n : Int) n
  root : ∀ n, vO l 0 n → n ∈ L
  least : ∀ RO RP, Cl l ops RO RP → Roots l ops ps RO RP → ∀ n, n ∈ L → RO n
structure ReachOK (l : List Obj) (ops : List Opn) (ps : List Prc) (L : List Nat) : Prop where
  inv : RInv l ops ps L
  cp : ∀ (p : Nat) pr, ps[p]? = some pr → pr.live = true → ∀ s, s ∈ pr.slots → s.has = true → ∀ n, vO l (capZ ops s.opn) n → n ∈ L
  ce : ∀ (i : Nat) o, i ∈ L → l[i]? = some o → ∀ z, sE o z → ∀ n, vO l z n → n ∈ L
  cq : ∀ (i : Nat) o, i ∈ L → l[i]? = some o → ∀ q, q ∈ o.queue → q.has = true → ∀ n, vO l (capZ ops q.opn) n → n ∈ L
def unm (N : Nat) (L : List Nat) : Nat := ((List.range N).filter fun i => decide (i ∉ L)).length
theorem unm_snoc {N n : Nat} {L : List Nat} (hn : n < N) (h : n ∉ L) : unm N (L ++ [n]) < unm N L := by
  have e : ((List.range N).filter fun i => decide (i ∉ L ++ [n])) = ((List.range N).filter fun i => decide (i ∉ L)).filter fun i => decide (i ≠ n) := by
    rw [List.filter_filter]
    apply List.filter_congr
    intro x _
    simp only [List.mem_append, List.mem_singleton, not_or, Bool.decide_and, ne_eq]
    rw [Bool.and_comm]
  rw [unm, e, unm, List.length_filter_lt_length_iff_exists]
  exact ⟨n, by simp [hn, h], by simp⟩
structure Pass (l : List Obj) (ops : List Opn) (ps : List Prc) (L0 L : List Nat) (more : Bool) : Prop where
  inv : RInv l ops ps L
  sub : ∀ n, n ∈ L0 → n ∈ L
  eq : more = false → L = L0
  big : more = true → unm l.length L < unm l.length L0
theorem markL_sub {l : List Obj} {z : Int} {L : List Nat} {n : Nat} (h : n ∈ L) : n ∈ markL l z L := by
  rw [markL]
  split
  · simp [h]
  · exact h
theorem markL_on {l : List Obj} {z : Int} {L : List Nat} {n : Nat} (h : vO l z n) : n ∈ markL l z L := by
  have hI : isS l z 0 = true := isS0.2 ⟨n, h⟩
  have hz := h.1
  rw [markL, hI]
  cases hN : inN L z with
  | true =>
    rw [hz] at hN
    exact inN_iff.1 hN
  | false =>
    simp [hz]
theorem Pass.mark {l : List Obj} {ops : List Opn} {ps : List Prc} {L0 L : List Nat} {more : Bool} {z : Int} (h : Pass l ops ps L0 L more)
    (hz : ∀ RO RP, Cl l ops RO RP → Roots l ops ps RO RP → (∀ m, m ∈ L → RO m) → ∀ n, vO l z n → RO n) : Pass l ops ps L0 (markL l z L) (markM l z L more) := by
  by_cases hc : (isS l z 0 && !inN L z) = true
  · have e1 : markL l z L = L ++ [z.toNat] := if_pos hc
    have e2 : markM l z L more = true := if_pos hc
    have hc : isS l z 0 = true ∧ inN L z = false := by simpa using hc
    obtain ⟨n, hn⟩ := isS0.1 hc.1
    have hzn : z = n := hn.1
    have hnn : n < l.length := by obtain ⟨_, o, ho, _⟩ := hn; exact (List.getElem?_eq_some_iff.1 ho).1
    have hni : n ∉ L := fun hm => by
      have := inN_iff.2 hm
      rw [← hzn, hc.2] at this
      cases this
    have e3 : z.toNat = n := by omega
    rw [e1, e2, e3]
    have hbig : unm l.length (L ++ [n]) < unm l.length L := unm_snoc hnn hni
    refine ⟨⟨?_, fun m hm => ?_, fun m hm => by simp [h.inv.root m hm], fun RO RP hcl hr m hm => ?_⟩, fun m hm => by simp [h.sub m hm], (fun h => by cases h), fun _ => ?_⟩
    · rw [List.nodup_append]
      refine ⟨h.inv.nd, by simp, fun a ha b hb => ?_⟩
      have : b = n := by simpa using hb
      intro e
      rw [e, this] at ha
      exact hni ha
    · rcases List.mem_append.1 hm with hm | hm
      · exact h.inv.val m hm
      · have : m = n := by simpa using hm
        subst this
        rw [hzn] at hn
        exact hn
    · rcases List.mem_append.1 hm with hm | hm
      · exact h.inv.least RO RP hcl hr m hm
      · have : m = n := by simpa using hm
        subst this
        exact hz RO RP hcl hr (fun x hx => h.inv.least RO RP hcl hr x hx) m hn
    · cases hmr : more with
      | true => have := h.big hmr; omega
      | false => rw [← h.eq hmr]; exact hbig
  · have e1 : markL l z L = L := if_neg hc
    have e2 : markM l z L more = more := if_neg hc
    rw [e1, e2]
    exact h
def Done (l : List Obj) (S : Int → Prop) (L : List Nat) : Prop := ∀ z, S z → ∀ n, vO l z n → n ∈ L
theorem Done.mark {l : List Obj} {S S' : Int → Prop} {L : List Nat} {z : Int} (h : Done l S L) (hS : ∀ y, S' y → S y ∨ y = z) : Done l S' (markL l z L) := fun y hy n hn => by
  rcases hS y hy with h1 | rfl
  · exact markL_sub (h y h1 n hn)
  · exact markL_on hn
theorem Done.mono {l : List Obj} {S S' : Int → Prop} {L : List Nat} (h : Done l S L) (hS : ∀ y, S' y → S y) : Done l S' L := fun y hy n hn => h y (hS y hy) n hn
def S1 (ops : List Opn) (ps : List Prc) (p j : Nat) (z : Int) : Prop := ∃ (i : Nat) (pr : Prc) (k : Nat) (s : Sl3), ps[i]? = some pr ∧ pr.live = true ∧ pr.slots[k]? = some s ∧ s.has = true ∧ (i < p ∨ i = p ∧ k < j) ∧ z = capZ ops s.opn
def S2 (l : List Obj) (ops : List Opn) (ps : List Prc) (L0 : List Nat) (i je jq : Nat) (z : Int) : Prop :=
  S1 ops ps ps.length 0 z ∨ ∃ (i' : Nat) (o : Obj), i' ∈ L0 ∧ l[i']? = some o ∧
    ((∃ (k : Nat) (nm : ByteArray), o.entries[k]? = some (entD (nm, z)) ∧ (i' < i ∨ i' = i ∧ k < je)) ∨ ∃ (k : Nat) (q : Msg), o.queue[k]? = some q ∧ q.has = true ∧ (i' < i ∨ i' = i ∧ k < jq) ∧ z = capZ ops q.opn)
/-- what a capability leads to is in each closed set -/
theorem cap_in {l : List Obj} {ops : List Opn} {RO RP : Nat → Prop} {z : Int} (hcl : Cl l ops RO RP) (h : ∀ c, vP ops z c → RP c) : ∀ n, vO l (capZ ops z) n → RO n := by
  intro n hn
  unfold capZ at hn
  split at hn
  · rename_i h0
    cases ho : ops[z.toNat]? with
    | none =>
      rw [ho] at hn
      have : (-1 : Int) = n := hn.1
      omega
    | some o =>
      rw [ho] at hn
      have hlt := (List.getElem?_eq_some_iff.1 ho).1
      exact hcl.p z.toNat o (h z.toNat ⟨by omega, hlt⟩) ho n hn
  · have := hn.1
    omega
/-! the walk -/
theorem vw5 (l : List Obj) (ops : List Opn) (ps : List Prc) (L : List Nat) (b : Bool) (n : Nat) (R : Mem) : MemVw (sg [0, 1, 2, 3, 4] n) (kB l ops ps :: .mp (L.map entN) :: hadC :: boolC b :: fnB :: R) (fun k => memN [] k = true) 0 [kB l ops ps, .mp (L.map entN), hadC, boolC b, fnB] :=
  .put (notF rfl) rfl (.eq rfl (by simp [kB])) (.put (notF rfl) rfl (.eq (mapN_ren _) (by simp)) (.put (notF rfl) rfl (.eq rfl (by simp [hadC])) (.put (notF rfl) rfl (.eq rfl (by simp [boolC])) (.put (notF rfl) rfl (.eq rfl (by simp [fnB])) (.nil _)))))
theorem vw6 (l : List Obj) (ops : List Opn) (ps : List Prc) (L : List Nat) (b : Bool) (ds : List Dt) (n : Nat) (R : Mem) : MemVw (sg [0, 1, 2, 3, 4, 5] n) (kB l ops ps :: .mp (L.map entN) :: hadC :: boolC b :: fnB :: .var (ds.map .dat) :: R) (fun k => memN [] k = true) 0 [kB l ops ps, .mp (L.map entN), hadC, boolC b, fnB, .var (ds.map .dat)] :=
  .put (notF rfl) rfl (.eq rfl (by simp [kB])) (.put (notF rfl) rfl (.eq (mapN_ren _) (by simp)) (.put (notF rfl) rfl (.eq rfl (by simp [hadC])) (.put (notF rfl) rfl (.eq rfl (by simp [boolC])) (.put (notF rfl) rfl (.eq rfl (by simp [fnB])) (.put (notF rfl) rfl (.varDE rfl) (.nil _))))))
structure StR where
  i : Nat
  L : List Nat
  more : Bool
def M5 (l : List Obj) (ops : List Opn) (ps : List Prc) (a : StR) : Mem := [kB l ops ps, .mp (a.L.map entN), hadC, boolC a.more, fnB]
def M6 (l : List Obj) (ops : List Opn) (ps : List Prc) (ds : List Dt) (a : StR) : Mem := [kB l ops ps, .mp (a.L.map entN), hadC, boolC a.more, fnB, .var (ds.map .dat)]
def ReachP (l : List Obj) (ops : List Opn) (ps : List Prc) (r : CV) (m : Mem) : Prop := ∃ L, ReachOK l ops ps L ∧ r = .rv (.one (.map 0)) ∧ m = [.mp (L.map entN)]
theorem S1_zero {ops : List Opn} {ps : List Prc} {z : Int} : ¬ S1 ops ps 0 0 z := by
  rintro ⟨i, pr, k, s, _, _, _, _, h, _⟩
  omega
theorem S1_step {ops : List Opn} {ps : List Prc} {p j : Nat} {pr : Prc} {s : Sl3} (hp : ps[p]? = some pr) (hs : pr.slots[j]? = some s) {y : Int} (h : S1 ops ps p (j + 1) y) : S1 ops ps p j y ∨ (pr.live = true ∧ s.has = true ∧ y = capZ ops s.opn) := by
  obtain ⟨i, pr', k, s', h1, h2, h3, h4, h5, h6⟩ := h
  by_cases hk : i = p ∧ k = j
  · obtain ⟨rfl, rfl⟩ := hk
    rw [hp] at h1
    cases h1
    rw [hs] at h3
    cases h3
    exact .inr ⟨h2, h4, h6⟩
  · exact .inl ⟨i, pr', k, s', h1, h2, h3, h4, by omega, h6⟩
theorem S1_next {ops : List Opn} {ps : List Prc} {p : Nat} {pr : Prc} (hp : ps[p]? = some pr) {y : Int} (h : S1 ops ps (p + 1) 0 y) : S1 ops ps p pr.slots.length y := by
  obtain ⟨i, pr', k, s', h1, h2, h3, h4, h5, h6⟩ := h
  refine ⟨i, pr', k, s', h1, h2, h3, h4, ?_, h6⟩
  by_cases hi : i = p
  · subst hi
    rw [hp] at h1
    cases h1
    exact .inr ⟨rfl, (List.getElem?_eq_some_iff.1 h3).1⟩
  · exact .inl (by omega)
theorem roots_cap {l : List Obj} {ops : List Opn} {ps : List Prc} {p j : Nat} {pr : Prc} {s : Sl3} (hp : ps[p]? = some pr) (hs : pr.slots[j]? = some s) (hl : pr.live = true) (hh : s.has = true) (L : List Nat) :
    ∀ RO RP, Cl l ops RO RP → Roots l ops ps RO RP → (∀ m, m ∈ L → RO m) → ∀ n, vO l (capZ ops s.opn) n → RO n :=
  fun RO RP hcl hr _ n hn => cap_in hcl (fun c hc => hr.2 p pr hp hl s (List.mem_of_getElem? hs) hh c hc) n hn
theorem S2_zero {l : List Obj} {ops : List Opn} {ps : List Prc} {L0 : List Nat} {z : Int} (h : S2 l ops ps L0 0 0 0 z) : S1 ops ps ps.length 0 z := by
  rcases h with h | ⟨i, o, _, _, ⟨k, nm, _, h⟩ | ⟨k, q, _, _, h, _⟩⟩
  · exact h
  · omega
  · omega
theorem S2_skip {l : List Obj} {ops : List Opn} {ps : List Prc} {L0 : List Nat} {i : Nat} (hi : i ∉ L0) {z : Int} (h : S2 l ops ps L0 (i + 1) 0 0 z) : S2 l ops ps L0 i 0 0 z := by
  rcases h with h | ⟨i', o, h1, h2, ⟨k, nm, h3, h4⟩ | ⟨k, q, h3, h4, h5, h6⟩⟩
  · exact .inl h
  · refine .inr ⟨i', o, h1, h2, .inl ⟨k, nm, h3, ?_⟩⟩
    have : i' ≠ i := fun e => hi (e ▸ h1)
    omega
  · refine .inr ⟨i', o, h1, h2, .inr ⟨k, q, h3, h4, ?_, h6⟩⟩
    have : i' ≠ i := fun e => hi (e ▸ h1)
    omega
theorem S2_ent {l : List Obj} {ops : List Opn} {ps : List Prc} {L0 : List Nat} {i k : Nat} {o : Obj} {nm : ByteArray} {y : Int} (ho : l[i]? = some o) (he : o.entries[k]? = some (entD (nm, y))) {z : Int} (h : S2 l ops ps L0 i (k + 1) 0 z) : S2 l ops ps L0 i k 0 z ∨ z = y := by
  rcases h with h | ⟨i', o', h1, h2, ⟨k', nm', h3, h4⟩ | ⟨k', q, h3, h4, h5, h6⟩⟩
  · exact .inl (.inl h)
  · by_cases hk : i' = i ∧ k' = k
    · obtain ⟨rfl, rfl⟩ := hk
      rw [ho] at h2
      cases h2
      rw [he] at h3
      simp only [entD, Option.some.injEq, List.cons.injEq, Dt.val.injEq, Value.string.injEq, Value.int.injEq] at h3
      exact .inr h3.2.1.2.symm
    · exact .inl (.inr ⟨i', o', h1, h2, .inl ⟨k', nm', h3, by omega⟩⟩)
  · exact .inl (.inr ⟨i', o', h1, h2, .inr ⟨k', q, h3, h4, h5, h6⟩⟩)
theorem S2_que {l : List Obj} {ops : List Opn} {ps : List Prc} {L0 : List Nat} {i k e : Nat} {o : Obj} {q : Msg} (ho : l[i]? = some o) (he : o.queue[k]? = some q) {z : Int} (h : S2 l ops ps L0 i e (k + 1) z) : S2 l ops ps L0 i e k z ∨ (q.has = true ∧ z = capZ ops q.opn) := by
  rcases h with h | ⟨i', o', h1, h2, ⟨k', nm', h3, h4⟩ | ⟨k', q', h3, h4, h5, h6⟩⟩
  · exact .inl (.inl h)
  · exact .inl (.inr ⟨i', o', h1, h2, .inl ⟨k', nm', h3, h4⟩⟩)
  · by_cases hk : i' = i ∧ k' = k
    · obtain ⟨rfl, rfl⟩ := hk
      rw [ho] at h2
      cases h2
      rw [he] at h3
      cases h3
      exact .inr ⟨h4, h6⟩
    · exact .inl (.inr ⟨i', o', h1, h2, .inr ⟨k', q', h3, h4, by omega, h6⟩⟩)
theorem S2_next {l : List Obj} {ops : List Opn} {ps : List Prc} {L0 : List Nat} {i : Nat} {o : Obj} (ho : l[i]? = some o) {z : Int} (h : S2 l ops ps L0 (i + 1) 0 0 z) : S2 l ops ps L0 i o.entries.length o.queue.length z := by
  rcases h with h | ⟨i', o', h1, h2, ⟨k', nm', h3, h4⟩ | ⟨k', q', h3, h4, h5, h6⟩⟩
  · exact .inl h
  · refine .inr ⟨i', o', h1, h2, .inl ⟨k', nm', h3, ?_⟩⟩
    by_cases hi : i' = i
    · subst hi
      rw [ho] at h2
      cases h2
      exact .inr ⟨rfl, (List.getElem?_eq_some_iff.1 h3).1⟩
    · omega
  · refine .inr ⟨i', o', h1, h2, .inr ⟨k', q', h3, h4, ?_, h6⟩⟩
    by_cases hi : i' = i
    · subst hi
      rw [ho] at h2
      cases h2
      exact .inr ⟨rfl, (List.getElem?_eq_some_iff.1 h3).1⟩
    · omega
theorem pass_end {l : List Obj} {ops : List Opn} {ps : List Prc} {L : List Nat} (h : RInv l ops ps L) (hd : Done l (S2 l ops ps L l.length 0 0) L) : ReachOK l ops ps L := by
  refine ⟨h, fun p pr hp hl s hs hh n hn => ?_, fun i o hi ho z hz n hn => ?_, fun i o hi ho q hq hh n hn => ?_⟩
  · obtain ⟨k, hk⟩ := List.getElem?_of_mem hs
    exact hd _ (.inl ⟨p, pr, k, s, hp, hl, hk, hh, .inl (List.getElem?_eq_some_iff.1 hp).1, rfl⟩) n hn
  · obtain ⟨nm, hm⟩ := hz
    obtain ⟨k, hk⟩ := List.getElem?_of_mem hm
    exact hd _ (.inr ⟨i, o, hi, ho, .inl ⟨k, nm, hk, .inl (List.getElem?_eq_some_iff.1 ho).1⟩⟩) n hn
  · obtain ⟨k, hk⟩ := List.getElem?_of_mem hq
    exact hd _ (.inr ⟨i, o, hi, ho, .inr ⟨k, q, hk, hh, .inl (List.getElem?_eq_some_iff.1 ho).1, rfl⟩⟩) n hn

def c19 : LF := ⟨101, [.tmp 2], (.seq (.reg [
    ⟨(some 1), .box (.t 0), none⟩,
    ⟨(some 2), .mov (.c (.rv (.one (.dat (.val (.map none)))))), none⟩]) (.seq (.reg [
    ⟨(some 17), .mkmap, none⟩,
    ⟨(some 3), .alloc [(.dat (.val (.map none)))], none⟩,
    ⟨none, .store 1 (.t 3) (.t 17), none⟩]) (.seq (.seq (.reg [
    ⟨(some 18), .fadr 0 (.t 1), none⟩,
    ⟨(some 19), .load false 1 (.t 18), none⟩,
    ⟨(some 20), .len 1 (.t 19), none⟩,
    ⟨(some 21), .bin .gtr (.t 20) (.c (.rv (.one (.dat (.val (.int .i64 (0))))))), none⟩,
    ⟨(some 22), .mov (.t 21), none⟩,
    ⟨(some 23), .fadr 0 (.t 1), (some (22, true))⟩,
    ⟨(some 24), .load false 1 (.t 23), (some (22, true))⟩,
    ⟨(some 25), .idx 9 (.t 24) (.c (.rv (.one (.dat (.val (.int .i64 (0))))))), (some (22, true))⟩,
    ⟨(some 26), .fadr 0 (.t 25), (some (22, true))⟩,
    ⟨(some 27), .load false 1 (.t 26), (some (22, true))⟩,
    ⟨(some 28), .bin .neq (.t 27) (.c (.rv (.one (.dat (.val (.int .i64 (0))))))), (some (22, true))⟩,
    ⟨(some 29), .pick (.t 22) (.t 28) (.c (.rv (.one (.dat (.val (.bool false)))))), none⟩]) (.cond (.t 29) (.reg [
    ⟨(some 30), .load false 1 (.t 3), none⟩,
    ⟨none, .mset (.i .i64) (.t 30) (.c (.rv (.one (.dat (.val (.int .i64 (0))))))) (.c (.rv (.one (.dat (.val (.bool true)))))), none⟩]) .skip)) (.seq (.ghost (.seq (.reg [
    ⟨(some 4), .alloc [(.dat (.val (.bool false)))], none⟩,
    ⟨none, .store 1 (.t 4) (.c (.rv (.one (.dat (.val (.bool true)))))), none⟩]) (.block 0 (.loop (.seq (.seq (.reg [
    ⟨(some 31), .load false 1 (.t 4), none⟩]) (.cond (.t 31) .skip (.exit 0))) (.seq (.block 1 (.seq (.reg [
    ⟨none, .store 1 (.t 4) (.c (.rv (.one (.dat (.val (.bool false)))))), none⟩]) (.seq (.reg [
    ⟨(some 32), .fn 40 [(.t 1), (.t 3), (.t 4)], none⟩,
    ⟨(some 5), .alloc [(.dat (.val .nilFunc))], none⟩,
    ⟨none, .store 1 (.t 5) (.t 32), none⟩]) (.seq (.reg [
    ⟨(some 33), .fn 41 [(.t 1), (.t 5)], none⟩,
    ⟨(some 6), .mov (.t 33), none⟩]) (.seq (.seq (.reg [
    ⟨(some 34), .fadr 2 (.t 1), none⟩,
    ⟨(some 35), .load false 1 (.t 34), none⟩,
    ⟨(some 36), .len 1 (.t 35), none⟩,
    ⟨(some 37), .mov (.c (.rv (.one (.dat (.val (.int .i64 (0))))))), none⟩]) (.block 2 (.loop (.seq (.reg [
    ⟨(some 38), .bin .lss (.t 37) (.t 36), none⟩]) (.seq (.cond (.t 38) .skip (.exit 2)) (.seq (.block 3 (.seq (.reg [
    ⟨(some 39), .idx 4 (.t 35) (.t 37), none⟩,
    ⟨(some 40), .load true 4 (.t 39), none⟩,
    ⟨(some 8), .alloc [(.dat (.val (.bool false))), (.dat (.val (.bool false))), (.dat (.val (.int .i64 (0)))), .esl], none⟩,
    ⟨none, .store 4 (.t 8) (.t 40), none⟩]) (.seq (.reg [
    ⟨(some 41), .fadr 3 (.t 8), none⟩,
    ⟨(some 42), .load false 1 (.t 41), none⟩,
    ⟨(some 43), .len 1 (.t 42), none⟩,
    ⟨(some 44), .mov (.c (.rv (.one (.dat (.val (.int .i64 (0))))))), none⟩]) (.block 4 (.loop (.seq (.reg [
    ⟨(some 45), .bin .lss (.t 44) (.t 43), none⟩]) (.seq (.cond (.t 45) .skip (.exit 4)) (.seq (.block 5 (.seq (.reg [
    ⟨(some 46), .idx 3 (.t 42) (.t 44), none⟩,
    ⟨(some 47), .load true 3 (.t 46), none⟩,
    ⟨(some 10), .alloc [(.dat (.val (.bool false))), (.dat (.val (.int .i64 (0)))), (.dat (.val (.int .i64 (0))))], none⟩,
    ⟨none, .store 3 (.t 10) (.t 47), none⟩]) (.seq (.reg [
    ⟨(some 48), .fadr 0 (.t 8), none⟩,
    ⟨(some 49), .load false 1 (.t 48), none⟩,
    ⟨(some 50), .mov (.t 49), none⟩,
    ⟨(some 51), .fadr 0 (.t 10), (some (50, true))⟩,
    ⟨(some 52), .load false 1 (.t 51), (some (50, true))⟩,
    ⟨(some 53), .pick (.t 50) (.t 52) (.c (.rv (.one (.dat (.val (.bool false)))))), none⟩]) (.cond (.t 53) (.reg [
    ⟨(some 54), .mov (.t 6), none⟩,
    ⟨(some 55), .fadr 1 (.t 10), none⟩,
    ⟨(some 56), .load true 2 (.t 55), none⟩,
    ⟨(some 57), .call (.t 54) [(.t 56)], none⟩]) .skip)))) (.reg [
    ⟨(some 58), .bin .add (.t 44) (.c (.rv (.one (.dat (.val (.int .i64 (1))))))), none⟩,
    ⟨(some 44), .mov (.t 58), none⟩]))))))))) (.reg [
    ⟨(some 59), .bin .add (.t 37) (.c (.rv (.one (.dat (.val (.int .i64 (1))))))), none⟩,
    ⟨(some 37), .mov (.t 59), none⟩]))))))) (.seq (.reg [
    ⟨(some 60), .fadr 0 (.t 1), none⟩,
    ⟨(some 61), .load false 1 (.t 60), none⟩,
    ⟨(some 62), .len 1 (.t 61), none⟩,
    ⟨(some 63), .mov (.c (.rv (.one (.dat (.val (.int .i64 (0))))))), none⟩]) (.block 6 (.loop (.seq (.reg [
    ⟨(some 64), .bin .lss (.t 63) (.t 62), none⟩]) (.seq (.cond (.t 64) .skip (.exit 6)) (.seq (.block 7 (.seq (.reg [
    ⟨(some 65), .mov (.t 63), none⟩,
    ⟨(some 66), .idx 9 (.t 61) (.t 63), none⟩,
    ⟨(some 67), .load true 9 (.t 66), none⟩,
    ⟨(some 12), .alloc [(.dat (.val (.int .i64 (0)))), .esl, .esl, (.dat (.val (.string ⟨#[]⟩))), (.dat (.val (.int .i64 (0)))), .esl, (.dat (.val (.int .i64 (0)))), (.dat (.val (.int .i64 (0)))), (.dat (.val (.int .i64 (0))))], none⟩,
    ⟨(some 11), .mov (.t 65), none⟩,
    ⟨none, .store 9 (.t 12) (.t 67), none⟩]) (.seq (.seq (.reg [
    ⟨(some 68), .load false 1 (.t 3), none⟩,
    ⟨(some 69), .mov (.t 11), none⟩,
    ⟨(some 70), .mget (.one (.dat (.val (.bool false)))) (.i .i64) (.t 68) (.t 69) false, none⟩,
    ⟨(some 71), .un .not (.t 70), none⟩]) (.cond (.t 71) (.exit 7) .skip)) (.seq (.seq (.reg [
    ⟨(some 72), .fadr 2 (.t 12), none⟩,
    ⟨(some 73), .load false 1 (.t 72), none⟩,
    ⟨(some 74), .len 1 (.t 73), none⟩,
    ⟨(some 75), .mov (.c (.rv (.one (.dat (.val (.int .i64 (0))))))), none⟩]) (.block 8 (.loop (.seq (.reg [
    ⟨(some 76), .bin .lss (.t 75) (.t 74), none⟩]) (.seq (.cond (.t 76) .skip (.exit 8)) (.seq (.block 9 (.seq (.reg [
    ⟨(some 77), .idx 2 (.t 73) (.t 75), none⟩,
    ⟨(some 78), .load true 2 (.t 77), none⟩,
    ⟨(some 14), .alloc [(.dat (.val (.string ⟨#[]⟩))), (.dat (.val (.int .i64 (0))))], none⟩,
    ⟨none, .store 2 (.t 14) (.t 78), none⟩]) (.reg [
    ⟨(some 79), .load false 1 (.t 5), none⟩,
    ⟨(some 80), .fadr 1 (.t 14), none⟩,
    ⟨(some 81), .load false 1 (.t 80), none⟩,
    ⟨(some 82), .call (.t 79) [(.t 81)], none⟩]))) (.reg [
    ⟨(some 83), .bin .add (.t 75) (.c (.rv (.one (.dat (.val (.int .i64 (1))))))), none⟩,
    ⟨(some 75), .mov (.t 83), none⟩]))))))) (.seq (.reg [
    ⟨(some 84), .fadr 5 (.t 12), none⟩,
    ⟨(some 85), .load false 1 (.t 84), none⟩,
    ⟨(some 86), .len 1 (.t 85), none⟩,
    ⟨(some 87), .mov (.c (.rv (.one (.dat (.val (.int .i64 (0))))))), none⟩]) (.block 10 (.loop (.seq (.reg [
    ⟨(some 88), .bin .lss (.t 87) (.t 86), none⟩]) (.seq (.cond (.t 88) .skip (.exit 10)) (.seq (.block 11 (.seq (.reg [
    ⟨(some 89), .idx 4 (.t 85) (.t 87), none⟩,
    ⟨(some 90), .load true 4 (.t 89), none⟩,
    ⟨(some 16), .alloc [.esl, (.dat (.val (.bool false))), (.dat (.val (.int .i64 (0)))), (.dat (.val (.int .i64 (0))))], none⟩,
    ⟨none, .store 4 (.t 16) (.t 90), none⟩]) (.seq (.reg [
    ⟨(some 91), .fadr 1 (.t 16), none⟩,
    ⟨(some 92), .load false 1 (.t 91), none⟩]) (.cond (.t 92) (.reg [
    ⟨(some 93), .mov (.t 6), none⟩,
    ⟨(some 94), .fadr 2 (.t 16), none⟩,
    ⟨(some 95), .load true 2 (.t 94), none⟩,
    ⟨(some 96), .call (.t 93) [(.t 95)], none⟩]) .skip)))) (.reg [
    ⟨(some 97), .bin .add (.t 87) (.c (.rv (.one (.dat (.val (.int .i64 (1))))))), none⟩,
    ⟨(some 87), .mov (.t 97), none⟩]))))))))))) (.reg [
    ⟨(some 98), .bin .add (.t 63) (.c (.rv (.one (.dat (.val (.int .i64 (1))))))), none⟩,
    ⟨(some 63), .mov (.t 98), none⟩])))))))))))) (.seq (.reg [
    ⟨(some 99), .load false 1 (.t 4), none⟩]) (.reg [
    ⟨(some 4), .alloc [(.dat (.val (.bool false)))], none⟩,
    ⟨none, .store 1 (.t 4) (.t 99), none⟩])))))))) (.seq (.reg [
    ⟨(some 100), .load false 1 (.t 3), none⟩,
    ⟨(some 2), .mov (.t 100), none⟩]) .ret)))))⟩
theorem l19 : lowF Try.prog Try.f19 = some c19.er := by kernel_rfl
def R47 : LC := unG (fstS (sndS (sndS (sndS c19.code))))
def F47 : LC := sndS (sndS (sndS (sndS c19.code)))
def E47 (l : List Obj) (ops : List Opn) (ps : List Prc) : Ex → St → Prop := endK Try.prog c19.res fun r m => ∃ r' m', View 0 ⟨[r], m⟩ ⟨[r'], m'⟩ ∧ ReachP l ops ps r' m'
set_option maxRecDepth 100000 in
set_option maxHeartbeats 64000000 in
theorem rest47 (l : List Obj) (ops : List Opn) (ps : List Prc) (g : ∀ o, o ∈ l → o.sm) (hl : l.length ≤ 4194304) (hpl : ps.length ≤ 4194304) (hps : ∀ p, p ∈ ps → p.slots.length ≤ 4194304) (L0 : List Nat) (h0 : RInv l ops ps L0) :
    aw Try.prog 0 R47 (seqK (aw Try.prog 0 F47) (E47 l ops ps)) ⟨mkE 101 [(1, .rv (.one (.ptr 0 0))), (3, .rv (.one (.ptr 2 0)))], [kB l ops ps, .mp (L0.map entN), hadC]⟩ := by
  refine loop_keep (fun a : List Nat × Bool => RInv l ops ps a.1 ∧ (a.2 = false → ReachOK l ops ps a.1)) [1, 3] (fun _ => [(4, .rv (.one (.ptr 3 0)))]) (fun a => [kB l ops ps, .mp (a.1.map entN), hadC, boolC a.2])
    (fun a => 2 * unm l.length a.1 + (if a.2 then 1 else 0)) (L0, true) ⟨h0, (fun h => by cases h)⟩ ?_ (fun a hJ => ?_)
  · refine View.of 4 [0, 1, 2, 3] [] rfl rfl rfl rfl rfl rfl ?_ ?_
    · repeat (first | exact .nil | refine .junk ?_ | refine .eq rfl ?_)
    · exact .put (notF rfl) rfl (.eq rfl (by simp [kB])) (.put (notF rfl) rfl (.eq (mapN_ren _) (by simp)) (.put (notF rfl) rfl (.eq rfl (by simp [hadC])) (.put (notF rfl) rfl (.eq rfl (by simp [boolC])) (.nil _))))
  obtain ⟨LA, more⟩ := a
  obtain ⟨hI, hC⟩ := hJ
  cases more with
  | false =>
    exact ⟨.rv (.one (.map 0)), [.mp (LA.map entN)], View.of 4 [1] [] rfl rfl rfl rfl rfl rfl (.eq rfl .nil) (.put (notF rfl) rfl (.eq (mapN_ren _) (by simp)) (.nil _)), LA, hC rfl, rfl, rfl⟩
  | true =>
    have hI : RInv l ops ps LA := hI
    clear hC
    refine loop_keep (fun a : StR => a.i ≤ ps.length ∧ Pass l ops ps LA a.L a.more ∧ Done l (S1 ops ps a.i 0) a.L) [1, 3, 4, 5, 6, 35, 36] (fun a => [(37, vInt .i64 (a.i : Nat))]) (M5 l ops ps) (fun a => ps.length - a.i) ⟨0, LA, false⟩
      ⟨Nat.zero_le _, ⟨hI, fun _ h => h, fun _ => rfl, (fun h => by cases h)⟩, fun z hz => absurd hz S1_zero⟩ ?_ (fun a hJ => ?_)
    · refine View.of 5 [0, 1, 2, 3, 4] [] rfl rfl rfl rfl rfl rfl ?_ (vw5 l ops ps LA false 5 [])
      repeat (first | exact .nil | refine .junk ?_ | refine .eq rfl ?_)
    obtain ⟨p, L, more⟩ := a
    obtain ⟨hp, hP, hD⟩ := hJ
    have hp : p ≤ ps.length := hp
    have hP : Pass l ops ps LA L more := hP
    have hD : Done l (S1 ops ps p 0) L := hD
    refine bB_dec (fun h => ?_) (fun h => ?_)
    · have hplt : p < ps.length := by
        have h : (p : Int) < ((ps.map Prc.enc).length : Int) := h
        rw [List.length_map] at h
        omega
      have hpr := List.getElem?_eq_getElem hplt
      have hsl := hps _ (List.getElem_mem hplt)
      have hg : getZ (ps.map Prc.enc) (p : Nat) = some (ps[p].enc) := by rw [getZ_nat, List.getElem?_map, hpr]; rfl
      generalize ps[p] = pr at hpr hg hsl
      obtain ⟨live, fenced, code, slots⟩ := pr
      have hsl : slots.length ≤ 4194304 := hsl
      refine ok_some (x := [.val (.bool live), .val (.bool fenced), .val (.int .i64 code), sl3D slots]) hg ?_
      refine loop_keep (fun a : StR => a.i ≤ slots.length ∧ Pass l ops ps LA a.L a.more ∧ Done l (S1 ops ps p a.i) a.L) [1, 3, 4, 5, 6, 8, 35, 36, 37, 42, 43] (fun a => [(44, vInt .i64 (a.i : Nat))]) (M6 l ops ps [.val (.bool live), .val (.bool fenced), .val (.int .i64 code), sl3D slots]) (fun a => slots.length - a.i) ⟨0, L, more⟩
        ⟨Nat.zero_le _, hP, hD⟩ ?_ (fun a hJ => ?_)
      · refine View.of 6 [0, 1, 2, 3, 4, 5] [] rfl rfl rfl rfl rfl rfl ?_ (vw6 l ops ps L more [.val (.bool live), .val (.bool fenced), .val (.int .i64 code), sl3D slots] 6 [])
        repeat (first | exact .nil | refine .junk ?_ | refine .eq rfl ?_)
      clear hP hD
      obtain ⟨j, L, more⟩ := a
      obtain ⟨hj, hP, hD⟩ := hJ
      have hj : j ≤ slots.length := hj
      have hP : Pass l ops ps LA L more := hP
      have hD : Done l (S1 ops ps p j) L := hD
      refine bB_dec (fun hjl => ?_) (fun hjl => ?_)
      · have hjlt : j < slots.length := by
          have h : (j : Int) < ((slots.map Sl3.enc).length : Int) := hjl
          rw [List.length_map] at h
          omega
        have hs := List.getElem?_eq_getElem hjlt
        have hg2 : getZ (slots.map Sl3.enc) (j : Nat) = some (slots[j].enc) := by rw [getZ_nat, List.getElem?_map, hs]; rfl
        generalize slots[j] = s at hs hg2
        obtain ⟨has, opn, rts⟩ := s
        refine ok_some (x := [.val (.bool has), .val (.int .i64 opn), .val (.int .i64 rts)]) hg2 ?_
        have skip : ¬ (live = true ∧ has = true) → Done l (S1 ops ps p (j + 1)) L := fun hn => hD.mono fun y hy => by
          rcases S1_step hpr hs hy with h | ⟨h1, h2, _⟩
          · exact h
          · exact absurd ⟨h1, h2⟩ hn
        refine bB_split (fun hlv => ?_) (fun hlv => ?_)
        · refine bB_split (fun hh => ?_) (fun hh => ?_)
          · refine rcap_ok l ops ps opn rts L more [.var [.dat (.val (.bool live)), .dat (.val (.bool fenced)), .dat (.val (.int .i64 code)), .dat (sl3D slots)], .var [.dat (.val (.bool has)), .dat (.val (.int .i64 opn)), .dat (.val (.int .i64 rts))]] ?_
            refine ⟨⟨j + 1, markL l (capZ ops opn) L, markM l (capZ ops opn) L more⟩, ⟨hjlt, hP.mark (roots_cap hpr hs hlv hh L), hD.mark fun y hy => ?_⟩, (show slots.length - (j + 1) < slots.length - j by omega), View.of 7 [0, 1, 2, 3, 4, 5] [] rfl rfl rfl rfl rfl rfl ?_ (vw6 l ops ps _ _ [.val (.bool live), .val (.bool fenced), .val (.int .i64 code), sl3D slots] 7 _)⟩
            · rcases S1_step hpr hs hy with h | ⟨_, _, h⟩
              · exact .inl h
              · exact .inr h
            · repeat (first | exact .nil | refine .junk ?_ | refine .put (.ren (next_i64 (by omega)).symm) ?_ | refine .eq rfl ?_)
          · refine ⟨⟨j + 1, L, more⟩, ⟨hjlt, hP, skip fun h => by rw [h.2] at hh; cases hh⟩, (show slots.length - (j + 1) < slots.length - j by omega), View.of 7 [0, 1, 2, 3, 4, 5] [] rfl rfl rfl rfl rfl rfl ?_ (vw6 l ops ps _ _ [.val (.bool live), .val (.bool fenced), .val (.int .i64 code), sl3D slots] 7 _)⟩
            repeat (first | exact .nil | refine .junk ?_ | refine .put (.ren (next_i64 (by omega)).symm) ?_ | refine .eq rfl ?_)
        · refine ⟨⟨j + 1, L, more⟩, ⟨hjlt, hP, skip fun h => by rw [h.1] at hlv; cases hlv⟩, (show slots.length - (j + 1) < slots.length - j by omega), View.of 7 [0, 1, 2, 3, 4, 5] [] rfl rfl rfl rfl rfl rfl ?_ (vw6 l ops ps _ _ [.val (.bool live), .val (.bool fenced), .val (.int .i64 code), sl3D slots] 7 _)⟩
          repeat (first | exact .nil | refine .junk ?_ | refine .put (.ren (next_i64 (by omega)).symm) ?_ | refine .eq rfl ?_)
      · have hje : j = slots.length := by
          have h : ¬ (j : Int) < ((slots.map Sl3.enc).length : Int) := hjl
          rw [List.length_map] at h
          omega
        subst hje
        refine ⟨⟨p + 1, L, more⟩, ⟨hplt, hP, hD.mono fun y hy => S1_next hpr hy⟩, (show ps.length - (p + 1) < ps.length - p by omega), View.of 6 [0, 1, 2, 3, 4] [] rfl rfl rfl rfl rfl rfl ?_ (vw5 l ops ps L more 6 _)⟩
        repeat (first | exact .nil | refine .junk ?_ | refine .put (.ren (next_i64 (by omega)).symm) ?_ | refine .eq rfl ?_)
    · have hpe : p = ps.length := by
        have h : ¬ (p : Int) < ((ps.map Prc.enc).length : Int) := h
        rw [List.length_map] at h
        omega
      subst hpe
      refine loop_keep (fun a : StR => a.i ≤ l.length ∧ Pass l ops ps LA a.L a.more ∧ Done l (S2 l ops ps LA a.i 0 0) a.L) [1, 3, 4, 5, 6, 61, 62] (fun a => [(63, vInt .i64 (a.i : Nat))]) (M5 l ops ps) (fun a => l.length - a.i) ⟨0, L, more⟩
        ⟨Nat.zero_le _, hP, hD.mono fun y hy => S2_zero hy⟩ ?_ (fun a hJ => ?_)
      · refine View.of 5 [0, 1, 2, 3, 4] [] rfl rfl rfl rfl rfl rfl ?_ (vw5 l ops ps L more 5 [])
        repeat (first | exact .nil | refine .junk ?_ | refine .eq rfl ?_)
      clear hP hD
      obtain ⟨i, L, more⟩ := a
      obtain ⟨hi, hP, hD⟩ := hJ
      have hi : i ≤ l.length := hi
      have hP : Pass l ops ps LA L more := hP
      have hD : Done l (S2 l ops ps LA i 0 0) L := hD
      refine bB_dec (fun h => ?_) (fun h => ?_)
      · have hilt : i < l.length := by
          have h : (i : Int) < ((l.map Obj.enc).length : Int) := h
          rw [List.length_map] at h
          omega
        have ho := List.getElem?_eq_getElem hilt
        have hsm := g _ (List.getElem_mem hilt)
        have hg := obj_get hilt
        generalize l[i] = o at ho hsm hg
        obtain ⟨kind, data, entries, target, peer, queue, proc, links, up⟩ := o
        refine ok_some hg ?_
        refine ok_some (mFind_N (i : Int) L) ?_
        obtain ⟨es, hes⟩ := hsm.t.2.1
        have hes : entries = es.map entD := hes
        have hel : entries.length ≤ 8 := hsm.e
        have hql : queue.length ≤ 8 := hsm.q
        cases hN : inN L (i : Int) with
        | false =>
          have hni : i ∉ LA := fun hm => by
            rw [inN_iff.2 (hP.sub i hm)] at hN
            cases hN
          refine ⟨⟨i + 1, L, more⟩, ⟨hilt, hP, hD.mono fun y hy => S2_skip hni hy⟩, (show l.length - (i + 1) < l.length - i by omega), View.of 6 [0, 1, 2, 3, 4] [] rfl rfl rfl rfl rfl rfl ?_ (vw5 l ops ps L more 6 _)⟩
          repeat (first | exact .nil | refine .junk ?_ | refine .put (.ren (next_i64 (by omega)).symm) ?_ | refine .eq rfl ?_)
        | true =>
          have hiL : i ∈ L := inN_iff.1 hN
          have hin : ∀ {L' : List Nat}, (∀ n, n ∈ L → n ∈ L') → i ∈ L' := fun h => h i hiL
          refine loop_keep (fun a : StR => a.i ≤ entries.length ∧ (Pass l ops ps LA a.L a.more ∧ i ∈ a.L) ∧ Done l (S2 l ops ps LA i a.i 0) a.L) [1, 3, 4, 5, 6, 12, 61, 62, 63, 73, 74] (fun a => [(75, vInt .i64 (a.i : Nat))])
            (M6 l ops ps [.val (.int .i64 kind), .sl 1 data, .sl 2 entries, .val (.string target), .val (.int .i64 peer), .sl 4 (queue.map Msg.enc), .val (.int .i64 proc), .val (.int .i64 links), .val (.int .i64 up)]) (fun a => entries.length - a.i) ⟨0, L, more⟩
            ⟨Nat.zero_le _, ⟨hP, hiL⟩, hD⟩ ?_ (fun a hJ => ?_)
          · refine View.of 6 [0, 1, 2, 3, 4, 5] [] rfl rfl rfl rfl rfl rfl ?_ (vw6 l ops ps L more [.val (.int .i64 kind), .sl 1 data, .sl 2 entries, .val (.string target), .val (.int .i64 peer), .sl 4 (queue.map Msg.enc), .val (.int .i64 proc), .val (.int .i64 links), .val (.int .i64 up)] 6 [])
            repeat (first | exact .nil | refine .junk ?_ | refine .eq rfl ?_)
          clear hP hD hiL hin hN
          obtain ⟨k, L, more⟩ := a
          obtain ⟨hk, ⟨hP, hiL⟩, hD⟩ := hJ
          have hk : k ≤ entries.length := hk
          have hP : Pass l ops ps LA L more := hP
          have hiL : i ∈ L := hiL
          have hD : Done l (S2 l ops ps LA i k 0) L := hD
          refine bB_dec (fun hkl => ?_) (fun hkl => ?_)
          · have hklt : k < entries.length := by
              have h : (k : Int) < (entries.length : Int) := hkl
              omega
            have hkes : k < es.length := by rw [hes] at hklt; simpa using hklt
            have hen : entries[k]? = some (entD es[k]) := by rw [hes, List.getElem?_map, List.getElem?_eq_getElem hkes]; rfl
            have hg2 : getZ entries (k : Nat) = some (entD es[k]) := by rw [getZ_nat]; exact hen
            generalize es[k] = e at hen hg2
            obtain ⟨nm, z⟩ := e
            refine ok_some (x := [.val (.string nm), .val (.int .i64 z)]) hg2 ?_
            refine rmark_ok l ops ps z L more [fnB, .var [.dat (.val (.int .i64 kind)), .dat (.sl 1 data), .dat (.sl 2 entries), .dat (.val (.string target)), .dat (.val (.int .i64 peer)), .dat (.sl 4 (queue.map Msg.enc)), .dat (.val (.int .i64 proc)), .dat (.val (.int .i64 links)), .dat (.val (.int .i64 up))], .var [.dat (.val (.string nm)), .dat (.val (.int .i64 z))]] ?_
            refine ⟨⟨k + 1, markL l z L, markM l z L more⟩, ⟨hklt, ⟨hP.mark fun RO RP hcl _ hL n hn => hcl.e i _ (hL i hiL) ho z n ⟨nm, List.mem_of_getElem? hen⟩ hn, markL_sub hiL⟩, hD.mark fun y hy => S2_ent ho hen hy⟩, (show entries.length - (k + 1) < entries.length - k by omega), View.of 7 [0, 1, 2, 3, 4, 5] [] rfl rfl rfl rfl rfl rfl ?_
              (vw6 l ops ps _ _ [.val (.int .i64 kind), .sl 1 data, .sl 2 entries, .val (.string target), .val (.int .i64 peer), .sl 4 (queue.map Msg.enc), .val (.int .i64 proc), .val (.int .i64 links), .val (.int .i64 up)] 7 _)⟩
            repeat (first | exact .nil | refine .junk ?_ | refine .put (.ren (next_i64 (by omega)).symm) ?_ | refine .eq rfl ?_)
          · have hke : k = entries.length := by
              have h : ¬ (k : Int) < (entries.length : Int) := hkl
              omega
            refine loop_keep (fun a : StR => a.i ≤ queue.length ∧ (Pass l ops ps LA a.L a.more ∧ i ∈ a.L) ∧ Done l (S2 l ops ps LA i entries.length a.i) a.L) [1, 3, 4, 5, 6, 12, 61, 62, 63, 85, 86] (fun a => [(87, vInt .i64 (a.i : Nat))])
              (M6 l ops ps [.val (.int .i64 kind), .sl 1 data, .sl 2 entries, .val (.string target), .val (.int .i64 peer), .sl 4 (queue.map Msg.enc), .val (.int .i64 proc), .val (.int .i64 links), .val (.int .i64 up)]) (fun a => queue.length - a.i) ⟨0, L, more⟩
              ⟨Nat.zero_le _, ⟨hP, hiL⟩, hke ▸ hD⟩ ?_ (fun a hJ => ?_)
            · refine View.of 6 [0, 1, 2, 3, 4, 5] [] rfl rfl rfl rfl rfl rfl ?_ (vw6 l ops ps L more [.val (.int .i64 kind), .sl 1 data, .sl 2 entries, .val (.string target), .val (.int .i64 peer), .sl 4 (queue.map Msg.enc), .val (.int .i64 proc), .val (.int .i64 links), .val (.int .i64 up)] 6 [])
              repeat (first | exact .nil | refine .junk ?_ | refine .eq rfl ?_)
            clear hP hD hiL
            obtain ⟨q, L, more⟩ := a
            obtain ⟨hq, ⟨hP, hiL⟩, hD⟩ := hJ
            have hq : q ≤ queue.length := hq
            have hP : Pass l ops ps LA L more := hP
            have hiL : i ∈ L := hiL
            have hD : Done l (S2 l ops ps LA i entries.length q) L := hD
            refine bB_dec (fun hql2 => ?_) (fun hql2 => ?_)
            · have hqlt : q < queue.length := by
                have h : (q : Int) < ((queue.map Msg.enc).length : Int) := hql2
                rw [List.length_map] at h
                omega
              have hqu := List.getElem?_eq_getElem hqlt
              have hg3 : getZ (queue.map Msg.enc) (q : Nat) = some (queue[q].enc) := by rw [getZ_nat, List.getElem?_map, hqu]; rfl
              generalize queue[q] = ms at hqu hg3
              obtain ⟨mdata, has, opn, rts⟩ := ms
              refine ok_some (x := [.sl 1 mdata, .val (.bool has), .val (.int .i64 opn), .val (.int .i64 rts)]) hg3 ?_
              refine bB_split (fun hh => ?_) (fun hh => ?_)
              · refine rcap_ok l ops ps opn rts L more [.var [.dat (.val (.int .i64 kind)), .dat (.sl 1 data), .dat (.sl 2 entries), .dat (.val (.string target)), .dat (.val (.int .i64 peer)), .dat (.sl 4 (queue.map Msg.enc)), .dat (.val (.int .i64 proc)), .dat (.val (.int .i64 links)), .dat (.val (.int .i64 up))], .var [.dat (.sl 1 mdata), .dat (.val (.bool has)), .dat (.val (.int .i64 opn)), .dat (.val (.int .i64 rts))]] ?_
                refine ⟨⟨q + 1, markL l (capZ ops opn) L, markM l (capZ ops opn) L more⟩, ⟨hqlt, ⟨hP.mark fun RO RP hcl _ hL n hn => cap_in hcl (fun c hc => hcl.q i _ (hL i hiL) ho opn c ⟨_, List.mem_of_getElem? hqu, hh, rfl⟩ hc) n hn, markL_sub hiL⟩, hD.mark fun y hy => ?_⟩, (show queue.length - (q + 1) < queue.length - q by omega), View.of 7 [0, 1, 2, 3, 4, 5] [] rfl rfl rfl rfl rfl rfl ?_
                  (vw6 l ops ps _ _ [.val (.int .i64 kind), .sl 1 data, .sl 2 entries, .val (.string target), .val (.int .i64 peer), .sl 4 (queue.map Msg.enc), .val (.int .i64 proc), .val (.int .i64 links), .val (.int .i64 up)] 7 _)⟩
                · rcases S2_que ho hqu hy with h | ⟨_, h⟩
                  · exact .inl h
                  · exact .inr h
                · repeat (first | exact .nil | refine .junk ?_ | refine .put (.ren (next_i64 (by omega)).symm) ?_ | refine .eq rfl ?_)
              · refine ⟨⟨q + 1, L, more⟩, ⟨hqlt, ⟨hP, hiL⟩, hD.mono fun y hy => ?_⟩, (show queue.length - (q + 1) < queue.length - q by omega), View.of 7 [0, 1, 2, 3, 4, 5] [] rfl rfl rfl rfl rfl rfl ?_
                  (vw6 l ops ps _ _ [.val (.int .i64 kind), .sl 1 data, .sl 2 entries, .val (.string target), .val (.int .i64 peer), .sl 4 (queue.map Msg.enc), .val (.int .i64 proc), .val (.int .i64 links), .val (.int .i64 up)] 7 _)⟩
                · rcases S2_que ho hqu hy with h | ⟨h, _⟩
                  · exact h
                  · have hh : has = false := hh
                    have h : has = true := h
                    rw [hh] at h
                    cases h
                · repeat (first | exact .nil | refine .junk ?_ | refine .put (.ren (next_i64 (by omega)).symm) ?_ | refine .eq rfl ?_)
            · have hqe : q = queue.length := by
                have h : ¬ (q : Int) < ((queue.map Msg.enc).length : Int) := hql2
                rw [List.length_map] at h
                omega
              subst hqe
              refine ⟨⟨i + 1, L, more⟩, ⟨hilt, hP, hD.mono fun y hy => S2_next ho hy⟩, (show l.length - (i + 1) < l.length - i by omega), View.of 6 [0, 1, 2, 3, 4] [] rfl rfl rfl rfl rfl rfl ?_ (vw5 l ops ps L more 6 _)⟩
              repeat (first | exact .nil | refine .junk ?_ | refine .put (.ren (next_i64 (by omega)).symm) ?_ | refine .eq rfl ?_)
      · have hie : i = l.length := by
          have h : ¬ (i : Int) < ((l.map Obj.enc).length : Int) := h
          rw [List.length_map] at h
          omega
        subst hie
        refine ⟨(L, more), ⟨hP.inv, fun hm => ?_⟩, ?_, View.of 6 [0, 1, 2, 5] [] rfl rfl rfl rfl rfl rfl ?_ ?_⟩
        · have hm : more = false := hm
          have e := hP.eq hm
          rw [← e] at hD
          exact pass_end hP.inv hD
        · show 2 * unm l.length L + (if more then 1 else 0) < 2 * unm l.length LA + (if true then 1 else 0)
          cases hm : more with
          | true => have := hP.big hm; simp; omega
          | false =>
            have e : L = LA := hP.eq hm
            rw [e]; simp
        · repeat (first | exact .nil | refine .junk ?_ | refine .eq rfl ?_)
        · exact .put (notF rfl) rfl (.eq rfl (by simp [kB])) (.put (notF rfl) rfl (.eq (mapN_ren _) (by simp)) (.put (notF rfl) rfl (.eq rfl (by simp [hadC])) (.put (notF rfl) rfl (.eq rfl (by simp [boolC])) (.nil _))))
set_option maxRecDepth 100000 in
set_option maxHeartbeats 8000000 in
theorem rreach_body (l : List Obj) (ops : List Opn) (ps : List Prc) (g : ∀ o, o ∈ l → o.sm) (hl : l.length ≤ 4194304) (hpl : ps.length ≤ 4194304) (hps : ∀ p, p ∈ ps → p.slots.length ≤ 4194304) :
    body Try.prog c19 [kernV l ops ps] [] (fun r m => ∃ r' m', View 0 ⟨[r], m⟩ ⟨[r'], m'⟩ ∧ ReachP l ops ps r' m') := by
  have none : (∀ n, ¬ vO l 0 n) → RInv l ops ps [] := fun h => ⟨by simp, by simp, fun n hn => absurd hn (h n), by simp⟩
  refine bB_dec (fun h => ?_) (fun h => ?_)
  · have h0 : 0 < l.length := by
      have h : (((l.map Obj.enc).length : Nat) : Int) > 0 := h
      rw [List.length_map] at h
      omega
    have ho := List.getElem?_eq_getElem h0
    have hg := obj_get h0
    generalize l[0] = o at ho hg
    refine ok_some hg ?_
    refine bB_bne (fun hk => ?_) (fun hk => ?_)
    · refine ghost_keep [1, 3] [] [kB l ops ps, .mp ([0].map entN), hadC] (View.of 3 [0, 1, 2] [] rfl rfl rfl rfl rfl rfl ?_ ?_) (rest47 l ops ps g hl hpl hps [0] ⟨by simp, fun n hn => ?_, fun n hn => ?_, fun RO RP _ hr n hn => ?_⟩)
      · repeat (first | exact .nil | refine .junk ?_ | refine .eq rfl ?_)
      · exact .put (notF rfl) rfl (.eq rfl (by simp [kB])) (.put (notF rfl) rfl (.eq (mapN_ren [0]) (by simp)) (.put (notF rfl) rfl (.eq rfl (by simp [hadC])) (.nil _)))
      · have : n = 0 := by simpa using hn
        subst this
        exact ⟨rfl, o, ho, hk⟩
      · have := hn.1
        have : n = 0 := by omega
        simp [this]
      · have : n = 0 := by simpa using hn
        subst this
        exact hr.1 0 ⟨rfl, o, ho, hk⟩
    · refine ghost_keep [1, 3] [] [kB l ops ps, .mp (([] : List Nat).map entN), hadC] (View.of 3 [0, 1, 2] [] rfl rfl rfl rfl rfl rfl ?_ ?_) (rest47 l ops ps g hl hpl hps [] (none fun n hn => ?_))
      · repeat (first | exact .nil | refine .junk ?_ | refine .eq rfl ?_)
      · exact .put (notF rfl) rfl (.eq rfl (by simp [kB])) (.put (notF rfl) rfl (.eq (mapN_ren []) (by simp)) (.put (notF rfl) rfl (.eq rfl (by simp [hadC])) (.nil _)))
      · obtain ⟨h1, o2, h2, h3⟩ := hn
        have : n = 0 := by omega
        subst this
        rw [ho] at h2
        cases h2
        exact h3 hk
  · have h0 : l.length = 0 := by
      have h : ¬ (((l.map Obj.enc).length : Nat) : Int) > 0 := h
      rw [List.length_map] at h
      omega
    refine ghost_keep [1, 3] [] [kB l ops ps, .mp (([] : List Nat).map entN), hadC] (View.of 3 [0, 1, 2] [] rfl rfl rfl rfl rfl rfl ?_ ?_) (rest47 l ops ps g hl hpl hps [] (none fun n hn => ?_))
    · repeat (first | exact .nil | refine .junk ?_ | refine .eq rfl ?_)
    · exact .put (notF rfl) rfl (.eq rfl (by simp [kB])) (.put (notF rfl) rfl (.eq (mapN_ren []) (by simp)) (.put (notF rfl) rfl (.eq rfl (by simp [hadC])) (.nil _)))
    · obtain ⟨_, o2, h2, _⟩ := hn
      have := (List.getElem?_eq_some_iff.1 h2).1
      omega
set_option maxRecDepth 100000 in
/-- **Reach of the document**: the least set that is closed -/
theorem rreach_ok (l : List Obj) (ops : List Opn) (ps : List Prc) (g : ∀ o, o ∈ l → o.sm) (hl : l.length ≤ 4194304) (hpl : ps.length ≤ 4194304) (hps : ∀ p, p ∈ ps → p.slots.length ≤ 4194304) {m : Mem} {K : CV → Mem → Prop}
    (h : ∀ L, ReachOK l ops ps L → K (.rv (.one (.map m.length))) (m ++ [.mp (L.map entN)])) : ACall Try.prog 19 [kernV l ops ps] m K := by
  refine acall_borrow [] m.length rfl rfl rfl rfl (args0 := [kernV l ops ps]) rfl (fun i b' hi => by simp at hi) (K0 := ReachP l ops ps)
    (acall_view (acall_body_g Try.func19 l19 rfl (Nat.le_of_ble_eq_true rfl) (rreach_body l ops ps g hl hpl hps)) fun r m1 h => h) (fun r m1 hr => ?_)
  obtain ⟨L, hL, rfl, rfl⟩ := hr
  refine ⟨Nat.zero_le _, ?_⟩
  show K (.rv (.one (.map (m.length + (0 - 0))))) (app2 m [(Bk.mp (L.map entN)).ren _])
  rw [app2_eq, mapN_ren]
  exact h L hL

def c25 : LF := ⟨6, [], (.seq (.reg [
    ⟨(some 2), .box (.t 0), none⟩]) (.reg [
    ⟨(some 3), .load false 1 (.t 1), none⟩,
    ⟨(some 4), .fadr 0 (.t 2), none⟩,
    ⟨(some 5), .load false 1 (.t 4), none⟩,
    ⟨none, .mset (.i .i64) (.t 3) (.t 5) (.c (.rv (.one (.dat (.val (.bool true)))))), none⟩]))⟩
def c26 : LF := ⟨23, [.tmp 4], (.seq (.reg [
    ⟨(some 4), .mov (.c (.rv (.one (.dat (.val (.bool false)))))), none⟩]) (.seq (.seq (.reg [
    ⟨(some 7), .mov (.t 0), none⟩,
    ⟨(some 8), .len 1 (.t 7), none⟩,
    ⟨(some 9), .mov (.c (.rv (.one (.dat (.val (.int .i64 (0))))))), none⟩]) (.block 0 (.loop (.seq (.reg [
    ⟨(some 10), .bin .lss (.t 9) (.t 8), none⟩]) (.seq (.cond (.t 10) .skip (.exit 0)) (.seq (.block 1 (.seq (.reg [
    ⟨(some 11), .idx 9 (.t 7) (.t 9), none⟩,
    ⟨(some 12), .load true 9 (.t 11), none⟩,
    ⟨(some 6), .alloc [(.dat (.val (.int .i64 (0)))), .esl, .esl, (.dat (.val (.string ⟨#[]⟩))), (.dat (.val (.int .i64 (0)))), .esl, (.dat (.val (.int .i64 (0)))), (.dat (.val (.int .i64 (0)))), (.dat (.val (.int .i64 (0))))], none⟩,
    ⟨none, .store 9 (.t 6) (.t 12), none⟩]) (.seq (.reg [
    ⟨(some 13), .fadr 0 (.t 6), none⟩,
    ⟨(some 14), .load false 1 (.t 13), none⟩,
    ⟨(some 15), .bin .eql (.t 14) (.c (.rv (.one (.dat (.val (.int .i64 (5))))))), none⟩,
    ⟨(some 16), .mov (.t 15), none⟩,
    ⟨(some 17), .fadr 6 (.t 6), (some (16, true))⟩,
    ⟨(some 18), .load false 1 (.t 17), (some (16, true))⟩,
    ⟨(some 19), .mov (.t 1), (some (16, true))⟩,
    ⟨(some 20), .bin .eql (.t 18) (.t 19), (some (16, true))⟩,
    ⟨(some 21), .pick (.t 16) (.t 20) (.c (.rv (.one (.dat (.val (.bool false)))))), none⟩]) (.cond (.t 21) (.seq (.reg [
    ⟨(some 4), .mov (.c (.rv (.one (.dat (.val (.bool true)))))), none⟩]) .ret) .skip)))) (.reg [
    ⟨(some 22), .bin .add (.t 9) (.c (.rv (.one (.dat (.val (.int .i64 (1))))))), none⟩,
    ⟨(some 9), .mov (.t 22), none⟩]))))))) (.seq (.reg [
    ⟨(some 4), .mov (.c (.rv (.one (.dat (.val (.bool false)))))), none⟩]) .ret)))⟩
/-! Sweep of the document: sets of opens, who is held -/
theorem l25 : lowF Try.prog Try.f25 = some c25 := by kernel_rfl
theorem l26 : lowF Try.prog Try.f26 = some c26 := by kernel_rfl
def entZ (z : Int) : ME := ⟨.int .i64 z, tt1⟩
def inZ (Q : List Int) (z : Int) : Bool := Q.any fun x => z == x
theorem mFind_Z (z : Int) : ∀ Q : List Int, mFind (.int .i64 z) (Q.map entZ) = some (if inZ Q z = true then some tt1 else none)
  | [] => rfl
  | n :: r => by
    have ih := mFind_Z z r
    simp only [List.map_cons, mFind, entZ, keyEq, decide_true]
    simp only [inZ, List.any_cons] at ih ⊢
    by_cases h : z = n
    · subst h
      simp
    · have h1 : (z == n) = false := by simpa using h
      simp only [h1, Bool.false_or]
      exact ih
def addZ (z : Int) (Q : List Int) : List Int := if inZ Q z = true then Q else Q ++ [z]
theorem mSet_Z (z : Int) : ∀ Q : List Int, mSet (.int .i64 z) tt1 (Q.map entZ) = some ((addZ z Q).map entZ)
  | [] => rfl
  | n :: r => by
    have ih := mSet_Z z r
    simp only [List.map_cons, mSet, entZ, keyEq, decide_true]
    by_cases h : z = n
    · subst h
      have e : addZ z (z :: r) = z :: r := by simp [addZ, inZ]
      rw [e]
      simp [entZ]
    · have h1 : (z == n) = false := by simpa using h
      have e : addZ z (n :: r) = n :: addZ z r := by
        have hin : inZ (n :: r) z = inZ r z := by simp only [inZ, List.any_cons, h1, Bool.false_or]
        unfold addZ
        rw [hin]
        cases inZ r z <;> rfl
      simp only [h1]
      rw [e, ih]
      rfl
theorem inZ_add (x z : Int) (Q : List Int) : inZ (addZ x Q) z = true ↔ (inZ Q z = true ∨ z = x) := by
  rw [addZ]
  split
  · rename_i h
    constructor
    · exact .inl
    · rintro (h2 | rfl)
      · exact h2
      · exact h
  · simp [inZ]
theorem mapZ_ren {σ : Nat → Nat} (Q : List Int) : (Bk.mp (Q.map entZ)).ren σ = .mp (Q.map entZ) := by
  simp [Bk.ren, RV.ren, CC.ren, entZ, tt1, Function.comp_def]
set_option maxRecDepth 100000 in
theorem radd_body (z rts : Int) (Q : List Int) : body Try.prog c25 [.rv (.agg [.dat (.val (.int .i64 z)), .dat (.val (.int .i64 rts))]), .rv (.one (.ptr 1 0))] [.mp (Q.map entZ), .var [.map 0]] (fun r m => r = .tup [] ∧ ∃ x, m = [.mp ((addZ z Q).map entZ), .var [.map 0], x]) := by
  refine ok_some (mSet_Z z Q) ?_
  exact ⟨rfl, _, rfl⟩
def esl3 : Bk := .var [.esl, .esl, .esl]
def opC : Bk := .var [.map 3]
set_option maxRecDepth 100000 in
theorem radd_ok (b0 b1 b2 : Bk) (z rts : Int) (Q : List Int) (R : Mem) {K : CV → Mem → Prop} (h : K (.tup []) (b0 :: b1 :: b2 :: .mp ((addZ z Q).map entZ) :: opC :: R)) :
    ACall Try.prog 25 [.rv (.agg [.dat (.val (.int .i64 z)), .dat (.val (.int .i64 rts))]), .rv (.one (.ptr 4 0))] (b0 :: b1 :: b2 :: .mp (Q.map entZ) :: opC :: R) K := by
  refine acall_borrow [3, 4] (R.length + 5) rfl rfl rfl (by simp [allLt, Nat.blt]) (args0 := [.rv (.agg [.dat (.val (.int .i64 z)), .dat (.val (.int .i64 rts))]), .rv (.one (.ptr 1 0))]) rfl (m0 := [.mp (Q.map entZ), .var [.map 0]]) (fun i b' hi => ?_)
    (K0 := fun r m => r = .tup [] ∧ m = [.mp ((addZ z Q).map entZ), .var [.map 0]])
    (acall_view (acall_body Try.func25 l25 rfl (Nat.le_of_ble_eq_true rfl) (radd_body z rts Q)) (fun r m1 hr => ?_)) (fun r m1 hr => ?_)
  · match i, hi with
    | 0, hi => cases hi; exact .inr ⟨fun h => h, _, rfl, .eq (mapZ_ren Q) (by simp)⟩
    | 1, hi => cases hi; exact .inr ⟨fun h => h, _, rfl, .eq rfl (by simp)⟩
    | n + 2, hi => simp at hi
  · obtain ⟨rfl, x, rfl⟩ := hr
    exact ⟨.tup [], [.mp ((addZ z Q).map entZ), .var [.map 0]], View.of 3 [0, 1] [] rfl rfl rfl rfl rfl rfl (.eq rfl .nil) (.put (notF rfl) rfl (.eq (mapZ_ren _) (by simp)) (.put (notF rfl) rfl (.eq rfl (by simp)) (.nil _))), rfl, rfl⟩
  · obtain ⟨rfl, rfl⟩ := hr
    refine ⟨Nat.le_refl _, ?_⟩
    show K (.tup []) (b0 :: b1 :: b2 :: (Bk.mp ((addZ z Q).map entZ)).ren (sg [3, 4] (R.length + 5)) :: opC :: app2 R [])
    rw [mapZ_ren, app2_eq, List.append_nil]
    exact h
/-! held -/
set_option maxRecDepth 100000 in
set_option maxHeartbeats 4000000 in
theorem rheld_body (l : List Obj) (hl : l.length ≤ 4194304) (p : Int) : body Try.prog c26 [objsV l, vInt .i64 p] [] (fun r m => r = vBool (l.any (heldB p))) := by
  refine loop_keep (fun k => k ≤ l.length ∧ ∀ (j : Nat) o, j < k → l[j]? = some o → heldB p o = false) [0, 1, 7, 8] (fun k => [(9, vInt .i64 (k : Nat))]) (fun _ => []) (fun k => l.length - k) 0 ⟨Nat.zero_le _, fun j o h => absurd h (Nat.not_lt_zero j)⟩ ?_ (fun k hk => ?_)
  · refine View.of 0 [] [] rfl rfl rfl rfl rfl rfl ?_ (.nil _)
    repeat (first | exact .nil | refine .junk ?_ | refine .eq rfl ?_)
  obtain ⟨hkl, hkb⟩ := hk
  have hkl : k ≤ l.length := hkl
  refine bB_dec (fun h => ?_) (fun h => ?_)
  · have hlt : k < l.length := by
      have h : (k : Int) < ((l.map Obj.enc).length : Int) := h
      rw [List.length_map] at h
      omega
    have ho := List.getElem?_eq_getElem hlt
    have hg := obj_get hlt
    have hmem := List.getElem_mem hlt
    generalize l[k] = o at ho hg hmem
    obtain ⟨kind, data, entries, target, peer, queue, proc, links, up⟩ := o
    refine ok_some hg ?_
    have next : heldB p ⟨kind, data, entries, target, peer, queue, proc, links, up⟩ = false → ∀ (j : Nat) o, j < k + 1 → l[j]? = some o → heldB p o = false := by
      intro hf j o hj hoj
      rcases Nat.lt_or_ge j k with h5 | h5
      · exact hkb j o h5 hoj
      · have : j = k := by omega
        subst this
        rw [ho] at hoj
        cases hoj
        exact hf
    refine bB_beq (fun h5 => ?_) (fun h5 => ?_)
    · refine bB_beq (fun hp => ?_) (fun hp => ?_)
      · show vBool true = vBool _
        have : l.any (heldB p) = true := List.any_eq_true.2 ⟨_, hmem, by simp only [heldB]; rw [show kind = 5 from h5, show proc = p from hp]; simp⟩
        rw [this]
      · refine ⟨k + 1, ⟨hlt, next (by simp only [heldB]; rw [beq_eq_false_iff_ne.2 (show proc ≠ p from hp)]; simp)⟩, (show l.length - (k + 1) < l.length - k by omega), View.of 1 [] [] rfl rfl rfl rfl rfl rfl ?_ (.nil _)⟩
        repeat (first | exact .nil | refine .junk ?_ | refine .put (.ren (next_i64 (by omega)).symm) ?_ | refine .eq rfl ?_)
    · refine ⟨k + 1, ⟨hlt, next (by simp only [heldB]; rw [beq_eq_false_iff_ne.2 (show kind ≠ 5 from h5)]; simp)⟩, (show l.length - (k + 1) < l.length - k by omega), View.of 1 [] [] rfl rfl rfl rfl rfl rfl ?_ (.nil _)⟩
      repeat (first | exact .nil | refine .junk ?_ | refine .put (.ren (next_i64 (by omega)).symm) ?_ | refine .eq rfl ?_)
  · have hke : k = l.length := by
      have h : ¬ (k : Int) < ((l.map Obj.enc).length : Int) := h
      rw [List.length_map] at h
      omega
    subst hke
    show vBool false = vBool _
    have : l.any (heldB p) = false := by
      rw [List.any_eq_false]
      intro o ho
      obtain ⟨j, hj⟩ := List.getElem?_of_mem ho
      simpa using hkb j o (List.getElem?_eq_some_iff.1 hj).1 hj
    rw [this]
set_option maxRecDepth 100000 in
theorem rheld_ok (l : List Obj) (hl : l.length ≤ 4194304) (p : Int) {m : Mem} {K : CV → Mem → Prop} (h : K (vBool (l.any (heldB p))) m) : ACall Try.prog 26 [objsV l, vInt .i64 p] m K :=
  acall_val Try.func26 l26 rfl (Nat.le_of_ble_eq_true rfl) (rheld_body l hl p) rfl rfl h
set_option maxRecDepth 100000 in
theorem rheld_row (l : List Obj) (hl : l.length ≤ 4194304) (p : Int) {m : Mem} {id : Nat} (hb : nth m id = some (.row 9 (dRows (l.map Obj.enc)))) {K : CV → Mem → Prop} (h : K (vBool (l.any (heldB p))) m) : ACall Try.prog 26 [.rv (.one (.row id 9 0 none)), vInt .i64 p] m K :=
  acall_ro [id] (args0 := [objsV l, vInt .i64 p]) (rheld_ok l hl p (K := fun r _ => r = vBool (l.any (heldB p))) rfl) (.put (VwV.frz id (l.map Obj.enc) (by simp [memN]) hb) (.eq rfl .nil)) fun r m1 hr => by
    subst hr
    exact ⟨rfl, h⟩

def c8 : LF := ⟨284, [.cell true 3 2], (.seq (.reg [
    ⟨(some 1), .box (.t 0), none⟩,
    ⟨(some 2), .alloc [.esl, .esl, .esl], none⟩]) (.seq (.seq (.reg [
    ⟨(some 3), .mov (.c (.rv (.one (.dat (.val (.bool true)))))), none⟩]) (.block 0 (.loop (.seq (.seq (.reg [
    ⟨(some 28), .mov (.t 3), none⟩]) (.cond (.t 28) .skip (.exit 0))) (.block 1 (.seq (.reg [
    ⟨(some 3), .mov (.c (.rv (.one (.dat (.val (.bool false)))))), none⟩]) (.seq (.reg [
    ⟨(some 29), .load true 3 (.t 1), none⟩,
    ⟨(some 30), .call (.c (.rv (.one (.fn 19 [])))) [(.t 29)], none⟩,
    ⟨(some 4), .mov (.t 30), none⟩]) (.seq (.reg [
    ⟨(some 31), .mkmap, none⟩,
    ⟨(some 5), .alloc [(.dat (.val (.map none)))], none⟩,
    ⟨none, .store 1 (.t 5) (.t 31), none⟩]) (.seq (.reg [
    ⟨(some 32), .fn 25 [(.t 5)], none⟩,
    ⟨(some 6), .mov (.t 32), none⟩]) (.seq (.ghost (.seq (.reg [
    ⟨(some 33), .fadr 2 (.t 1), none⟩,
    ⟨(some 34), .load false 1 (.t 33), none⟩,
    ⟨(some 35), .len 1 (.t 34), none⟩,
    ⟨(some 36), .mov (.c (.rv (.one (.dat (.val (.int .i64 (0))))))), none⟩]) (.block 2 (.loop (.seq (.reg [
    ⟨(some 37), .bin .lss (.t 36) (.t 35), none⟩]) (.seq (.cond (.t 37) .skip (.exit 2)) (.seq (.block 3 (.seq (.reg [
    ⟨(some 38), .idx 4 (.t 34) (.t 36), none⟩,
    ⟨(some 39), .load true 4 (.t 38), none⟩,
    ⟨(some 8), .alloc [(.dat (.val (.bool false))), (.dat (.val (.bool false))), (.dat (.val (.int .i64 (0)))), .esl], none⟩,
    ⟨none, .store 4 (.t 8) (.t 39), none⟩]) (.seq (.reg [
    ⟨(some 40), .fadr 3 (.t 8), none⟩,
    ⟨(some 41), .load false 1 (.t 40), none⟩,
    ⟨(some 42), .len 1 (.t 41), none⟩,
    ⟨(some 43), .mov (.c (.rv (.one (.dat (.val (.int .i64 (0))))))), none⟩]) (.block 4 (.loop (.seq (.reg [
    ⟨(some 44), .bin .lss (.t 43) (.t 42), none⟩]) (.seq (.cond (.t 44) .skip (.exit 4)) (.seq (.block 5 (.seq (.reg [
    ⟨(some 45), .idx 3 (.t 41) (.t 43), none⟩,
    ⟨(some 46), .load true 3 (.t 45), none⟩,
    ⟨(some 10), .alloc [(.dat (.val (.bool false))), (.dat (.val (.int .i64 (0)))), (.dat (.val (.int .i64 (0))))], none⟩,
    ⟨none, .store 3 (.t 10) (.t 46), none⟩]) (.seq (.reg [
    ⟨(some 47), .fadr 0 (.t 8), none⟩,
    ⟨(some 48), .load false 1 (.t 47), none⟩,
    ⟨(some 49), .mov (.t 48), none⟩,
    ⟨(some 50), .fadr 0 (.t 10), (some (49, true))⟩,
    ⟨(some 51), .load false 1 (.t 50), (some (49, true))⟩,
    ⟨(some 52), .pick (.t 49) (.t 51) (.c (.rv (.one (.dat (.val (.bool false)))))), none⟩]) (.cond (.t 52) (.reg [
    ⟨(some 53), .mov (.t 6), none⟩,
    ⟨(some 54), .fadr 1 (.t 10), none⟩,
    ⟨(some 55), .load true 2 (.t 54), none⟩,
    ⟨(some 56), .call (.t 53) [(.t 55)], none⟩]) .skip)))) (.reg [
    ⟨(some 57), .bin .add (.t 43) (.c (.rv (.one (.dat (.val (.int .i64 (1))))))), none⟩,
    ⟨(some 43), .mov (.t 57), none⟩]))))))))) (.reg [
    ⟨(some 58), .bin .add (.t 36) (.c (.rv (.one (.dat (.val (.int .i64 (1))))))), none⟩,
    ⟨(some 36), .mov (.t 58), none⟩])))))))) (.seq (.ghost (.seq (.reg [
    ⟨(some 59), .fadr 0 (.t 1), none⟩,
    ⟨(some 60), .load false 1 (.t 59), none⟩,
    ⟨(some 61), .len 1 (.t 60), none⟩,
    ⟨(some 62), .mov (.c (.rv (.one (.dat (.val (.int .i64 (0))))))), none⟩]) (.block 6 (.loop (.seq (.reg [
    ⟨(some 63), .bin .lss (.t 62) (.t 61), none⟩]) (.seq (.cond (.t 63) .skip (.exit 6)) (.seq (.block 7 (.seq (.reg [
    ⟨(some 64), .mov (.t 62), none⟩,
    ⟨(some 11), .mov (.t 64), none⟩]) (.seq (.reg [
    ⟨(some 65), .fadr 0 (.t 1), none⟩,
    ⟨(some 66), .load false 1 (.t 65), none⟩,
    ⟨(some 67), .mov (.t 11), none⟩,
    ⟨(some 68), .idx 9 (.t 66) (.t 67), none⟩,
    ⟨(some 69), .fadr 5 (.t 68), none⟩,
    ⟨(some 70), .load false 1 (.t 69), none⟩,
    ⟨(some 71), .len 1 (.t 70), none⟩,
    ⟨(some 72), .mov (.c (.rv (.one (.dat (.val (.int .i64 (0))))))), none⟩]) (.block 8 (.loop (.seq (.reg [
    ⟨(some 73), .bin .lss (.t 72) (.t 71), none⟩]) (.seq (.cond (.t 73) .skip (.exit 8)) (.seq (.block 9 (.seq (.reg [
    ⟨(some 74), .idx 4 (.t 70) (.t 72), none⟩,
    ⟨(some 75), .load true 4 (.t 74), none⟩,
    ⟨(some 13), .alloc [.esl, (.dat (.val (.bool false))), (.dat (.val (.int .i64 (0)))), (.dat (.val (.int .i64 (0))))], none⟩,
    ⟨none, .store 4 (.t 13) (.t 75), none⟩]) (.seq (.reg [
    ⟨(some 76), .mov (.t 4), none⟩,
    ⟨(some 77), .mov (.t 11), none⟩,
    ⟨(some 78), .mget (.one (.dat (.val (.bool false)))) (.i .i64) (.t 76) (.t 77) false, none⟩,
    ⟨(some 79), .mov (.t 78), none⟩,
    ⟨(some 80), .fadr 1 (.t 13), (some (79, true))⟩,
    ⟨(some 81), .load false 1 (.t 80), (some (79, true))⟩,
    ⟨(some 82), .pick (.t 79) (.t 81) (.c (.rv (.one (.dat (.val (.bool false)))))), none⟩]) (.cond (.t 82) (.reg [
    ⟨(some 83), .mov (.t 6), none⟩,
    ⟨(some 84), .fadr 2 (.t 13), none⟩,
    ⟨(some 85), .load true 2 (.t 84), none⟩,
    ⟨(some 86), .call (.t 83) [(.t 85)], none⟩]) .skip)))) (.reg [
    ⟨(some 87), .bin .add (.t 72) (.c (.rv (.one (.dat (.val (.int .i64 (1))))))), none⟩,
    ⟨(some 72), .mov (.t 87), none⟩]))))))))) (.reg [
    ⟨(some 88), .bin .add (.t 62) (.c (.rv (.one (.dat (.val (.int .i64 (1))))))), none⟩,
    ⟨(some 62), .mov (.t 88), none⟩])))))))) (.seq (.reg [
    ⟨(some 89), .build [.esl, .esl, .esl] [], none⟩,
    ⟨(some 14), .alloc [.esl, .esl, .esl], none⟩,
    ⟨none, .store 3 (.t 14) (.t 89), none⟩]) (.seq (.ghost (.seq (.reg [
    ⟨(some 90), .fadr 0 (.t 1), none⟩,
    ⟨(some 91), .load false 1 (.t 90), none⟩,
    ⟨(some 92), .len 1 (.t 91), none⟩,
    ⟨(some 93), .mov (.c (.rv (.one (.dat (.val (.int .i64 (0))))))), none⟩]) (.block 10 (.loop (.seq (.reg [
    ⟨(some 94), .bin .lss (.t 93) (.t 92), none⟩]) (.seq (.cond (.t 94) .skip (.exit 10)) (.seq (.block 11 (.seq (.reg [
    ⟨(some 95), .mov (.t 93), none⟩,
    ⟨(some 96), .idx 9 (.t 91) (.t 93), none⟩,
    ⟨(some 97), .load true 9 (.t 96), none⟩,
    ⟨(some 16), .alloc [(.dat (.val (.int .i64 (0)))), .esl, .esl, (.dat (.val (.string ⟨#[]⟩))), (.dat (.val (.int .i64 (0)))), .esl, (.dat (.val (.int .i64 (0)))), (.dat (.val (.int .i64 (0)))), (.dat (.val (.int .i64 (0))))], none⟩,
    ⟨(some 15), .mov (.t 95), none⟩,
    ⟨none, .store 9 (.t 16) (.t 97), none⟩]) (.seq (.seq (.reg [
    ⟨(some 98), .mov (.t 4), none⟩,
    ⟨(some 99), .mov (.t 15), none⟩,
    ⟨(some 100), .mget (.one (.dat (.val (.bool false)))) (.i .i64) (.t 98) (.t 99) false, none⟩,
    ⟨(some 101), .un .not (.t 100), none⟩]) (.cond (.t 101) (.reg [
    ⟨(some 102), .build [(.dat (.val (.int .i64 (0)))), .esl, .esl, (.dat (.val (.string ⟨#[]⟩))), (.dat (.val (.int .i64 (0)))), .esl, (.dat (.val (.int .i64 (0)))), (.dat (.val (.int .i64 (0)))), (.dat (.val (.int .i64 (0))))] [], none⟩,
    ⟨none, .store 9 (.t 16) (.t 102), none⟩]) (.seq (.reg [
    ⟨(some 103), .fadr 0 (.t 16), none⟩,
    ⟨(some 104), .load false 1 (.t 103), none⟩,
    ⟨(some 105), .bin .eql (.t 104) (.c (.rv (.one (.dat (.val (.int .i64 (4))))))), none⟩,
    ⟨(some 106), .mov (.t 105), none⟩,
    ⟨(some 107), .mov (.t 4), (some (106, true))⟩,
    ⟨(some 108), .fadr 4 (.t 16), (some (106, true))⟩,
    ⟨(some 109), .load false 1 (.t 108), (some (106, true))⟩,
    ⟨(some 110), .mget (.one (.dat (.val (.bool false)))) (.i .i64) (.t 107) (.t 109) false, (some (106, true))⟩,
    ⟨(some 111), .un .not (.t 110), (some (106, true))⟩,
    ⟨(some 112), .pick (.t 106) (.t 111) (.c (.rv (.one (.dat (.val (.bool false)))))), none⟩]) (.cond (.t 112) (.reg [
    ⟨(some 113), .fadr 4 (.t 16), none⟩,
    ⟨none, .store 1 (.t 113) (.c (.rv (.one (.dat (.val (.int .i64 (-1))))))), none⟩]) .skip)))) (.reg [
    ⟨(some 114), .fadr 0 (.t 14), none⟩,
    ⟨(some 115), .load false 1 (.t 114), none⟩,
    ⟨(some 116), .load true 9 (.t 16), none⟩,
    ⟨(some 117), .bsl 9 [(.dat (.val (.int .i64 (0)))), .esl, .esl, (.dat (.val (.string ⟨#[]⟩))), (.dat (.val (.int .i64 (0)))), .esl, (.dat (.val (.int .i64 (0)))), (.dat (.val (.int .i64 (0)))), (.dat (.val (.int .i64 (0))))] 1 [(0, (.t 116))], none⟩,
    ⟨(some 118), .app 9 128 (.t 115) (.t 117), none⟩,
    ⟨(some 119), .fadr 0 (.t 14), none⟩,
    ⟨none, .store 1 (.t 119) (.t 118), none⟩])))) (.reg [
    ⟨(some 120), .bin .add (.t 93) (.c (.rv (.one (.dat (.val (.int .i64 (1))))))), none⟩,
    ⟨(some 93), .mov (.t 120), none⟩])))))))) (.seq (.ghost (.seq (.reg [
    ⟨(some 121), .fadr 1 (.t 1), none⟩,
    ⟨(some 122), .load false 1 (.t 121), none⟩,
    ⟨(some 123), .len 1 (.t 122), none⟩,
    ⟨(some 124), .mov (.c (.rv (.one (.dat (.val (.int .i64 (0))))))), none⟩]) (.block 12 (.loop (.seq (.reg [
    ⟨(some 125), .bin .lss (.t 124) (.t 123), none⟩]) (.seq (.cond (.t 125) .skip (.exit 12)) (.seq (.block 13 (.seq (.reg [
    ⟨(some 126), .mov (.t 124), none⟩,
    ⟨(some 127), .idx 2 (.t 122) (.t 124), none⟩,
    ⟨(some 128), .load true 2 (.t 127), none⟩,
    ⟨(some 18), .alloc [(.dat (.val (.int .i64 (0)))), (.dat (.val (.int .i64 (0))))], none⟩,
    ⟨(some 17), .mov (.t 126), none⟩,
    ⟨none, .store 2 (.t 18) (.t 128), none⟩]) (.seq (.seq (.reg [
    ⟨(some 129), .load false 1 (.t 5), none⟩,
    ⟨(some 130), .mov (.t 17), none⟩,
    ⟨(some 131), .mget (.one (.dat (.val (.bool false)))) (.i .i64) (.t 129) (.t 130) false, none⟩,
    ⟨(some 132), .un .not (.t 131), none⟩]) (.cond (.t 132) (.reg [
    ⟨(some 133), .build [(.dat (.val (.int .i64 (0)))), (.dat (.val (.int .i64 (0))))] [(0, 1, (.c (.rv (.one (.dat (.val (.int .i64 (-1))))))))], none⟩,
    ⟨none, .store 2 (.t 18) (.t 133), none⟩]) .skip)) (.reg [
    ⟨(some 134), .fadr 1 (.t 14), none⟩,
    ⟨(some 135), .load false 1 (.t 134), none⟩,
    ⟨(some 136), .load true 2 (.t 18), none⟩,
    ⟨(some 137), .bsl 2 [(.dat (.val (.int .i64 (0)))), (.dat (.val (.int .i64 (0))))] 1 [(0, (.t 136))], none⟩,
    ⟨(some 138), .app 2 16 (.t 135) (.t 137), none⟩,
    ⟨(some 139), .fadr 1 (.t 14), none⟩,
    ⟨none, .store 1 (.t 139) (.t 138), none⟩])))) (.reg [
    ⟨(some 140), .bin .add (.t 124) (.c (.rv (.one (.dat (.val (.int .i64 (1))))))), none⟩,
    ⟨(some 124), .mov (.t 140), none⟩])))))))) (.seq (.ghost (.seq (.reg [
    ⟨(some 141), .fadr 2 (.t 1), none⟩,
    ⟨(some 142), .load false 1 (.t 141), none⟩,
    ⟨(some 143), .len 1 (.t 142), none⟩,
    ⟨(some 144), .mov (.c (.rv (.one (.dat (.val (.int .i64 (0))))))), none⟩]) (.block 14 (.loop (.seq (.reg [
    ⟨(some 145), .bin .lss (.t 144) (.t 143), none⟩]) (.seq (.cond (.t 145) .skip (.exit 14)) (.seq (.block 15 (.seq (.reg [
    ⟨(some 146), .mov (.t 144), none⟩,
    ⟨(some 147), .idx 4 (.t 142) (.t 144), none⟩,
    ⟨(some 148), .load true 4 (.t 147), none⟩,
    ⟨(some 20), .alloc [(.dat (.val (.bool false))), (.dat (.val (.bool false))), (.dat (.val (.int .i64 (0)))), .esl], none⟩,
    ⟨(some 19), .mov (.t 146), none⟩,
    ⟨none, .store 4 (.t 20) (.t 148), none⟩]) (.seq (.seq (.reg [
    ⟨(some 149), .mov (.t 19), none⟩,
    ⟨(some 150), .bin .gtr (.t 149) (.c (.rv (.one (.dat (.val (.int .i64 (0))))))), none⟩,
    ⟨(some 151), .mov (.t 150), none⟩,
    ⟨(some 152), .fadr 0 (.t 20), (some (151, true))⟩,
    ⟨(some 153), .load false 1 (.t 152), (some (151, true))⟩,
    ⟨(some 154), .pick (.t 151) (.t 153) (.c (.rv (.one (.dat (.val (.bool false)))))), none⟩,
    ⟨(some 155), .mov (.t 154), none⟩,
    ⟨(some 156), .fadr 0 (.t 14), (some (155, true))⟩,
    ⟨(some 157), .load false 1 (.t 156), (some (155, true))⟩,
    ⟨(some 158), .mov (.t 19), (some (155, true))⟩,
    ⟨(some 159), .call (.c (.rv (.one (.fn 26 [])))) [(.t 157), (.t 158)], (some (155, true))⟩,
    ⟨(some 160), .un .not (.t 159), (some (155, true))⟩,
    ⟨(some 161), .pick (.t 155) (.t 160) (.c (.rv (.one (.dat (.val (.bool false)))))), none⟩]) (.cond (.t 161) (.seq (.reg [
    ⟨(some 162), .build [(.dat (.val (.bool false))), (.dat (.val (.bool false))), (.dat (.val (.int .i64 (0)))), .esl] [], none⟩,
    ⟨none, .store 4 (.t 20) (.t 162), none⟩]) (.reg [
    ⟨(some 3), .mov (.c (.rv (.one (.dat (.val (.bool true)))))), none⟩])) .skip)) (.reg [
    ⟨(some 163), .fadr 2 (.t 14), none⟩,
    ⟨(some 164), .load false 1 (.t 163), none⟩,
    ⟨(some 165), .load true 4 (.t 20), none⟩,
    ⟨(some 166), .bsl 4 [(.dat (.val (.bool false))), (.dat (.val (.bool false))), (.dat (.val (.int .i64 (0)))), .esl] 1 [(0, (.t 165))], none⟩,
    ⟨(some 167), .app 4 40 (.t 164) (.t 166), none⟩,
    ⟨(some 168), .fadr 2 (.t 14), none⟩,
    ⟨none, .store 1 (.t 168) (.t 167), none⟩])))) (.reg [
    ⟨(some 169), .bin .add (.t 144) (.c (.rv (.one (.dat (.val (.int .i64 (1))))))), none⟩,
    ⟨(some 144), .mov (.t 169), none⟩])))))))) (.reg [
    ⟨(some 170), .load true 3 (.t 14), none⟩,
    ⟨none, .store 3 (.t 1) (.t 170), none⟩])))))))))))))))) (.seq (.ghost (.seq (.reg [
    ⟨(some 171), .fadr 2 (.t 1), none⟩,
    ⟨(some 172), .load false 1 (.t 171), none⟩,
    ⟨(some 173), .len 1 (.t 172), none⟩,
    ⟨(some 174), .mov (.c (.rv (.one (.dat (.val (.int .i64 (0))))))), none⟩]) (.block 16 (.loop (.seq (.reg [
    ⟨(some 175), .bin .lss (.t 174) (.t 173), none⟩]) (.seq (.cond (.t 175) .skip (.exit 16)) (.seq (.block 17 (.seq (.reg [
    ⟨(some 176), .mov (.t 174), none⟩,
    ⟨(some 21), .mov (.t 176), none⟩]) (.seq (.reg [
    ⟨(some 177), .mov (.t 21), none⟩,
    ⟨(some 178), .bin .gtr (.t 177) (.c (.rv (.one (.dat (.val (.int .i64 (0))))))), none⟩,
    ⟨(some 179), .mov (.t 178), none⟩,
    ⟨(some 180), .fadr 2 (.t 1), (some (179, true))⟩,
    ⟨(some 181), .load false 1 (.t 180), (some (179, true))⟩,
    ⟨(some 182), .mov (.t 21), (some (179, true))⟩,
    ⟨(some 183), .idx 4 (.t 181) (.t 182), (some (179, true))⟩,
    ⟨(some 184), .fadr 0 (.t 183), (some (179, true))⟩,
    ⟨(some 185), .load false 1 (.t 184), (some (179, true))⟩,
    ⟨(some 186), .un .not (.t 185), (some (179, true))⟩,
    ⟨(some 187), .pick (.t 179) (.t 186) (.c (.rv (.one (.dat (.val (.bool false)))))), none⟩,
    ⟨(some 188), .mov (.t 187), none⟩,
    ⟨(some 189), .fadr 0 (.t 1), (some (188, true))⟩,
    ⟨(some 190), .load false 1 (.t 189), (some (188, true))⟩,
    ⟨(some 191), .mov (.t 21), (some (188, true))⟩,
    ⟨(some 192), .call (.c (.rv (.one (.fn 26 [])))) [(.t 190), (.t 191)], (some (188, true))⟩,
    ⟨(some 193), .un .not (.t 192), (some (188, true))⟩,
    ⟨(some 194), .pick (.t 188) (.t 193) (.c (.rv (.one (.dat (.val (.bool false)))))), none⟩]) (.cond (.t 194) (.reg [
    ⟨(some 195), .fadr 2 (.t 1), none⟩,
    ⟨(some 196), .load false 1 (.t 195), none⟩,
    ⟨(some 197), .mov (.t 21), none⟩,
    ⟨(some 198), .build [(.dat (.val (.bool false))), (.dat (.val (.bool false))), (.dat (.val (.int .i64 (0)))), .esl] [], none⟩,
    ⟨(some 199), .idx 4 (.t 196) (.t 197), none⟩,
    ⟨none, .store 4 (.t 199) (.t 198), none⟩]) .skip)))) (.reg [
    ⟨(some 200), .bin .add (.t 174) (.c (.rv (.one (.dat (.val (.int .i64 (1))))))), none⟩,
    ⟨(some 174), .mov (.t 200), none⟩])))))))) (.seq (.reg [
    ⟨(some 22), .mov (.c (.rv (.one (.dat (.val (.int .i64 (1))))))), none⟩,
    ⟨(some 23), .mov (.c (.rv (.one (.dat (.val (.int .i64 (0))))))), none⟩,
    ⟨(some 24), .mov (.c (.rv (.one (.dat (.val (.int .i64 (1))))))), none⟩]) (.seq (.ghost (.seq (.reg [
    ⟨(some 201), .fadr 0 (.t 1), none⟩,
    ⟨(some 202), .load false 1 (.t 201), none⟩,
    ⟨(some 203), .len 1 (.t 202), none⟩,
    ⟨(some 204), .mov (.c (.rv (.one (.dat (.val (.int .i64 (0))))))), none⟩]) (.block 18 (.loop (.seq (.reg [
    ⟨(some 205), .bin .lss (.t 204) (.t 203), none⟩]) (.seq (.cond (.t 205) .skip (.exit 18)) (.seq (.block 19 (.seq (.reg [
    ⟨(some 206), .mov (.t 204), none⟩,
    ⟨(some 25), .mov (.t 206), none⟩]) (.seq (.reg [
    ⟨(some 207), .fadr 0 (.t 1), none⟩,
    ⟨(some 208), .load false 1 (.t 207), none⟩,
    ⟨(some 209), .mov (.t 25), none⟩,
    ⟨(some 210), .idx 9 (.t 208) (.t 209), none⟩,
    ⟨(some 211), .fadr 0 (.t 210), none⟩,
    ⟨(some 212), .load false 1 (.t 211), none⟩,
    ⟨(some 213), .bin .neq (.t 212) (.c (.rv (.one (.dat (.val (.int .i64 (0))))))), none⟩,
    ⟨(some 214), .mov (.t 213), none⟩,
    ⟨(some 215), .mov (.t 25), (some (214, true))⟩,
    ⟨(some 216), .mov (.t 22), (some (214, true))⟩,
    ⟨(some 217), .bin .geq (.t 215) (.t 216), (some (214, true))⟩,
    ⟨(some 218), .pick (.t 214) (.t 217) (.c (.rv (.one (.dat (.val (.bool false)))))), none⟩]) (.cond (.t 218) (.reg [
    ⟨(some 219), .mov (.t 25), none⟩,
    ⟨(some 220), .bin .add (.t 219) (.c (.rv (.one (.dat (.val (.int .i64 (1))))))), none⟩,
    ⟨(some 22), .mov (.t 220), none⟩]) .skip)))) (.reg [
    ⟨(some 221), .bin .add (.t 204) (.c (.rv (.one (.dat (.val (.int .i64 (1))))))), none⟩,
    ⟨(some 204), .mov (.t 221), none⟩])))))))) (.seq (.ghost (.seq (.reg [
    ⟨(some 222), .fadr 1 (.t 1), none⟩,
    ⟨(some 223), .load false 1 (.t 222), none⟩,
    ⟨(some 224), .len 1 (.t 223), none⟩,
    ⟨(some 225), .mov (.c (.rv (.one (.dat (.val (.int .i64 (0))))))), none⟩]) (.block 20 (.loop (.seq (.reg [
    ⟨(some 226), .bin .lss (.t 225) (.t 224), none⟩]) (.seq (.cond (.t 226) .skip (.exit 20)) (.seq (.block 21 (.seq (.reg [
    ⟨(some 227), .mov (.t 225), none⟩,
    ⟨(some 26), .mov (.t 227), none⟩]) (.seq (.reg [
    ⟨(some 228), .fadr 1 (.t 1), none⟩,
    ⟨(some 229), .load false 1 (.t 228), none⟩,
    ⟨(some 230), .mov (.t 26), none⟩,
    ⟨(some 231), .idx 2 (.t 229) (.t 230), none⟩,
    ⟨(some 232), .fadr 0 (.t 231), none⟩,
    ⟨(some 233), .load false 1 (.t 232), none⟩,
    ⟨(some 234), .bin .geq (.t 233) (.c (.rv (.one (.dat (.val (.int .i64 (0))))))), none⟩]) (.cond (.t 234) (.reg [
    ⟨(some 235), .mov (.t 26), none⟩,
    ⟨(some 236), .bin .add (.t 235) (.c (.rv (.one (.dat (.val (.int .i64 (1))))))), none⟩,
    ⟨(some 23), .mov (.t 236), none⟩]) .skip)))) (.reg [
    ⟨(some 237), .bin .add (.t 225) (.c (.rv (.one (.dat (.val (.int .i64 (1))))))), none⟩,
    ⟨(some 225), .mov (.t 237), none⟩])))))))) (.seq (.ghost (.seq (.reg [
    ⟨(some 238), .fadr 2 (.t 1), none⟩,
    ⟨(some 239), .load false 1 (.t 238), none⟩,
    ⟨(some 240), .len 1 (.t 239), none⟩,
    ⟨(some 241), .mov (.c (.rv (.one (.dat (.val (.int .i64 (0))))))), none⟩]) (.block 22 (.loop (.seq (.reg [
    ⟨(some 242), .bin .lss (.t 241) (.t 240), none⟩]) (.seq (.cond (.t 242) .skip (.exit 22)) (.seq (.block 23 (.seq (.reg [
    ⟨(some 243), .mov (.t 241), none⟩,
    ⟨(some 27), .mov (.t 243), none⟩]) (.seq (.reg [
    ⟨(some 244), .mov (.t 27), none⟩,
    ⟨(some 245), .bin .gtr (.t 244) (.c (.rv (.one (.dat (.val (.int .i64 (0))))))), none⟩,
    ⟨(some 246), .mov (.t 245), none⟩,
    ⟨(some 247), .fadr 2 (.t 1), (some (246, true))⟩,
    ⟨(some 248), .load false 1 (.t 247), (some (246, true))⟩,
    ⟨(some 249), .mov (.t 27), (some (246, true))⟩,
    ⟨(some 250), .idx 4 (.t 248) (.t 249), (some (246, true))⟩,
    ⟨(some 251), .fadr 0 (.t 250), (some (246, true))⟩,
    ⟨(some 252), .load false 1 (.t 251), (some (246, true))⟩,
    ⟨(some 253), .mov (.t 252), (some (246, true))⟩,
    ⟨(some 254), .fadr 0 (.t 1), (some (253, false))⟩,
    ⟨(some 255), .load false 1 (.t 254), (some (253, false))⟩,
    ⟨(some 256), .mov (.t 27), (some (253, false))⟩,
    ⟨(some 257), .call (.c (.rv (.one (.fn 26 [])))) [(.t 255), (.t 256)], (some (253, false))⟩,
    ⟨(some 258), .pick (.t 253) (.c (.rv (.one (.dat (.val (.bool true)))))) (.t 257), (some (246, true))⟩,
    ⟨(some 259), .pick (.t 246) (.t 258) (.c (.rv (.one (.dat (.val (.bool false)))))), none⟩]) (.cond (.t 259) (.reg [
    ⟨(some 260), .mov (.t 27), none⟩,
    ⟨(some 261), .bin .add (.t 260) (.c (.rv (.one (.dat (.val (.int .i64 (1))))))), none⟩,
    ⟨(some 24), .mov (.t 261), none⟩]) .skip)))) (.reg [
    ⟨(some 262), .bin .add (.t 241) (.c (.rv (.one (.dat (.val (.int .i64 (1))))))), none⟩,
    ⟨(some 241), .mov (.t 262), none⟩])))))))) (.ghost (.seq (.draw [
    ⟨(some 263), .fadr 0 (.t 1), none⟩,
    ⟨(some 264), .load false 1 (.t 263), none⟩,
    ⟨(some 265), .mov (.t 22), none⟩,
    ⟨(some 266), .fadr 0 (.t 1), none⟩,
    ⟨(some 267), .load false 1 (.t 266), none⟩,
    ⟨(some 268), .len 1 (.t 267), none⟩,
    ⟨(some 269), .minmax false [(.t 265), (.t 268)], none⟩,
    ⟨(some 270), .slc 9 (.t 264) none (some (.t 269)) none, none⟩,
    ⟨(some 271), .fadr 1 (.t 1), none⟩,
    ⟨(some 272), .load false 1 (.t 271), none⟩,
    ⟨(some 273), .mov (.t 23), none⟩,
    ⟨(some 274), .slc 2 (.t 272) none (some (.t 273)) none, none⟩,
    ⟨(some 275), .fadr 2 (.t 1), none⟩,
    ⟨(some 276), .load false 1 (.t 275), none⟩,
    ⟨(some 277), .mov (.t 24), none⟩,
    ⟨(some 278), .fadr 2 (.t 1), none⟩,
    ⟨(some 279), .load false 1 (.t 278), none⟩,
    ⟨(some 280), .len 1 (.t 279), none⟩,
    ⟨(some 281), .minmax false [(.t 277), (.t 280)], none⟩,
    ⟨(some 282), .slc 4 (.t 276) none (some (.t 281)) none, none⟩,
    ⟨(some 283), .build [.esl, .esl, .esl] [(0, 1, (.t 270)), (1, 1, (.t 274)), (2, 1, (.t 282))], none⟩,
    ⟨none, .store 3 (.t 2) (.t 283), none⟩]
    [(.cons 0 none (.cons 1 none (.cons 2 none (.cons 3 none (.cons 4 none (.cons 5 none (.cons 8 none (.cons 9 none (.cons 10 none (.cons 11 none (.cons 12 none (.cons 13 none (.cons 14 none (.cons 15 none (.cons 16 none (.cons 17 none (.alt (.cons 6 (some [17, 16, 13, 11, 9, 1]) (.cons 7 none (.cons 18 (some [7, 13, 11, 9, 5, 4, 1]) (.cons 19 none (.cons 20 none (.cons 21 (some []) .nil)))))) (.cons 18 (some [13, 11, 9, 5, 4, 1]) (.cons 19 none (.cons 6 (some [19, 17, 16, 13, 11, 9, 1]) (.cons 7 none (.cons 20 none (.cons 21 (some []) .nil)))))))))))))))))))))))]) .ret)))))))))⟩
theorem l8 : lowF Try.prog Try.f8 = some c8.er := by kernel_rfl
def blkS : LC → LC
  | .block _ b => b
  | x => x
def lopS : LC → LC
  | .loop b => b
  | x => x
def B21 : LC := blkS (sndS (lopS (blkS (sndS (fstS (sndS c8.code))))))
def T33 : LC := sndS (sndS (sndS (sndS B21)))
def T59 : LC := sndS T33
def T89 : LC := sndS T59
def T90 : LC := sndS T89
def T121 : LC := sndS T90
def T141 : LC := sndS T121
def X33 : LC := unG (fstS T33)
def X59 : LC := unG (fstS T59)
def X90 : LC := unG (fstS T90)
def X121 : LC := unG (fstS T121)
def X141 : LC := unG (fstS T141)
def R170 : LC := sndS T141
/-! a round: what comes of objects, opens, processes -/
def roF (L : List Nat) (i : Nat) (o : Obj) : Obj := if inN L (i : Int) = false then zeroO else if o.kind = 4 ∧ inN L o.peer = false then { o with peer := -1 } else o
def ropF (Q : List Int) (i : Nat) (o : Opn) : Opn := if inZ Q (i : Int) = false then ⟨-1, 0⟩ else o
def rpB (l' : List Obj) (i : Nat) (p : Prc) : Bool := decide (0 < i) && (p.live && !(l'.any (heldB (i : Nat))))
def rpF (l' : List Obj) (i : Nat) (p : Prc) : Prc := if rpB l' i p = true then zeroP else p
def rlS (L : List Nat) (l : List Obj) : List Obj := l.mapIdx (roF L)
def ropS (Q : List Int) (ops : List Opn) : List Opn := ops.mapIdx (ropF Q)
def rpS (l' : List Obj) (ps : List Prc) : List Prc := ps.mapIdx (rpF l')
def rpM (l' : List Obj) (ps : List Prc) : Nat → Bool
  | 0 => false
  | k + 1 => (match ps[k]? with | some p => rpB l' k p | none => false) || rpM l' ps k
theorem mapIdx_take {α β : Type} {f : Nat → α → β} {l : List α} {i : Nat} {x : α} (h : l[i]? = some x) : (l.mapIdx f).take (i + 1) = (l.mapIdx f).take i ++ [f i x] :=
  takeO (by rw [List.getElem?_mapIdx, h]; rfl)
def p0 (id : Nat) : CV := .rv (.one (.ptr id 0))
def nxC (a b c : CC) : Bk := .var [a, b, c]
def M141 (l : List Obj) (ops : List Opn) (ps : List Prc) (l' : List Obj) (ops' : List Opn) (ps' : List Prc) : Mem :=
  [kB l ops ps, esl3, .dead, .dead, .dead, nxC (.row 6 9 0 none) (.row 7 2 0 none) (.row 8 4 0 none), .row 9 (dRows (l'.map Obj.enc)), .row 2 (dRows (ops'.map Opn.enc)), .row 4 (dRows (ps'.map Prc.enc))]
set_option maxRecDepth 100000 in
set_option maxHeartbeats 16000000 in
theorem t141 (l : List Obj) (ops : List Opn) (ps : List Prc) (hpl : ps.length ≤ 4194304) (l' : List Obj) (hl' : l'.length ≤ 4194304) (ops' : List Opn) (K : Ex → St → Prop)
    (hK : ∀ e m, View 0 ⟨e, m⟩ ⟨mkE 284 [(1, p0 0), (2, p0 1), (3, vBool (rpM l' ps ps.length))], [nxC (.row 2 9 0 none) (.row 3 2 0 none) (.row 4 4 0 none), esl3, .row 9 (dRows (l'.map Obj.enc)), .row 2 (dRows (ops'.map Opn.enc)), .row 4 (dRows ((rpS l' ps).map Prc.enc))]⟩ → K .normal ⟨e, m⟩) :
    aw Try.prog 0 X141 (seqK (aw Try.prog 0 R170) K) ⟨mkE 284 [(1, p0 0), (2, p0 1), (3, vBool false), (14, p0 5)], M141 l ops ps l' ops' []⟩ := by
  refine loop_keep (fun i => i ≤ ps.length) [1, 2, 14, 142, 143] (fun i => [(3, vBool (rpM l' ps i)), (144, vInt .i64 (i : Nat))]) (fun i => M141 l ops ps l' ops' ((rpS l' ps).take i)) (fun i => ps.length - i) 0 (Nat.zero_le _) ?_ (fun i hi => ?_)
  · refine View.of 9 [0, 1, 2, 3, 4, 5, 6, 7, 8] [] rfl rfl rfl rfl rfl rfl ?_ ?_
    · repeat (first | exact .nil | refine .junk ?_ | refine .eq rfl ?_)
    · exact .put (notF rfl) rfl (.eq rfl (by simp [kB])) (.put (notF rfl) rfl (.eq rfl (by simp [esl3])) (.dead (.dead (.dead (.put (notF rfl) rfl (.eq rfl (by simp [nxC])) (.put (notF rfl) rfl (.rowDE rfl) (.put (notF rfl) rfl (.rowDE rfl) (.put (notF rfl) rfl (.rowDE rfl) (.nil _)))))))))
  have hi : i ≤ ps.length := hi
  refine bB_dec (fun h => ?_) (fun h => ?_)
  · have hlt : i < ps.length := by
      have h : (i : Int) < ((ps.map Prc.enc).length : Int) := h
      rw [List.length_map] at h
      omega
    have hp := List.getElem?_eq_getElem hlt
    have hg : getZ (ps.map Prc.enc) (i : Nat) = some (ps[i].enc) := by rw [getZ_nat, List.getElem?_map, hp]; rfl
    generalize ps[i] = p at hp hg
    have hT : (rpS l' ps).take (i + 1) = (rpS l' ps).take i ++ [rpF l' i p] := mapIdx_take hp
    have hM : rpM l' ps (i + 1) = (rpB l' i p || rpM l' ps i) := by rw [rpM, hp]
    obtain ⟨live, fenced, code, slots⟩ := p
    refine ok_some (x := [.val (.bool live), .val (.bool fenced), .val (.int .i64 code), sl3D slots]) hg ?_
    have big : ((dRows (((rpS l' ps).take i).map Prc.enc)).length + 1) * 40 ≤ 140737488355328 := by
      rw [dRows_len, List.length_map, List.length_take]; omega
    have keep : rpB l' i ⟨live, fenced, code, slots⟩ = false → ∀ e, EnvVw (sg [0, 1, 2, 3, 4, 5, 6, 7, 11] 12) [kB l ops ps, esl3, .dead, .dead, .dead, nxC (.row 6 9 0 none) (.row 7 2 0 none) (.row 11 4 0 none), .row 9 (dRows (l'.map Obj.enc)), .row 2 (dRows (ops'.map Opn.enc)), .dead, .var [.dat (.val (.bool live)), .dat (.val (.bool fenced)), .dat (.val (.int .i64 code)), .dat (sl3D slots)], .dead, .row 4 (dRows (((rpS l' ps).take i).map Prc.enc) ++ [[.dat (.val (.bool live)), .dat (.val (.bool fenced)), .dat (.val (.int .i64 code)), .dat (sl3D slots)]])] (fun k => memN [] k = true) e
          (kpE [1, 2, 14, 142, 143] (mkE 284 [(1, p0 0), (2, p0 1), (14, p0 5), (142, .rv (.one (.dat (prcD ps)))), (143, vInt .i64 (ps.map Prc.enc).length)]) [(3, vBool (rpM l' ps (i + 1))), (144, vInt .i64 ((i + 1 : Nat) : Int))]) →
        View 0 ⟨e, [kB l ops ps, esl3, .dead, .dead, .dead, nxC (.row 6 9 0 none) (.row 7 2 0 none) (.row 11 4 0 none), .row 9 (dRows (l'.map Obj.enc)), .row 2 (dRows (ops'.map Opn.enc)), .dead, .var [.dat (.val (.bool live)), .dat (.val (.bool fenced)), .dat (.val (.int .i64 code)), .dat (sl3D slots)], .dead, .row 4 (dRows (((rpS l' ps).take i).map Prc.enc) ++ [[.dat (.val (.bool live)), .dat (.val (.bool fenced)), .dat (.val (.int .i64 code)), .dat (sl3D slots)]])]⟩
          ⟨kpE [1, 2, 14, 142, 143] (mkE 284 [(1, p0 0), (2, p0 1), (14, p0 5), (142, .rv (.one (.dat (prcD ps)))), (143, vInt .i64 (ps.map Prc.enc).length)]) [(3, vBool (rpM l' ps (i + 1))), (144, vInt .i64 ((i + 1 : Nat) : Int))], M141 l ops ps l' ops' ((rpS l' ps).take (i + 1))⟩ := by
      intro hb e he
      refine View.of 12 [0, 1, 2, 3, 4, 5, 6, 7, 11] [] rfl rfl rfl rfl rfl rfl he ?_
      refine .put (notF rfl) rfl (.eq rfl (by simp [kB])) (.put (notF rfl) rfl (.eq rfl (by simp [esl3])) (.dead (.dead (.dead (.put (notF rfl) rfl (.eq rfl (by simp [nxC])) (.put (notF rfl) rfl (.rowDE rfl) (.put (notF rfl) rfl (.rowDE rfl) (.put (notF rfl) rfl (.rowDE ?_) (.nil _)))))))))
      have e1 : rpF l' i ⟨live, fenced, code, slots⟩ = ⟨live, fenced, code, slots⟩ := by rw [rpF, hb]; rfl
      rw [hT, e1, List.map_append, dRows_append]
      rfl
    refine bB_dec (fun h0 => ?_) (fun h0 => ?_)
    · have h0 : 0 < i := by
        have h0 : (i : Int) > 0 := h0
        omega
      refine bB_split (fun hlv => ?_) (fun hlv => ?_)
      · refine rheld_row l' hl' (i : Nat) (id := 6) rfl ?_
        refine bB_split (fun hh => ?_) (fun hh => ?_)
        · have hb : rpB l' i ⟨live, fenced, code, slots⟩ = true := by
            simp only [rpB]
            rw [decide_eq_true h0, hlv]
            exact hh
          have e1 : rpF l' i ⟨live, fenced, code, slots⟩ = zeroP := by rw [rpF, hb]; rfl
          refine ⟨big, i + 1, hlt, (show ps.length - (i + 1) < ps.length - i by omega), View.of 12 [0, 1, 2, 3, 4, 5, 6, 7, 11] [] rfl rfl rfl rfl rfl rfl ?_ ?_⟩
          · rw [hM, hb, Bool.true_or]
            repeat (first | exact .nil | refine .junk ?_ | refine .put (.ren (next_i64 (by omega)).symm) ?_ | refine .eq rfl ?_)
          · refine .put (notF rfl) rfl (.eq rfl (by simp [kB])) (.put (notF rfl) rfl (.eq rfl (by simp [esl3])) (.dead (.dead (.dead (.put (notF rfl) rfl (.eq rfl (by simp [nxC])) (.put (notF rfl) rfl (.rowDE rfl) (.put (notF rfl) rfl (.rowDE rfl) (.put (notF rfl) rfl ?_ (.nil _)))))))))
            rw [hT, e1, List.map_append, dRows_append]
            refine .snoc (dRows_ren _ _) rfl fun j c c' h1 h2 => ?_
            match j, h1, h2 with
            | 0, h1, h2 => cases h1; cases h2; exact .ren (.dat _)
            | 1, h1, h2 => cases h1; cases h2; exact .ren (.dat _)
            | 2, h1, h2 => cases h1; cases h2; exact .ren (.dat _)
            | 3, h1, h2 => cases h1; cases h2; exact .frz (.esl 3)
            | n + 4, h1, h2 => simp at h1
        · have hb : rpB l' i ⟨live, fenced, code, slots⟩ = false := by
            simp only [rpB]
            rw [decide_eq_true h0, hlv]
            exact hh
          refine ⟨big, i + 1, hlt, (show ps.length - (i + 1) < ps.length - i by omega), keep hb _ ?_⟩
          rw [hM, hb, Bool.false_or]
          repeat (first | exact .nil | refine .junk ?_ | refine .put (.ren (next_i64 (by omega)).symm) ?_ | refine .eq rfl ?_)
      · have hb : rpB l' i ⟨live, fenced, code, slots⟩ = false := by
          simp only [rpB]
          rw [show live = false from hlv]; simp
        refine ⟨big, i + 1, hlt, (show ps.length - (i + 1) < ps.length - i by omega), keep hb _ ?_⟩
        rw [hM, hb, Bool.false_or]
        repeat (first | exact .nil | refine .junk ?_ | refine .put (.ren (next_i64 (by omega)).symm) ?_ | refine .eq rfl ?_)
    · have h0 : ¬ 0 < i := by
        have h0 : ¬ (i : Int) > 0 := h0
        omega
      have hb : rpB l' i ⟨live, fenced, code, slots⟩ = false := by
        simp only [rpB]
        rw [decide_eq_false h0]; rfl
      refine ⟨big, i + 1, hlt, (show ps.length - (i + 1) < ps.length - i by omega), keep hb _ ?_⟩
      rw [hM, hb, Bool.false_or]
      repeat (first | exact .nil | refine .junk ?_ | refine .put (.ren (next_i64 (by omega)).symm) ?_ | refine .eq rfl ?_)
  · have hie : i = ps.length := by
      have h : ¬ (i : Int) < ((ps.map Prc.enc).length : Int) := h
      rw [List.length_map] at h
      omega
    subst hie
    have hT : (rpS l' ps).take ps.length = rpS l' ps := List.take_of_length_le (by simp [rpS])
    refine hK _ _ (View.of 9 [0, 1, 6, 7, 8] [] rfl rfl rfl rfl rfl rfl ?_ ?_)
    · repeat (first | exact .nil | refine .junk ?_ | refine .eq rfl ?_)
    · exact .put (notF rfl) rfl (.eq rfl (by simp [nxC])) (.put (notF rfl) rfl (.eq rfl (by simp [esl3])) (.put (notF rfl) rfl (.rowDE rfl) (.put (notF rfl) rfl (.rowDE rfl) (.put (notF rfl) rfl (.rowDE (by rw [hT])) (.nil _)))))

def M121 (l : List Obj) (ops : List Opn) (ps : List Prc) (Q : List Int) (l' : List Obj) (ops' : List Opn) : Mem :=
  [kB l ops ps, esl3, .dead, .mp (Q.map entZ), opC, nxC (.row 6 9 0 none) (.row 7 2 0 none) .esl, .row 9 (dRows (l'.map Obj.enc)), .row 2 (dRows (ops'.map Opn.enc))]
def KOut (l' : List Obj) (ops' : List Opn) (ps' : List Prc) (more : Bool) (K : Ex → St → Prop) : Prop :=
  ∀ e m, View 0 ⟨e, m⟩ ⟨mkE 284 [(1, p0 0), (2, p0 1), (3, vBool more)], [nxC (.row 2 9 0 none) (.row 3 2 0 none) (.row 4 4 0 none), esl3, .row 9 (dRows (l'.map Obj.enc)), .row 2 (dRows (ops'.map Opn.enc)), .row 4 (dRows (ps'.map Prc.enc))]⟩ → K .normal ⟨e, m⟩
set_option maxRecDepth 100000 in
set_option maxHeartbeats 16000000 in
theorem t121 (l : List Obj) (ops : List Opn) (ps : List Prc) (ho : ops.length ≤ 4194304) (hpl : ps.length ≤ 4194304) (Q : List Int) (l' : List Obj) (hl' : l'.length ≤ 4194304) (K : Ex → St → Prop) (hK : KOut l' (ropS Q ops) (rpS l' ps) (rpM l' ps ps.length) K) :
    aw Try.prog 0 X121 (seqK (aw Try.prog 0 T141) K) ⟨mkE 284 [(1, p0 0), (2, p0 1), (3, vBool false), (5, p0 4), (14, p0 5)], M121 l ops ps Q l' []⟩ := by
  refine loop_keep (fun i => i ≤ ops.length) [1, 2, 3, 5, 14, 122, 123] (fun i => [(124, vInt .i64 (i : Nat))]) (fun i => M121 l ops ps Q l' ((ropS Q ops).take i)) (fun i => ops.length - i) 0 (Nat.zero_le _) ?_ (fun i hi => ?_)
  · refine View.of 8 [0, 1, 2, 3, 4, 5, 6, 7] [] rfl rfl rfl rfl rfl rfl ?_ ?_
    · repeat (first | exact .nil | refine .junk ?_ | refine .eq rfl ?_)
    · exact .put (notF rfl) rfl (.eq rfl (by simp [kB])) (.put (notF rfl) rfl (.eq rfl (by simp [esl3])) (.dead (.put (notF rfl) rfl (.eq (mapZ_ren _) (by simp)) (.put (notF rfl) rfl (.eq rfl (by simp [opC])) (.put (notF rfl) rfl (.eq rfl (by simp [nxC])) (.put (notF rfl) rfl (.rowDE rfl) (.put (notF rfl) rfl (.rowDE rfl) (.nil _))))))))
  have hi : i ≤ ops.length := hi
  refine bB_dec (fun h => ?_) (fun h => ?_)
  · have hlt : i < ops.length := by
      have h : (i : Int) < ((ops.map Opn.enc).length : Int) := h
      rw [List.length_map] at h
      omega
    have hp := List.getElem?_eq_getElem hlt
    have hg := opn_get hlt
    generalize ops[i] = o at hp hg
    have hT : (ropS Q ops).take (i + 1) = (ropS Q ops).take i ++ [ropF Q i o] := mapIdx_take hp
    obtain ⟨obj, at'⟩ := o
    refine ok_some hg ?_
    have big : ((dRows (((ropS Q ops).take i).map Opn.enc)).length + 1) * 16 ≤ 140737488355328 := by
      rw [dRows_len, List.length_map, List.length_take]; omega
    refine ok_some (mFind_Z (i : Int) Q) ?_
    cases hq : inZ Q (i : Int) with
    | false =>
      have e1 : ropF Q i ⟨obj, at'⟩ = ⟨-1, 0⟩ := by rw [ropF, hq]; rfl
      refine ⟨big, i + 1, hlt, (show ops.length - (i + 1) < ops.length - i by omega), View.of 11 [0, 1, 2, 3, 4, 5, 6, 10] [] rfl rfl rfl rfl rfl rfl ?_ ?_⟩
      · repeat (first | exact .nil | refine .junk ?_ | refine .put (.ren (next_i64 (by omega)).symm) ?_ | refine .eq rfl ?_)
      · refine .put (notF rfl) rfl (.eq rfl (by simp [kB])) (.put (notF rfl) rfl (.eq rfl (by simp [esl3])) (.dead (.put (notF rfl) rfl (.eq (mapZ_ren _) (by simp)) (.put (notF rfl) rfl (.eq rfl (by simp [opC])) (.put (notF rfl) rfl (.eq rfl (by simp [nxC])) (.put (notF rfl) rfl (.rowDE rfl) (.put (notF rfl) rfl (.rowDE ?_) (.nil _))))))))
        rw [hT, e1, List.map_append, dRows_append]
        rfl
    | true =>
      have e1 : ropF Q i ⟨obj, at'⟩ = ⟨obj, at'⟩ := by rw [ropF, hq]; rfl
      refine ⟨big, i + 1, hlt, (show ops.length - (i + 1) < ops.length - i by omega), View.of 11 [0, 1, 2, 3, 4, 5, 6, 10] [] rfl rfl rfl rfl rfl rfl ?_ ?_⟩
      · repeat (first | exact .nil | refine .junk ?_ | refine .put (.ren (next_i64 (by omega)).symm) ?_ | refine .eq rfl ?_)
      · refine .put (notF rfl) rfl (.eq rfl (by simp [kB])) (.put (notF rfl) rfl (.eq rfl (by simp [esl3])) (.dead (.put (notF rfl) rfl (.eq (mapZ_ren _) (by simp)) (.put (notF rfl) rfl (.eq rfl (by simp [opC])) (.put (notF rfl) rfl (.eq rfl (by simp [nxC])) (.put (notF rfl) rfl (.rowDE rfl) (.put (notF rfl) rfl (.rowDE ?_) (.nil _))))))))
        rw [hT, e1, List.map_append, dRows_append]
        rfl
  · have hie : i = ops.length := by
      have h : ¬ (i : Int) < ((ops.map Opn.enc).length : Int) := h
      rw [List.length_map] at h
      omega
    subst hie
    have hT : (ropS Q ops).take ops.length = ropS Q ops := List.take_of_length_le (by simp [ropS])
    refine ⟨_, View.trans (View.eslc 5 2 4 8 rfl rfl rfl rfl) (View.of 9 [0, 1, 2, 3, 4, 5, 6, 7, 8] [] rfl rfl rfl rfl rfl rfl ?_ ?_), t141 l ops ps hpl l' hl' (ropS Q ops) K hK⟩
    · repeat (first | exact .nil | refine .junk ?_ | refine .eq rfl ?_)
    · exact .put (notF rfl) rfl (.eq rfl (by simp [kB])) (.put (notF rfl) rfl (.eq rfl (by simp [esl3])) (.dead (.dead (.dead (.put (notF rfl) rfl (.eq rfl (by simp [nxC])) (.put (notF rfl) rfl (.rowDE rfl) (.put (notF rfl) rfl (.rowDE (by rw [hT])) (.put (notF rfl) rfl (.rowDE rfl) (.nil _)))))))))
def M90 (l : List Obj) (ops : List Opn) (ps : List Prc) (L : List Nat) (Q : List Int) (l' : List Obj) : Mem :=
  [kB l ops ps, esl3, .mp (L.map entN), .mp (Q.map entZ), opC, nxC (.row 6 9 0 none) .esl .esl, .row 9 (dRows (l'.map Obj.enc))]
theorem zeroSnoc {σ : Nat → Nat} {m : Mem} {Z : Nat → Prop} {id : Nat} (R : List Obj) {es : List (List CC)} (h : es = dRows (R.map Obj.enc)) : VwB σ m Z id (.row 9 (es ++ [zeroC])) (.row 9 (dRows ((R ++ [zeroO]).map Obj.enc))) := by
  subst h
  rw [List.map_append, dRows_append]
  refine .snoc (dRows_ren _ _) rfl fun j c c' h1 h2 => ?_
  match j, h1, h2 with
  | 0, h1, h2 => cases h1; cases h2; exact .ren (.dat _)
  | 1, h1, h2 => cases h1; cases h2; exact .frz (.esl 1)
  | 2, h1, h2 => cases h1; cases h2; exact .frz (.esl 2)
  | 3, h1, h2 => cases h1; cases h2; exact .ren (.dat _)
  | 4, h1, h2 => cases h1; cases h2; exact .ren (.dat _)
  | 5, h1, h2 => cases h1; cases h2; exact .frz (.esl 4)
  | 6, h1, h2 => cases h1; cases h2; exact .ren (.dat _)
  | 7, h1, h2 => cases h1; cases h2; exact .ren (.dat _)
  | 8, h1, h2 => cases h1; cases h2; exact .ren (.dat _)
  | n + 9, h1, h2 => simp [zeroC] at h1
set_option maxRecDepth 100000 in
set_option maxHeartbeats 16000000 in
theorem t90 (l : List Obj) (ops : List Opn) (ps : List Prc) (hl : l.length ≤ 4194304) (ho : ops.length ≤ 4194304) (hpl : ps.length ≤ 4194304) (L : List Nat) (Q : List Int) (K : Ex → St → Prop) (hK : KOut (rlS L l) (ropS Q ops) (rpS (rlS L l) ps) (rpM (rlS L l) ps ps.length) K) :
    aw Try.prog 0 X90 (seqK (aw Try.prog 0 T121) K) ⟨mkE 284 [(1, p0 0), (2, p0 1), (3, vBool false), (4, .rv (.one (.map 2))), (5, p0 4), (14, p0 5)], M90 l ops ps L Q []⟩ := by
  have mv : ∀ (i : Nat) (x : List CC) (o' : Obj), x = o'.enc.map .dat → (rlS L l).take (i + 1) = (rlS L l).take i ++ [o'] → dRows (((rlS L l).take i).map Obj.enc) ++ [x] = dRows (((rlS L l).take (i + 1)).map Obj.enc) := by
    intro i x o' h1 h2
    rw [h2, List.map_append, dRows_append, h1]
    rfl
  refine loop_keep (fun i => i ≤ l.length) [1, 2, 3, 4, 5, 14, 91, 92] (fun i => [(93, vInt .i64 (i : Nat))]) (fun i => M90 l ops ps L Q ((rlS L l).take i)) (fun i => l.length - i) 0 (Nat.zero_le _) ?_ (fun i hi => ?_)
  · refine View.of 7 [0, 1, 2, 3, 4, 5, 6] [] rfl rfl rfl rfl rfl rfl ?_ ?_
    · repeat (first | exact .nil | refine .junk ?_ | refine .eq rfl ?_)
    · exact .put (notF rfl) rfl (.eq rfl (by simp [kB])) (.put (notF rfl) rfl (.eq rfl (by simp [esl3])) (.put (notF rfl) rfl (.eq (mapN_ren _) (by simp)) (.put (notF rfl) rfl (.eq (mapZ_ren _) (by simp)) (.put (notF rfl) rfl (.eq rfl (by simp [opC])) (.put (notF rfl) rfl (.eq rfl (by simp [nxC])) (.put (notF rfl) rfl (.rowDE rfl) (.nil _)))))))
  have hi : i ≤ l.length := hi
  refine bB_dec (fun h => ?_) (fun h => ?_)
  · have hlt : i < l.length := by
      have h : (i : Int) < ((l.map Obj.enc).length : Int) := h
      rw [List.length_map] at h
      omega
    have hp := List.getElem?_eq_getElem hlt
    have hg := obj_get hlt
    generalize l[i] = o at hp hg
    have hT : (rlS L l).take (i + 1) = (rlS L l).take i ++ [roF L i o] := mapIdx_take hp
    obtain ⟨kind, data, entries, target, peer, queue, proc, links, up⟩ := o
    refine ok_some hg ?_
    have big : ((dRows (((rlS L l).take i).map Obj.enc)).length + 1) * 128 ≤ 140737488355328 := by
      rw [dRows_len, List.length_map, List.length_take]; omega
    refine ok_some (mFind_N (i : Int) L) ?_
    cases hn : inN L (i : Int) with
    | false =>
      have e1 : roF L i ⟨kind, data, entries, target, peer, queue, proc, links, up⟩ = zeroO := by rw [roF, if_pos hn]
      rw [e1] at hT
      refine ⟨big, i + 1, hlt, (show l.length - (i + 1) < l.length - i by omega), View.of 10 [0, 1, 2, 3, 4, 5, 9] [] rfl rfl rfl rfl rfl rfl ?_ ?_⟩
      · repeat (first | exact .nil | refine .junk ?_ | refine .put (.ren (next_i64 (by omega)).symm) ?_ | refine .eq rfl ?_)
      · refine .put (notF rfl) rfl (.eq rfl (by simp [kB])) (.put (notF rfl) rfl (.eq rfl (by simp [esl3])) (.put (notF rfl) rfl (.eq (mapN_ren _) (by simp)) (.put (notF rfl) rfl (.eq (mapZ_ren _) (by simp)) (.put (notF rfl) rfl (.eq rfl (by simp [opC])) (.put (notF rfl) rfl (.eq rfl (by simp [nxC])) (.put (notF rfl) rfl ?_ (.nil _)))))))
        rw [hT]
        exact zeroSnoc _ rfl
    | true =>
      have fin : ∀ (p' : Int), roF L i ⟨kind, data, entries, target, peer, queue, proc, links, up⟩ = ⟨kind, data, entries, target, p', queue, proc, links, up⟩ → dRows (((rlS L l).take i).map Obj.enc) ++ [[CC.dat (.val (.int .i64 kind)), .dat (.sl 1 data), .dat (.sl 2 entries), .dat (.val (.string target)), .dat (.val (.int .i64 p')), .dat (.sl 4 (queue.map Msg.enc)), .dat (.val (.int .i64 proc)), .dat (.val (.int .i64 links)), .dat (.val (.int .i64 up))]] = dRows (((rlS L l).take (i + 1)).map Obj.enc) := by
        intro p' e
        rw [e] at hT
        exact mv i _ _ rfl hT
      refine bB_beq (fun hk => ?_) (fun hk => ?_)
      · refine ok_some (mFind_N peer L) ?_
        cases hpe : inN L peer with
        | false =>
          have e1 : roF L i ⟨kind, data, entries, target, peer, queue, proc, links, up⟩ = ⟨kind, data, entries, target, -1, queue, proc, links, up⟩ := by
            rw [roF, if_neg (by rw [hn]; simp), if_pos ⟨hk, hpe⟩]
          refine ⟨big, i + 1, hlt, (show l.length - (i + 1) < l.length - i by omega), View.of 10 [0, 1, 2, 3, 4, 5, 9] [] rfl rfl rfl rfl rfl rfl ?_ ?_⟩
          · repeat (first | exact .nil | refine .junk ?_ | refine .put (.ren (next_i64 (by omega)).symm) ?_ | refine .eq rfl ?_)
          · exact .put (notF rfl) rfl (.eq rfl (by simp [kB])) (.put (notF rfl) rfl (.eq rfl (by simp [esl3])) (.put (notF rfl) rfl (.eq (mapN_ren _) (by simp)) (.put (notF rfl) rfl (.eq (mapZ_ren _) (by simp)) (.put (notF rfl) rfl (.eq rfl (by simp [opC])) (.put (notF rfl) rfl (.eq rfl (by simp [nxC])) (.put (notF rfl) rfl (.rowDE (fin (-1) e1)) (.nil _)))))))
        | true =>
          have e1 : roF L i ⟨kind, data, entries, target, peer, queue, proc, links, up⟩ = ⟨kind, data, entries, target, peer, queue, proc, links, up⟩ := by
            rw [roF, if_neg (by rw [hn]; simp), if_neg (fun h => by rw [show inN L peer = false from h.2] at hpe; cases hpe)]
          refine ⟨big, i + 1, hlt, (show l.length - (i + 1) < l.length - i by omega), View.of 10 [0, 1, 2, 3, 4, 5, 9] [] rfl rfl rfl rfl rfl rfl ?_ ?_⟩
          · repeat (first | exact .nil | refine .junk ?_ | refine .put (.ren (next_i64 (by omega)).symm) ?_ | refine .eq rfl ?_)
          · exact .put (notF rfl) rfl (.eq rfl (by simp [kB])) (.put (notF rfl) rfl (.eq rfl (by simp [esl3])) (.put (notF rfl) rfl (.eq (mapN_ren _) (by simp)) (.put (notF rfl) rfl (.eq (mapZ_ren _) (by simp)) (.put (notF rfl) rfl (.eq rfl (by simp [opC])) (.put (notF rfl) rfl (.eq rfl (by simp [nxC])) (.put (notF rfl) rfl (.rowDE (fin peer e1)) (.nil _)))))))
      · have e1 : roF L i ⟨kind, data, entries, target, peer, queue, proc, links, up⟩ = ⟨kind, data, entries, target, peer, queue, proc, links, up⟩ := by
          rw [roF, if_neg (by rw [hn]; simp), if_neg (fun h => hk h.1)]
        refine ⟨big, i + 1, hlt, (show l.length - (i + 1) < l.length - i by omega), View.of 10 [0, 1, 2, 3, 4, 5, 9] [] rfl rfl rfl rfl rfl rfl ?_ ?_⟩
        · repeat (first | exact .nil | refine .junk ?_ | refine .put (.ren (next_i64 (by omega)).symm) ?_ | refine .eq rfl ?_)
        · exact .put (notF rfl) rfl (.eq rfl (by simp [kB])) (.put (notF rfl) rfl (.eq rfl (by simp [esl3])) (.put (notF rfl) rfl (.eq (mapN_ren _) (by simp)) (.put (notF rfl) rfl (.eq (mapZ_ren _) (by simp)) (.put (notF rfl) rfl (.eq rfl (by simp [opC])) (.put (notF rfl) rfl (.eq rfl (by simp [nxC])) (.put (notF rfl) rfl (.rowDE (fin peer e1)) (.nil _)))))))
  · have hie : i = l.length := by
      have h : ¬ (i : Int) < ((l.map Obj.enc).length : Int) := h
      rw [List.length_map] at h
      omega
    subst hie
    have hT : (rlS L l).take l.length = rlS L l := List.take_of_length_le (by simp [rlS])
    refine ⟨_, View.trans (View.eslc 5 1 2 7 rfl rfl rfl rfl) (View.of 8 [0, 1, 2, 3, 4, 5, 6, 7] [] rfl rfl rfl rfl rfl rfl ?_ ?_), t121 l ops ps ho hpl Q (rlS L l) (by simpa [rlS] using hl) K hK⟩
    · repeat (first | exact .nil | refine .junk ?_ | refine .eq rfl ?_)
    · exact .put (notF rfl) rfl (.eq rfl (by simp [kB])) (.put (notF rfl) rfl (.eq rfl (by simp [esl3])) (.dead (.put (notF rfl) rfl (.eq (mapZ_ren _) (by simp)) (.put (notF rfl) rfl (.eq rfl (by simp [opC])) (.put (notF rfl) rfl (.eq rfl (by simp [nxC])) (.put (notF rfl) rfl (.rowDE (by rw [hT])) (.put (notF rfl) rfl (.rowDE rfl) (.nil _))))))))

def T1 (ps : List Prc) (p j : Nat) (z : Int) : Prop := ∃ (i : Nat) (pr : Prc) (k : Nat) (s : Sl3), ps[i]? = some pr ∧ pr.live = true ∧ pr.slots[k]? = some s ∧ s.has = true ∧ (i < p ∨ i = p ∧ k < j) ∧ z = s.opn
def T2 (l : List Obj) (ps : List Prc) (L : List Nat) (i k : Nat) (z : Int) : Prop :=
  T1 ps ps.length 0 z ∨ ∃ (i' : Nat) (o : Obj) (k' : Nat) (q : Msg), i' ∈ L ∧ l[i']? = some o ∧ o.queue[k']? = some q ∧ q.has = true ∧ (i' < i ∨ i' = i ∧ k' < k) ∧ z = q.opn
def QI (S : Int → Prop) (Q : List Int) : Prop := ∀ z, inZ Q z = true ↔ S z
theorem QI.add {S S' : Int → Prop} {Q : List Int} {x : Int} (h : QI S Q) (hS : ∀ z, S' z ↔ (S z ∨ z = x)) : QI S' (addZ x Q) := fun z => by rw [inZ_add, hS z, h z]
theorem QI.same {S S' : Int → Prop} {Q : List Int} (h : QI S Q) (hS : ∀ z, S' z ↔ S z) : QI S' Q := fun z => by rw [hS z, h z]
theorem T1_zero {ps : List Prc} {z : Int} : ¬ T1 ps 0 0 z := by
  rintro ⟨i, pr, k, s, _, _, _, _, h, _⟩
  omega
theorem T1_step {ps : List Prc} {p j : Nat} {pr : Prc} {s : Sl3} (hp : ps[p]? = some pr) (hs : pr.slots[j]? = some s) (y : Int) : T1 ps p (j + 1) y ↔ (T1 ps p j y ∨ (pr.live = true ∧ s.has = true ∧ y = s.opn)) := by
  constructor
  · rintro ⟨i, pr', k, s', h1, h2, h3, h4, h5, h6⟩
    by_cases hk : i = p ∧ k = j
    · obtain ⟨rfl, rfl⟩ := hk
      rw [hp] at h1
      cases h1
      rw [hs] at h3
      cases h3
      exact .inr ⟨h2, h4, h6⟩
    · exact .inl ⟨i, pr', k, s', h1, h2, h3, h4, by omega, h6⟩
  · rintro (⟨i, pr', k, s', h1, h2, h3, h4, h5, h6⟩ | ⟨h1, h2, h3⟩)
    · exact ⟨i, pr', k, s', h1, h2, h3, h4, by omega, h6⟩
    · exact ⟨p, pr, j, s, hp, h1, hs, h2, .inr ⟨rfl, by omega⟩, h3⟩
theorem T1_next {ps : List Prc} {p : Nat} {pr : Prc} (hp : ps[p]? = some pr) (y : Int) : T1 ps (p + 1) 0 y ↔ T1 ps p pr.slots.length y := by
  constructor
  · rintro ⟨i, pr', k, s', h1, h2, h3, h4, h5, h6⟩
    refine ⟨i, pr', k, s', h1, h2, h3, h4, ?_, h6⟩
    by_cases hi : i = p
    · subst hi
      rw [hp] at h1
      cases h1
      exact .inr ⟨rfl, (List.getElem?_eq_some_iff.1 h3).1⟩
    · exact .inl (by omega)
  · rintro ⟨i, pr', k, s', h1, h2, h3, h4, h5, h6⟩
    exact ⟨i, pr', k, s', h1, h2, h3, h4, by omega, h6⟩
theorem T2_zero {l : List Obj} {ps : List Prc} {L : List Nat} (z : Int) : T2 l ps L 0 0 z ↔ T1 ps ps.length 0 z := by
  constructor
  · rintro (h | ⟨i, o, k, q, _, _, _, _, h, _⟩)
    · exact h
    · omega
  · exact .inl
theorem T2_step {l : List Obj} {ps : List Prc} {L : List Nat} {i k : Nat} {o : Obj} {q : Msg} (ho : l[i]? = some o) (hq : o.queue[k]? = some q) (z : Int) : T2 l ps L i (k + 1) z ↔ (T2 l ps L i k z ∨ (i ∈ L ∧ q.has = true ∧ z = q.opn)) := by
  constructor
  · rintro (h | ⟨i', o', k', q', h1, h2, h3, h4, h5, h6⟩)
    · exact .inl (.inl h)
    · by_cases hk : i' = i ∧ k' = k
      · obtain ⟨rfl, rfl⟩ := hk
        rw [ho] at h2
        cases h2
        rw [hq] at h3
        cases h3
        exact .inr ⟨h1, h4, h6⟩
      · exact .inl (.inr ⟨i', o', k', q', h1, h2, h3, h4, by omega, h6⟩)
  · rintro ((h | ⟨i', o', k', q', h1, h2, h3, h4, h5, h6⟩) | ⟨h1, h2, h3⟩)
    · exact .inl h
    · exact .inr ⟨i', o', k', q', h1, h2, h3, h4, by omega, h6⟩
    · exact .inr ⟨i, o, k, q, h1, ho, hq, h2, .inr ⟨rfl, by omega⟩, h3⟩
theorem T2_next {l : List Obj} {ps : List Prc} {L : List Nat} {i : Nat} {o : Obj} (ho : l[i]? = some o) (z : Int) : T2 l ps L (i + 1) 0 z ↔ T2 l ps L i o.queue.length z := by
  constructor
  · rintro (h | ⟨i', o', k', q', h1, h2, h3, h4, h5, h6⟩)
    · exact .inl h
    · refine .inr ⟨i', o', k', q', h1, h2, h3, h4, ?_, h6⟩
      by_cases hi : i' = i
      · subst hi
        rw [ho] at h2
        cases h2
        exact .inr ⟨rfl, (List.getElem?_eq_some_iff.1 h3).1⟩
      · exact .inl (by omega)
  · rintro (h | ⟨i', o', k', q', h1, h2, h3, h4, h5, h6⟩)
    · exact .inl h
    · exact .inr ⟨i', o', k', q', h1, h2, h3, h4, by omega, h6⟩
/-- what a round's opens are -/
def OpenSet (l : List Obj) (ps : List Prc) (L : List Nat) (Q : List Int) : Prop := QI (T2 l ps L l.length 0) Q
def M33 (l : List Obj) (ops : List Opn) (ps : List Prc) (L : List Nat) (Q : List Int) : Mem := [kB l ops ps, esl3, .mp (L.map entN), .mp (Q.map entZ), opC]
theorem vw33 (l : List Obj) (ops : List Opn) (ps : List Prc) (L : List Nat) (Q : List Int) (n : Nat) (R : Mem) : MemVw (sg [0, 1, 2, 3, 4] n) (kB l ops ps :: esl3 :: .mp (L.map entN) :: .mp (Q.map entZ) :: opC :: R) (fun k => memN [] k = true) 0 (M33 l ops ps L Q) :=
  .put (notF rfl) rfl (.eq rfl (by simp [kB])) (.put (notF rfl) rfl (.eq rfl (by simp [esl3])) (.put (notF rfl) rfl (.eq (mapN_ren _) (by simp)) (.put (notF rfl) rfl (.eq (mapZ_ren _) (by simp)) (.put (notF rfl) rfl (.eq rfl (by simp [opC])) (.nil _)))))
theorem vw33v (l : List Obj) (ops : List Opn) (ps : List Prc) (L : List Nat) (Q : List Int) (ds : List Dt) (n : Nat) (R : Mem) : MemVw (sg [0, 1, 2, 3, 4, 5] n) (kB l ops ps :: esl3 :: .mp (L.map entN) :: .mp (Q.map entZ) :: opC :: .var (ds.map .dat) :: R) (fun k => memN [] k = true) 0 (M33 l ops ps L Q ++ [.var (ds.map .dat)]) :=
  .put (notF rfl) rfl (.eq rfl (by simp [kB])) (.put (notF rfl) rfl (.eq rfl (by simp [esl3])) (.put (notF rfl) rfl (.eq (mapN_ren _) (by simp)) (.put (notF rfl) rfl (.eq (mapZ_ren _) (by simp)) (.put (notF rfl) rfl (.eq rfl (by simp [opC])) (.put (notF rfl) rfl (.varDE rfl) (.nil _))))))
structure StQ where
  i : Nat
  Q : List Int
def KRound (l : List Obj) (ops : List Opn) (ps : List Prc) (L : List Nat) (K : Ex → St → Prop) : Prop :=
  ∀ Q, OpenSet l ps L Q → KOut (rlS L l) (ropS Q ops) (rpS (rlS L l) ps) (rpM (rlS L l) ps ps.length) K
set_option maxRecDepth 100000 in
set_option maxHeartbeats 16000000 in
theorem t59 (l : List Obj) (ops : List Opn) (ps : List Prc) (g : ∀ o, o ∈ l → o.sm) (hl : l.length ≤ 4194304) (ho : ops.length ≤ 4194304) (hpl : ps.length ≤ 4194304) (L : List Nat) (K : Ex → St → Prop) (hK : KRound l ops ps L K) (Q : List Int) (hQ : QI (T1 ps ps.length 0) Q) :
    aw Try.prog 0 X59 (seqK (aw Try.prog 0 T89) K) ⟨mkE 284 [(1, p0 0), (2, p0 1), (3, vBool false), (4, .rv (.one (.map 2))), (5, p0 4), (6, .rv (.one (.fn 25 [4])))], M33 l ops ps L Q⟩ := by
  refine loop_keep (fun a : StQ => a.i ≤ l.length ∧ QI (T2 l ps L a.i 0) a.Q) [1, 2, 3, 4, 5, 6, 60, 61] (fun a => [(62, vInt .i64 (a.i : Nat))]) (fun a => M33 l ops ps L a.Q) (fun a => l.length - a.i) ⟨0, Q⟩ ⟨Nat.zero_le _, hQ.same T2_zero⟩ ?_ (fun a hJ => ?_)
  · refine View.of 5 [0, 1, 2, 3, 4] [] rfl rfl rfl rfl rfl rfl ?_ (vw33 l ops ps L Q 5 [])
    repeat (first | exact .nil | refine .junk ?_ | refine .eq rfl ?_)
  clear hQ
  obtain ⟨i, Q⟩ := a
  obtain ⟨hi, hQ⟩ := hJ
  have hi : i ≤ l.length := hi
  have hQ : QI (T2 l ps L i 0) Q := hQ
  refine bB_dec (fun h => ?_) (fun h => ?_)
  · have hlt : i < l.length := by
      have h : (i : Int) < ((l.map Obj.enc).length : Int) := h
      rw [List.length_map] at h
      omega
    have hoi := List.getElem?_eq_getElem hlt
    have hsm := g _ (List.getElem_mem hlt)
    have hg := obj_get hlt
    generalize l[i] = o at hoi hsm hg
    obtain ⟨kind, data, entries, target, peer, queue, proc, links, up⟩ := o
    have hql : queue.length ≤ 8 := hsm.q
    refine ok_some hg ?_
    refine loop_keep (fun a : StQ => a.i ≤ queue.length ∧ QI (T2 l ps L i a.i) a.Q) [1, 2, 3, 4, 5, 6, 11, 60, 61, 62, 70, 71] (fun a => [(72, vInt .i64 (a.i : Nat))]) (fun a => M33 l ops ps L a.Q) (fun a => queue.length - a.i) ⟨0, Q⟩ ⟨Nat.zero_le _, hQ⟩ ?_ (fun a hJ => ?_)
    · refine View.of 5 [0, 1, 2, 3, 4] [] rfl rfl rfl rfl rfl rfl ?_ (vw33 l ops ps L Q 5 [])
      repeat (first | exact .nil | refine .junk ?_ | refine .eq rfl ?_)
    clear hQ
    obtain ⟨k, Q⟩ := a
    obtain ⟨hk, hQ⟩ := hJ
    have hk : k ≤ queue.length := hk
    have hQ : QI (T2 l ps L i k) Q := hQ
    refine bB_dec (fun hkl => ?_) (fun hkl => ?_)
    · have hklt : k < queue.length := by
        have h : (k : Int) < ((queue.map Msg.enc).length : Int) := hkl
        rw [List.length_map] at h
        omega
      have hqu := List.getElem?_eq_getElem hklt
      have hg2 : getZ (queue.map Msg.enc) (k : Nat) = some (queue[k].enc) := by rw [getZ_nat, List.getElem?_map, hqu]; rfl
      generalize queue[k] = ms at hqu hg2
      have hst := T2_step (ps := ps) (L := L) hoi hqu
      obtain ⟨mdata, has, opn, rts⟩ := ms
      refine ok_some (x := [.sl 1 mdata, .val (.bool has), .val (.int .i64 opn), .val (.int .i64 rts)]) hg2 ?_
      refine ok_some (mFind_N (i : Int) L) ?_
      cases hn : inN L (i : Int) with
      | false =>
        have hni : i ∉ L := fun h => by rw [inN_iff.2 h] at hn; cases hn
        refine ⟨⟨k + 1, Q⟩, ⟨hklt, hQ.same fun z => by rw [hst z]; exact ⟨fun h => h.elim id fun h => absurd h.1 hni, .inl⟩⟩, (show queue.length - (k + 1) < queue.length - k by omega), View.of 6 [0, 1, 2, 3, 4] [] rfl rfl rfl rfl rfl rfl ?_ (vw33 l ops ps L Q 6 _)⟩
        repeat (first | exact .nil | refine .junk ?_ | refine .put (.ren (next_i64 (by omega)).symm) ?_ | refine .eq rfl ?_)
      | true =>
        have hiL : i ∈ L := inN_iff.1 hn
        refine bB_split (fun hh => ?_) (fun hh => ?_)
        · refine radd_ok (kB l ops ps) esl3 (.mp (L.map entN)) opn rts Q [.var [.dat (.sl 1 mdata), .dat (.val (.bool has)), .dat (.val (.int .i64 opn)), .dat (.val (.int .i64 rts))]] ?_
          refine ⟨⟨k + 1, addZ opn Q⟩, ⟨hklt, hQ.add fun z => by rw [hst z]; exact ⟨fun h => h.elim .inl fun h => .inr h.2.2, fun h => h.elim .inl fun h => .inr ⟨hiL, hh, h⟩⟩⟩, (show queue.length - (k + 1) < queue.length - k by omega), View.of 6 [0, 1, 2, 3, 4] [] rfl rfl rfl rfl rfl rfl ?_ (vw33 l ops ps L (addZ opn Q) 6 _)⟩
          repeat (first | exact .nil | refine .junk ?_ | refine .put (.ren (next_i64 (by omega)).symm) ?_ | refine .eq rfl ?_)
        · refine ⟨⟨k + 1, Q⟩, ⟨hklt, hQ.same fun z => by rw [hst z]; exact ⟨fun h => h.elim id fun h => absurd h.2.1 (by rw [show has = false from hh]; simp), .inl⟩⟩, (show queue.length - (k + 1) < queue.length - k by omega), View.of 6 [0, 1, 2, 3, 4] [] rfl rfl rfl rfl rfl rfl ?_ (vw33 l ops ps L Q 6 _)⟩
          repeat (first | exact .nil | refine .junk ?_ | refine .put (.ren (next_i64 (by omega)).symm) ?_ | refine .eq rfl ?_)
    · have hke : k = queue.length := by
        have h : ¬ (k : Int) < ((queue.map Msg.enc).length : Int) := hkl
        rw [List.length_map] at h
        omega
      subst hke
      refine ⟨⟨i + 1, Q⟩, ⟨hlt, hQ.same fun z => T2_next hoi z⟩, (show l.length - (i + 1) < l.length - i by omega), View.of 5 [0, 1, 2, 3, 4] [] rfl rfl rfl rfl rfl rfl ?_ (vw33 l ops ps L Q 5 [])⟩
      repeat (first | exact .nil | refine .junk ?_ | refine .put (.ren (next_i64 (by omega)).symm) ?_ | refine .eq rfl ?_)
  · have hie : i = l.length := by
      have h : ¬ (i : Int) < ((l.map Obj.enc).length : Int) := h
      rw [List.length_map] at h
      omega
    subst hie
    refine ⟨_, View.trans (View.eslc 5 0 9 6 rfl rfl rfl rfl) (View.of 7 [0, 1, 2, 3, 4, 5, 6] [] rfl rfl rfl rfl rfl rfl ?_ ?_), t90 l ops ps hl ho hpl L Q K (hK Q hQ)⟩
    · repeat (first | exact .nil | refine .junk ?_ | refine .eq rfl ?_)
    · exact .put (notF rfl) rfl (.eq rfl (by simp [kB])) (.put (notF rfl) rfl (.eq rfl (by simp [esl3])) (.put (notF rfl) rfl (.eq (mapN_ren _) (by simp)) (.put (notF rfl) rfl (.eq (mapZ_ren _) (by simp)) (.put (notF rfl) rfl (.eq rfl (by simp [opC])) (.put (notF rfl) rfl (.eq rfl (by simp [nxC])) (.put (notF rfl) rfl (.rowDE rfl) (.nil _)))))))
set_option maxRecDepth 100000 in
set_option maxHeartbeats 16000000 in
theorem t33 (l : List Obj) (ops : List Opn) (ps : List Prc) (g : ∀ o, o ∈ l → o.sm) (hl : l.length ≤ 4194304) (ho : ops.length ≤ 4194304) (hpl : ps.length ≤ 4194304) (hps : ∀ p, p ∈ ps → p.slots.length ≤ 4194304) (L : List Nat) (K : Ex → St → Prop) (hK : KRound l ops ps L K) :
    aw Try.prog 0 X33 (seqK (aw Try.prog 0 T59) K) ⟨mkE 284 [(1, p0 0), (2, p0 1), (3, vBool false), (4, .rv (.one (.map 2))), (5, p0 4), (6, .rv (.one (.fn 25 [4])))], M33 l ops ps L []⟩ := by
  refine loop_keep (fun a : StQ => a.i ≤ ps.length ∧ QI (T1 ps a.i 0) a.Q) [1, 2, 3, 4, 5, 6, 34, 35] (fun a => [(36, vInt .i64 (a.i : Nat))]) (fun a => M33 l ops ps L a.Q) (fun a => ps.length - a.i) ⟨0, []⟩ ⟨Nat.zero_le _, fun z => ⟨(fun h => by cases h), fun h => absurd h T1_zero⟩⟩ ?_ (fun a hJ => ?_)
  · refine View.of 5 [0, 1, 2, 3, 4] [] rfl rfl rfl rfl rfl rfl ?_ (vw33 l ops ps L [] 5 [])
    repeat (first | exact .nil | refine .junk ?_ | refine .eq rfl ?_)
  obtain ⟨p, Q⟩ := a
  obtain ⟨hp, hQ⟩ := hJ
  have hp : p ≤ ps.length := hp
  have hQ : QI (T1 ps p 0) Q := hQ
  refine bB_dec (fun h => ?_) (fun h => ?_)
  · have hplt : p < ps.length := by
      have h : (p : Int) < ((ps.map Prc.enc).length : Int) := h
      rw [List.length_map] at h
      omega
    have hpr := List.getElem?_eq_getElem hplt
    have hsl := hps _ (List.getElem_mem hplt)
    have hg := (by rw [getZ_nat, List.getElem?_map, hpr]; rfl : getZ (ps.map Prc.enc) (p : Nat) = some (ps[p].enc))
    generalize ps[p] = pr at hpr hg hsl
    obtain ⟨live, fenced, code, slots⟩ := pr
    have hsl : slots.length ≤ 4194304 := hsl
    refine ok_some (x := [.val (.bool live), .val (.bool fenced), .val (.int .i64 code), sl3D slots]) hg ?_
    refine loop_keep (fun a : StQ => a.i ≤ slots.length ∧ QI (T1 ps p a.i) a.Q) [1, 2, 3, 4, 5, 6, 8, 34, 35, 36, 41, 42] (fun a => [(43, vInt .i64 (a.i : Nat))]) (fun a => M33 l ops ps L a.Q ++ [.var ([Dt.val (.bool live), .val (.bool fenced), .val (.int .i64 code), sl3D slots].map .dat)]) (fun a => slots.length - a.i) ⟨0, Q⟩
      ⟨Nat.zero_le _, hQ⟩ ?_ (fun a hJ => ?_)
    · refine View.of 6 [0, 1, 2, 3, 4, 5] [] rfl rfl rfl rfl rfl rfl ?_ (vw33v l ops ps L Q [.val (.bool live), .val (.bool fenced), .val (.int .i64 code), sl3D slots] 6 [])
      repeat (first | exact .nil | refine .junk ?_ | refine .eq rfl ?_)
    clear hQ
    obtain ⟨j, Q⟩ := a
    obtain ⟨hj, hQ⟩ := hJ
    have hj : j ≤ slots.length := hj
    have hQ : QI (T1 ps p j) Q := hQ
    refine bB_dec (fun hjl => ?_) (fun hjl => ?_)
    · have hjlt : j < slots.length := by
        have h : (j : Int) < ((slots.map Sl3.enc).length : Int) := hjl
        rw [List.length_map] at h
        omega
      have hs := List.getElem?_eq_getElem hjlt
      have hg2 : getZ (slots.map Sl3.enc) (j : Nat) = some (slots[j].enc) := by rw [getZ_nat, List.getElem?_map, hs]; rfl
      generalize slots[j] = s at hs hg2
      have hst := T1_step hpr hs
      obtain ⟨has, opn, rts⟩ := s
      refine ok_some (x := [.val (.bool has), .val (.int .i64 opn), .val (.int .i64 rts)]) hg2 ?_
      have skip : ¬ (live = true ∧ has = true) → QI (T1 ps p (j + 1)) Q := fun hn => hQ.same fun z => by rw [hst z]; exact ⟨fun h => h.elim id fun h => absurd ⟨h.1, h.2.1⟩ hn, .inl⟩
      refine bB_split (fun hlv => ?_) (fun hlv => ?_)
      · refine bB_split (fun hh => ?_) (fun hh => ?_)
        · refine radd_ok (kB l ops ps) esl3 (.mp (L.map entN)) opn rts Q [.var [.dat (.val (.bool live)), .dat (.val (.bool fenced)), .dat (.val (.int .i64 code)), .dat (sl3D slots)], .var [.dat (.val (.bool has)), .dat (.val (.int .i64 opn)), .dat (.val (.int .i64 rts))]] ?_
          refine ⟨⟨j + 1, addZ opn Q⟩, ⟨hjlt, hQ.add fun z => by rw [hst z]; exact ⟨fun h => h.elim .inl fun h => .inr h.2.2, fun h => h.elim .inl fun h => .inr ⟨hlv, hh, h⟩⟩⟩, (show slots.length - (j + 1) < slots.length - j by omega), View.of 7 [0, 1, 2, 3, 4, 5] [] rfl rfl rfl rfl rfl rfl ?_ (vw33v l ops ps L (addZ opn Q) [.val (.bool live), .val (.bool fenced), .val (.int .i64 code), sl3D slots] 7 _)⟩
          repeat (first | exact .nil | refine .junk ?_ | refine .put (.ren (next_i64 (by omega)).symm) ?_ | refine .eq rfl ?_)
        · refine ⟨⟨j + 1, Q⟩, ⟨hjlt, skip fun h => by rw [h.2] at hh; cases hh⟩, (show slots.length - (j + 1) < slots.length - j by omega), View.of 7 [0, 1, 2, 3, 4, 5] [] rfl rfl rfl rfl rfl rfl ?_ (vw33v l ops ps L Q [.val (.bool live), .val (.bool fenced), .val (.int .i64 code), sl3D slots] 7 _)⟩
          repeat (first | exact .nil | refine .junk ?_ | refine .put (.ren (next_i64 (by omega)).symm) ?_ | refine .eq rfl ?_)
      · refine ⟨⟨j + 1, Q⟩, ⟨hjlt, skip fun h => by rw [h.1] at hlv; cases hlv⟩, (show slots.length - (j + 1) < slots.length - j by omega), View.of 7 [0, 1, 2, 3, 4, 5] [] rfl rfl rfl rfl rfl rfl ?_ (vw33v l ops ps L Q [.val (.bool live), .val (.bool fenced), .val (.int .i64 code), sl3D slots] 7 _)⟩
        repeat (first | exact .nil | refine .junk ?_ | refine .put (.ren (next_i64 (by omega)).symm) ?_ | refine .eq rfl ?_)
    · have hje : j = slots.length := by
        have h : ¬ (j : Int) < ((slots.map Sl3.enc).length : Int) := hjl
        rw [List.length_map] at h
        omega
      subst hje
      refine ⟨⟨p + 1, Q⟩, ⟨hplt, hQ.same fun z => T1_next hpr z⟩, (show ps.length - (p + 1) < ps.length - p by omega), View.of 6 [0, 1, 2, 3, 4] [] rfl rfl rfl rfl rfl rfl ?_ (vw33 l ops ps L Q 6 _)⟩
      repeat (first | exact .nil | refine .junk ?_ | refine .put (.ren (next_i64 (by omega)).symm) ?_ | refine .eq rfl ?_)
  · have hpe : p = ps.length := by
      have h : ¬ (p : Int) < ((ps.map Prc.enc).length : Int) := h
      rw [List.length_map] at h
      omega
    subst hpe
    refine ⟨_, View.of 5 [0, 1, 2, 3, 4] [] rfl rfl rfl rfl rfl rfl ?_ (vw33 l ops ps L Q 5 []), t59 l ops ps g hl ho hpl L K hK Q hQ⟩
    repeat (first | exact .nil | refine .junk ?_ | refine .eq rfl ?_)

/-! Sweep of the document: the rounds -/
theorem fzeroO_sm : zeroO.sm := ⟨⟨⟨[], rfl⟩, ⟨[], rfl⟩, fun q hq => by simp [zeroO] at hq⟩, by simp [zeroO], by simp [zeroO], by simp [zeroO], fun q hq => by simp [zeroO] at hq⟩
def flives (ps : List Prc) : Nat := (ps.filter fun p => p.live).length
theorem flives_le : ∀ (a b : List Prc), b.length = a.length → (∀ (t : Nat) x y, a[t]? = some x → b[t]? = some y → y.live = true → x.live = true) → flives b ≤ flives a ∧ ((∃ (t : Nat) (x y : Prc), a[t]? = some x ∧ b[t]? = some y ∧ x.live = true ∧ y.live = false) → flives b < flives a)
  | [], [], _, _ => ⟨Nat.le_refl _, fun ⟨t, x, y, h, _⟩ => by simp at h⟩
  | [], _ :: _, h, _ => by simp at h
  | _ :: _, [], h, _ => by simp at h
  | x :: a, y :: b, h, hm => by
    obtain ⟨ih1, ih2⟩ := flives_le a b (by simpa using h) (fun t u v hu hv => hm (t + 1) u v (by simpa using hu) (by simpa using hv))
    have h0 := hm 0 x y (by simp) (by simp)
    refine ⟨?_, fun ⟨t, u, v, hu, hv, hul, hvl⟩ => ?_⟩
    · unfold flives at ih1 ⊢
      cases hx : x.live <;> cases hy : y.live <;> simp [hx, hy] at h0 ⊢ <;> omega
    · cases t with
      | zero =>
        simp at hu hv
        subst hu hv
        unfold flives at ih1 ⊢
        simp [hul, hvl]
        omega
      | succ t =>
        have := ih2 ⟨t, u, v, by simpa using hu, by simpa using hv, hul, hvl⟩
        unfold flives at this ⊢
        cases hx : x.live <;> cases hy : y.live <;> simp [hx, hy] at h0 ⊢ <;> omega
structure Kx where
  l : List Obj
  ops : List Opn
  ps : List Prc
structure KSz (k : Kx) : Prop where
  g : ∀ o, o ∈ k.l → o.sm
  hl : k.l.length ≤ 4194304
  ho : k.ops.length ≤ 4194304
  hp : k.ps.length ≤ 4194304
  hs : ∀ p, p ∈ k.ps → p.slots.length ≤ 4194304
/-- one round of the document's Sweep -/
structure RStep (k k' : Kx) (more : Bool) : Prop where
  ex : ∃ L Q, ReachOK k.l k.ops k.ps L ∧ OpenSet k.l k.ps L Q ∧ k'.l = rlS L k.l ∧ k'.ops = ropS Q k.ops
  ps : k'.ps = rpS k'.l k.ps
  mo : more = rpM k'.l k.ps k.ps.length
inductive RTo (k : Kx) : Kx → Prop
  | refl : RTo k k
  | step {a b : Kx} (h : RTo k a) (s : RStep a b true) : RTo k b
theorem roF_sm {L : List Nat} {i : Nat} {o : Obj} (h : o.sm) : (roF L i o).sm := by
  unfold roF
  split
  · exact fzeroO_sm
  · split
    · exact ⟨h.t, h.d, h.e, h.q, h.qd⟩
    · exact h
theorem mem_mapIdx {α β : Type} {f : Nat → α → β} {l : List α} {y : β} (h : y ∈ l.mapIdx f) : ∃ i x, l[i]? = some x ∧ y = f i x := by
  obtain ⟨i, hi⟩ := List.mem_iff_getElem?.1 h
  rw [List.getElem?_mapIdx] at hi
  cases hx : l[i]? with
  | none => rw [hx] at hi; cases hi
  | some x =>
    rw [hx] at hi
    exact ⟨i, x, hx, (Option.some.inj hi).symm⟩
theorem RStep.sz {a b : Kx} {m : Bool} (s : RStep a b m) (h : KSz a) : KSz b := by
  obtain ⟨⟨L, Q, _, _, e1, e2⟩, e3, _⟩ := s
  refine ⟨fun o ho => ?_, ?_, ?_, ?_, fun p hp => ?_⟩
  · rw [e1] at ho
    obtain ⟨i, x, hx, rfl⟩ := mem_mapIdx ho
    exact roF_sm (h.g x (List.mem_of_getElem? hx))
  · rw [e1, rlS, List.length_mapIdx]; exact h.hl
  · rw [e2, ropS, List.length_mapIdx]; exact h.ho
  · rw [e3, rpS, List.length_mapIdx]; exact h.hp
  · rw [e3] at hp
    obtain ⟨i, x, hx, rfl⟩ := mem_mapIdx hp
    unfold rpF
    split
    · exact Nat.zero_le _
    · exact h.hs x (List.mem_of_getElem? hx)
theorem rpM_some {l' : List Obj} {ps : List Prc} : ∀ k, rpM l' ps k = true → ∃ t p, ps[t]? = some p ∧ rpB l' t p = true
  | 0, h => by cases h
  | k + 1, h => by
    simp only [rpM, Bool.or_eq_true] at h
    rcases h with h | h
    · cases hp : ps[k]? with
      | none => rw [hp] at h; cases h
      | some p => rw [hp] at h; exact ⟨k, p, hp, h⟩
    · exact rpM_some k h
theorem rpB_live {l' : List Obj} {t : Nat} {p : Prc} (h : rpB l' t p = true) : p.live = true := by
  simp only [rpB, Bool.and_eq_true] at h
  exact h.2.1
theorem RStep.less {a b : Kx} (s : RStep a b true) : flives b.ps < flives a.ps := by
  obtain ⟨_, e3, e4⟩ := s
  obtain ⟨t, p, hp, hb⟩ := rpM_some _ e4.symm
  have hat : ∀ (i : Nat) (x : Prc), a.ps[i]? = some x → b.ps[i]? = some (rpF b.l i x) := fun i x hx => by rw [e3, rpS, List.getElem?_mapIdx, hx]; rfl
  refine (flives_le a.ps b.ps (by rw [e3, rpS, List.length_mapIdx]) fun i x y hx hy hl => ?_).2 ⟨t, p, zeroP, hp, ?_, rpB_live hb, rfl⟩
  · rw [hat i x hx] at hy
    cases hy
    unfold rpF at hl
    split at hl
    · cases hl
    · exact hl
  · rw [hat t p hp, rpF, hb]; rfl
def rowsM (k : Kx) : Mem := [nxC (.row 2 9 0 none) (.row 3 2 0 none) (.row 4 4 0 none), esl3, .row 9 (dRows (k.l.map Obj.enc)), .row 2 (dRows (k.ops.map Opn.enc)), .row 4 (dRows (k.ps.map Prc.enc))]
theorem fvwEq {σ : Nat → Nat} {m : Mem} {Z : Nat → Prop} {p : Option Nat} {a b : Dt} (h : a = b) : VwC σ m Z p (.dat a) (.dat b) := h ▸ .ren (.dat a)
set_option maxRecDepth 100000 in
theorem rB21 (k : Kx) (h : KSz k) (K : Ex → St → Prop) (hK : ∀ L, ReachOK k.l k.ops k.ps L → KRound k.l k.ops k.ps L K) :
    aw Try.prog 0 B21 K ⟨mkE 284 [(1, p0 0), (2, p0 1), (3, vBool true), (28, vBool true)], [kB k.l k.ops k.ps, esl3]⟩ := by
  refine rreach_ok k.l k.ops k.ps h.g h.hl h.hp h.hs fun L hL => ?_
  refine ⟨_, View.of 5 [0, 1, 2, 3, 4] [] rfl rfl rfl rfl rfl rfl ?_ (vw33 k.l k.ops k.ps L [] 5 []), t33 k.l k.ops k.ps h.g h.hl h.ho h.hp h.hs L K (hK L hL)⟩
  repeat (first | exact .nil | refine .junk ?_ | refine .eq rfl ?_)
theorem thaw (k : Kx) : MemVw (sg [0, 1] 5) (rowsM k) (fun i => memN [2, 3, 4] i = true) 0 [kB k.l k.ops k.ps, esl3] := by
  refine .put (notF rfl) rfl (CcsVp.var (.cons (.frz ?_) (.cons (.frz ?_) (.cons (.frz ?_) .nil)))) (.put (notF rfl) rfl (.eq rfl (by simp [esl3])) (.nil _))
  · exact FrzD.rowD (Z := fun i => memN [2, 3, 4] i = true) (m := rowsM k) (id := 2) (esz := 9) (ds := k.l.map Obj.enc) rfl rfl 0 none
  · exact FrzD.rowD (Z := fun i => memN [2, 3, 4] i = true) (m := rowsM k) (id := 3) (esz := 2) (ds := k.ops.map Opn.enc) rfl rfl 0 none
  · exact FrzD.rowD (Z := fun i => memN [2, 3, 4] i = true) (m := rowsM k) (id := 4) (esz := 4) (ds := k.ps.map Prc.enc) rfl rfl 0 none

def KEnd (k : Kx) (K : Ex → St → Prop) : Prop :=
  ∀ e m, View 0 ⟨e, m⟩ ⟨mkE 284 [(1, p0 0), (2, p0 1)], rowsM k⟩ → K .normal ⟨e, m⟩
/-- what the rounds of Sweep make of a kernel -/
def RFin (k b : Kx) : Prop := ∃ a, RTo k a ∧ RStep a b false
def G21 : LC := fstS (sndS c8.code)
structure StO where
  k : Kx
  more : Bool
def hdM (a : StO) : Mem := match a.more with
  | true => [kB a.k.l a.k.ops a.k.ps, esl3]
  | false => rowsM a.k
set_option maxRecDepth 100000 in
set_option maxHeartbeats 16000000 in
theorem loop21 (k : Kx) (hk : KSz k) (K : Ex → St → Prop) (hK : ∀ b, RFin k b → KSz b → KEnd b K) :
    aw Try.prog 0 G21 K ⟨mkE 284 [(1, p0 0), (2, p0 1)], [kB k.l k.ops k.ps, esl3]⟩ := by
  refine loop_keep (fun a : StO => KSz a.k ∧ (a.more = true → RTo k a.k) ∧ (a.more = false → RFin k a.k)) [1, 2] (fun a => [(3, vBool a.more)]) hdM (fun a => if a.more then flives a.k.ps + 1 else 0) ⟨k, true⟩ ⟨hk, fun _ => .refl, fun h => by cases h⟩ ?_ (fun a hJ => ?_)
  · refine View.of 2 [0, 1] [] rfl rfl rfl rfl rfl rfl ?_ ?_
    · repeat (first | exact .nil | refine .junk ?_ | refine .eq rfl ?_)
    · exact .put (notF rfl) rfl (.eq rfl (by simp [kB])) (.put (notF rfl) rfl (.eq rfl (by simp [esl3])) (.nil _))
  obtain ⟨a, more⟩ := a
  obtain ⟨hz, hT, hF⟩ := hJ
  cases more with
  | false =>
    refine hK a (hF rfl) hz _ _ (View.of 5 [0, 1, 2, 3, 4] [] rfl rfl rfl rfl rfl rfl ?_ ?_)
    · repeat (first | exact .nil | refine .junk ?_ | refine .eq rfl ?_)
    · exact .put (notF rfl) rfl (.eq rfl (by simp [nxC])) (.put (notF rfl) rfl (.eq rfl (by simp [esl3])) (.put (notF rfl) rfl (.rowDE rfl) (.put (notF rfl) rfl (.rowDE rfl) (.put (notF rfl) rfl (.rowDE rfl) (.nil _)))))
  | true =>
    have hT := hT rfl
    refine rB21 a hz _ fun L hL Q hQ e m hv => ?_
    generalize hb : (⟨rlS L a.l, ropS Q a.ops, rpS (rlS L a.l) a.ps⟩ : Kx) = b
    have hs : ∀ x, x = rpM (rlS L a.l) a.ps a.ps.length → RStep a b x := fun x hx => by
      subst hb
      exact ⟨⟨L, Q, hL, hQ, rfl, rfl⟩, rfl, hx⟩
    cases hm : rpM (rlS L a.l) a.ps a.ps.length with
    | false =>
      rw [hm] at hv
      have s := hs false hm.symm
      refine ⟨⟨b, false⟩, ⟨s.sz hz, (fun h => by cases h), fun _ => ⟨a, hT, s⟩⟩, (show 0 < flives a.ps + 1 by omega), ?_⟩
      subst hb
      exact hv
    | true =>
      rw [hm] at hv
      have s := hs true hm.symm
      refine ⟨⟨b, true⟩, ⟨s.sz hz, fun _ => .step hT s, fun h => by cases h⟩, (show flives b.ps + 1 < flives a.ps + 1 by have := s.less; omega), ?_⟩
      subst hb
      refine View.trans hv (View.of 5 [0, 1] [2, 3, 4] rfl rfl rfl rfl rfl rfl ?_ (thaw ⟨rlS L a.l, ropS Q a.ops, rpS (rlS L a.l) a.ps⟩))
      repeat (first | exact .nil | refine .junk ?_ | refine .eq rfl ?_)


end Go.Proofs.Ytjofmgkcllffnaa
