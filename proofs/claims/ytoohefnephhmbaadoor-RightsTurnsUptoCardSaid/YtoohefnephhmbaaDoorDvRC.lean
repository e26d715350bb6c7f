import Derived.Test.YtoohefnephhmbaaDoorAmZ2
import Derived.Test.YtoohefnephhmbaaDoorDvRB
import Derived.Test.YtoohefnephhmbaaDoorAmY
set_option linter.unusedVariables false
set_option linter.unusedSimpArgs false
namespace Go.Proofs.YtoohefnephhmbaaDoor
open Go.AM Go.ChangeShapes Go.WideShapes Go.ChangeAt Go.RowKit
def c32 : LF := ⟨7, [.tmp 2], (.seq (.reg [
    ⟨(some 2), .mov (.c (.rv (.one (.dat (.val (.int .i64 (0))))))), none⟩]) (.seq (.reg [
    ⟨(some 3), .mov (.t 0), none⟩,
    ⟨(some 4), .bin .and (.t 3) (.c (.rv (.one (.dat (.val (.int .i64 (4095))))))), none⟩,
    ⟨(some 5), .conv .u64 (.t 4), none⟩,
    ⟨(some 6), .call (.c (.rv (.one (.fn 42 [])))) [(.t 5)], none⟩,
    ⟨(some 2), .mov (.t 6), none⟩]) .ret))⟩
def c42 : LF := ⟨8, [.tmp 2], (.seq (.reg [
    ⟨(some 2), .mov (.c (.rv (.one (.dat (.val (.int .i64 (0))))))), none⟩]) (.seq (.cond (.c (.rv (.one (.dat (.val (.bool false)))))) (.seq (.reg [
    ⟨(some 3), .mov (.t 0), none⟩,
    ⟨(some 4), .conv .u32 (.t 3), none⟩,
    ⟨(some 5), .call (.c (.rv (.one (.fn 47 [])))) [(.t 4)], none⟩,
    ⟨(some 2), .mov (.t 5), none⟩]) .ret) .skip) (.seq (.reg [
    ⟨(some 6), .mov (.t 0), none⟩,
    ⟨(some 7), .call (.c (.rv (.one (.fn 48 [])))) [(.t 6)], none⟩,
    ⟨(some 2), .mov (.t 7), none⟩]) .ret)))⟩
def c48 : LF := ⟨35, [.tmp 2], (.seq (.reg [
    ⟨(some 2), .mov (.c (.rv (.one (.dat (.val (.int .i64 (0))))))), none⟩]) (.seq (.reg [
    ⟨(some 3), .mov (.t 0), none⟩,
    ⟨(some 4), .bin .shr (.t 3) (.c (.rv (.one (.dat (.val (.int .u64 (1))))))), none⟩,
    ⟨(some 5), .bin .and (.t 4) (.c (.rv (.one (.dat (.val (.int .u64 (6148914691236517205))))))), none⟩,
    ⟨(some 6), .mov (.t 0), none⟩,
    ⟨(some 7), .bin .and (.t 6) (.c (.rv (.one (.dat (.val (.int .u64 (6148914691236517205))))))), none⟩,
    ⟨(some 8), .bin .add (.t 5) (.t 7), none⟩,
    ⟨(some 0), .mov (.t 8), none⟩]) (.seq (.reg [
    ⟨(some 9), .mov (.t 0), none⟩,
    ⟨(some 10), .bin .shr (.t 9) (.c (.rv (.one (.dat (.val (.int .u64 (2))))))), none⟩,
    ⟨(some 11), .bin .and (.t 10) (.c (.rv (.one (.dat (.val (.int .u64 (3689348814741910323))))))), none⟩,
    ⟨(some 12), .mov (.t 0), none⟩,
    ⟨(some 13), .bin .and (.t 12) (.c (.rv (.one (.dat (.val (.int .u64 (3689348814741910323))))))), none⟩,
    ⟨(some 14), .bin .add (.t 11) (.t 13), none⟩,
    ⟨(some 0), .mov (.t 14), none⟩]) (.seq (.reg [
    ⟨(some 15), .mov (.t 0), none⟩,
    ⟨(some 16), .bin .shr (.t 15) (.c (.rv (.one (.dat (.val (.int .u64 (4))))))), none⟩,
    ⟨(some 17), .mov (.t 0), none⟩,
    ⟨(some 18), .bin .add (.t 16) (.t 17), none⟩,
    ⟨(some 19), .bin .and (.t 18) (.c (.rv (.one (.dat (.val (.int .u64 (1085102592571150095))))))), none⟩,
    ⟨(some 0), .mov (.t 19), none⟩]) (.seq (.reg [
    ⟨(some 20), .mov (.t 0), none⟩,
    ⟨(some 21), .mov (.t 0), none⟩,
    ⟨(some 22), .bin .shr (.t 21) (.c (.rv (.one (.dat (.val (.int .u64 (8))))))), none⟩,
    ⟨(some 23), .bin .add (.t 20) (.t 22), none⟩,
    ⟨(some 0), .mov (.t 23), none⟩]) (.seq (.reg [
    ⟨(some 24), .mov (.t 0), none⟩,
    ⟨(some 25), .mov (.t 0), none⟩,
    ⟨(some 26), .bin .shr (.t 25) (.c (.rv (.one (.dat (.val (.int .u64 (16))))))), none⟩,
    ⟨(some 27), .bin .add (.t 24) (.t 26), none⟩,
    ⟨(some 0), .mov (.t 27), none⟩]) (.seq (.reg [
    ⟨(some 28), .mov (.t 0), none⟩,
    ⟨(some 29), .mov (.t 0), none⟩,
    ⟨(some 30), .bin .shr (.t 29) (.c (.rv (.one (.dat (.val (.int .u64 (32))))))), none⟩,
    ⟨(some 31), .bin .add (.t 28) (.t 30), none⟩,
    ⟨(some 0), .mov (.t 31), none⟩]) (.seq (.reg [
    ⟨(some 32), .mov (.t 0), none⟩,
    ⟨(some 33), .conv .i64 (.t 32), none⟩,
    ⟨(some 34), .bin .and (.t 33) (.c (.rv (.one (.dat (.val (.int .i64 (127))))))), none⟩,
    ⟨(some 2), .mov (.t 34), none⟩]) .ret))))))))⟩
theorem l32 : lowF Tryd.prog Tryd.f32 = some c32 := by kernel_rfl
theorem l42 : lowF Tryd.prog Tryd.f42 = some c42 := by kernel_rfl
theorem l48 : lowF Tryd.prog Tryd.f48 = some c48 := by kernel_rfl
def andU (a b : Int) : Int := IntKind.u64.wrap ((BitVec.ofInt 64 a &&& BitVec.ofInt 64 b).toNat : Int)
def shrU (a b : Int) : Int := a.fdiv (2 ^ (min b.toNat 64))
def addU (a b : Int) : Int := IntKind.u64.wrap (a + b)
def pop1 (a : Int) : Int := addU (andU (shrU a 1) 6148914691236517205) (andU a 6148914691236517205)
def pop2 (a : Int) : Int := addU (andU (shrU a 2) 3689348814741910323) (andU a 3689348814741910323)
def pop3 (a : Int) : Int := andU (addU (shrU a 4) a) 1085102592571150095
def pop4 (a b : Int) : Int := addU a (shrU a b)
def pop (a : Int) : Int := andV (IntKind.i64.wrap (pop4 (pop4 (pop4 (pop3 (pop2 (pop1 a))) 8) 16) 32)) 127
set_option maxRecDepth 100000 in
set_option maxHeartbeats 4000000 in
theorem ones_body (a : Int) : body Tryd.prog c48 [vInt .u64 a] [] (fun r m => r = vInt .i64 (pop a)) := rfl
set_option maxRecDepth 100000 in
theorem ones_ok (a : Int) {m : Mem} {K : CV → Mem → Prop} (h : K (vInt .i64 (pop a)) m) : ACall Tryd.prog 48 [vInt .u64 a] m K :=
  acall_val Tryd.func48 l48 rfl (Nat.le_of_ble_eq_true rfl) (ones_body a) rfl rfl h
set_option maxRecDepth 100000 in
theorem onesc_body (a : Int) : body Tryd.prog c42 [vInt .u64 a] [] (fun r m => r = vInt .i64 (pop a)) := ones_ok a rfl
set_option maxRecDepth 100000 in
theorem onesc_ok (a : Int) {m : Mem} {K : CV → Mem → Prop} (h : K (vInt .i64 (pop a)) m) : ACall Tryd.prog 42 [vInt .u64 a] m K :=
  acall_val Tryd.func42 l42 rfl (Nat.le_of_ble_eq_true rfl) (onesc_body a) rfl rfl h
/-- how many rights -/
def cntN (n : Nat) : Nat → Nat
  | 0 => 0
  | k + 1 => cntN n k + if n.testBit k then 1 else 0
theorem pop_64 : ∀ a : Nat, a < 64 → ∀ b : Nat, b < 64 → pop (IntKind.u64.wrap (andV ((64 * a + b : Nat) : Int) 4095)) = (cntN (64 * a + b) 12 : Nat) := by decide +kernel
theorem pop_all (n : Nat) (h : n < 4096) : pop (IntKind.u64.wrap (andV (n : Int) 4095)) = (cntN n 12 : Nat) := by
  have := pop_64 (n / 64) (by omega) (n % 64) (by omega)
  rwa [Nat.div_add_mod] at this
set_option maxRecDepth 100000 in
theorem count_body (n : Nat) (hn : n ≤ 4095) : body Tryd.prog c32 [vInt .i64 n] [] (fun r m => r = vInt .i64 (cntN n 12 : Nat)) := by
  refine onesc_ok (IntKind.u64.wrap (andV (n : Int) 4095)) ?_
  rw [pop_all n (by omega)]
  rfl
set_option maxRecDepth 100000 in
theorem count_ok (n : Nat) (hn : n ≤ 4095) {m : Mem} {K : CV → Mem → Prop} (h : K (vInt .i64 (cntN n 12 : Nat)) m) : ACall Tryd.prog 32 [vInt .i64 n] m K :=
  acall_val Tryd.func32 l32 rfl (Nat.le_of_ble_eq_true rfl) (count_body n hn) rfl rfl h
theorem bits_or {n j : Nat} (hj : j < 12) : ((bitsD n 12).map CC.dat).set j (.dat (.val (.bool true))) = (bitsD (n ||| 2 ^ j) 12).map CC.dat := by
  apply List.ext_getElem?
  intro i
  rw [List.getElem?_set]
  simp only [bitsD, List.map_map, List.length_map, List.length_range, List.getElem?_map]
  by_cases hi : j = i
  · subst hi
    rw [if_pos rfl, if_pos hj, List.getElem?_range hj]
    simp [hj, Nat.testBit_or, Nat.testBit_two_pow]
  · rw [if_neg hi]
    rcases Nat.lt_or_ge i 12 with h2 | h2
    · rw [List.getElem?_range h2]
      simp [Nat.testBit_or, Nat.testBit_two_pow, hi]
    · rw [List.getElem?_eq_none (by simpa using h2)]
      rfl
def bitsL (n : Nat) : List Bool := (List.range 12).map fun i => n.testBit i
theorem bitsD_bool (n : Nat) : bitsD n 12 = boolD (bitsL n) := by
  simp only [bitsD, boolD, bitsL, List.map_map]
  apply List.map_congr_left
  intro i hi
  have : i < 12 := by simpa using hi
  simp [this]
theorem bitsL_num {n : Nat} (hn : n < 4096) : numL (bitsL n) = n := by
  apply Nat.eq_of_testBit_eq
  intro j
  rw [numL_bit]
  rcases Nat.lt_or_ge j 12 with h | h
  · simp only [bitsL, List.getElem?_map, List.getElem?_range h, Option.map_some, Option.getD_some]
  · rw [List.getElem?_eq_none (by simpa [bitsL] using h)]
    simp [testBit_big (n := n) (by omega) h]
set_option maxRecDepth 100000 in
set_option maxHeartbeats 8000000 in
theorem rparse_body (t : Txt) (ht : t.length ≤ 4194304) : body Tryd.prog c20 [vT t] [] (fun r m => r = paRV (parseS t)) := by
  refine bB_str (b := []) (fun h => ?_) (fun h0 => ?_)
  · subst h; rfl
  refine cut_ok t 44 ht ?_
  have hcl := cutL_len 44 t
  refine loop_keep (fun a : Nat × Nat × Nat => pGo (cutL 44 t) 0 0 = pGo ((cutL 44 t).drop a.1) a.2.1 a.2.2 ∧ a.2.1 < 2 ^ a.2.2 ∧ a.2.2 ≤ 12 ∧ a.1 ≤ (cutL 44 t).length) [4, 14]
    (fun a => [(5, vInt .i64 (a.2.2 : Nat)), (15, vInt .i64 ((cutL 44 t).length : Nat)), (16, vInt .i64 (a.1 : Nat))]) (fun a => [.var ((bitsD a.2.1 12).map CC.dat)]) (fun a => (cutL 44 t).length - a.1) (0, 0, 0) ⟨rfl, by decide, by decide, Nat.zero_le _⟩ ?_ (fun a hJ => ?_)
  · refine View.of 1 [0] [] rfl rfl rfl rfl rfl rfl ?_ ?_
    · repeat (first | exact .nil | refine .junk ?_ | refine .eq rfl ?_ | refine .put (.ren (by rw [List.length_map]; rfl)) ?_)
    · refine .put (by simp [memN]) rfl (.varDE ?_) (.nil _)
      have : bitsD 0 12 = List.replicate 12 (.val (.bool false)) := by simp [bitsD, List.range, List.range.loop, List.replicate]
      rw [this]
      rfl
  obtain ⟨k, n, next⟩ := a
  obtain ⟨hg, hn, hx, hkl⟩ := hJ
  simp only at hg hn hx hkl
  have hnb : n < 4096 := Nat.lt_of_lt_of_le hn (pow12 hx)
  refine bB_dec (fun h => ?_) (fun h => ?_)
  · have hlt : k < (cutL 44 t).length := by
      have h : (k : Int) < ((cutL 44 t).length : Int) := h
      omega
    have hdk : (cutL 44 t).drop k = (cutL 44 t)[k] :: (cutL 44 t).drop (k + 1) := List.drop_eq_getElem_cons hlt
    have hget : getZ ((cutL 44 t).map tD) (k : Nat) = some (tD (cutL 44 t)[k]) := tx_get hlt
    refine ok_some hget ?_
    rw [hdk] at hg
    generalize (cutL 44 t)[k] = w at hg
    clear hget hdk
    refine rnames_ok ?_
    refine loop_keep (fun k => k ≤ 12) [4, 5, 7, 14, 15, 16] (fun k => [(8, vInt .i64 (atN w k)), (20, txV namesT), (21, vInt .i64 12), (22, vInt .i64 (k : Nat))]) (fun _ => [.var ((bitsD n 12).map CC.dat)]) (fun k => 12 - k) 0 (Nat.zero_le _) ?_ (fun i hi => ?_)
    · refine View.of 1 [0] [] rfl rfl rfl rfl rfl rfl ?_ (.put (by simp [memN]) rfl (.varDE rfl) (.nil _))
      repeat (first | exact .nil | refine .junk ?_ | refine .eq rfl ?_)
    have hi : i ≤ 12 := hi
    refine bB_dec (fun h => ?_) (fun h => ?_)
    · have hlt : i < 12 := by
        have h : (i : Int) < 12 := h
        omega
      refine ok_some (names_get hlt) ?_
      refine bB_str (fun h1 => ?_) (fun h1 => ?_)
      · refine ⟨i + 1, hlt, (show 12 - (i + 1) < 12 - i by omega), View.of 1 [0] [] rfl rfl rfl rfl rfl rfl ?_ (.put (by simp [memN]) rfl (.varDE rfl) (.nil _))⟩
        have e : atN w (i + 1) = (i : Int) := by simp only [atN]; rw [if_pos h1.symm]
        rw [e]
        repeat (first | exact .nil | refine .junk ?_ | refine .put (.ren (next_i64 (by omega)).symm) ?_ | refine .eq rfl ?_)
      · refine ⟨i + 1, hlt, (show 12 - (i + 1) < 12 - i by omega), View.of 1 [0] [] rfl rfl rfl rfl rfl rfl ?_ (.put (by simp [memN]) rfl (.varDE rfl) (.nil _))⟩
        have e : atN w (i + 1) = atN w i := by simp only [atN]; rw [if_neg (fun e => h1 e.symm)]
        rw [e]
        repeat (first | exact .nil | refine .junk ?_ | refine .put (.ren (next_i64 (by omega)).symm) ?_ | refine .eq rfl ?_)
    · have hk12 : i = 12 := by
        have h : ¬ (i : Int) < 12 := h
        omega
      subst hk12
      have hr := atN_range w 12 (Nat.le_refl _)
      refine bB_dec (fun h1 => ?_) (fun h1 => ?_)
      · have hs : parseS t = (0, 6) := by rw [parseS, if_neg h0, hg, pGo, if_pos h1]
        rw [hs]; rfl
      · refine bB_dec (fun h2 => ?_) (fun h2 => ?_)
        · have hs : parseS t = (0, 2) := by rw [parseS, if_neg h0, hg, pGo, if_neg h1, if_pos h2]
          rw [hs]; rfl
        · rw [pGo, if_neg h1, if_neg h2] at hg
          obtain ⟨j, hj⟩ : ∃ j : Nat, atN w 12 = (j : Int) := Int.eq_ofNat_of_zero_le (by omega)
          rw [hj] at h2 hr hg ⊢
          have hj12 : j < 12 := by omega
          have hjn : next ≤ j := by
            have h2 : ¬ (j : Int) < (next : Int) := h2
            omega
          have hnj : n < 2 ^ j := Nat.lt_of_lt_of_le hn (Nat.pow_le_pow_right (by omega) hjn)
          refine ok_some (idxZ_nat hj12) ?_
          have hw : writeN ((bitsD n 12).map CC.dat) (0 + j * 1) [.dat (.val (.bool true))] = some ((bitsD (n ||| 2 ^ j) 12).map CC.dat) := by
            rw [show 0 + j * 1 = j by omega, writeN_one (by simp [bitsD]; exact hj12), bits_or hj12]
          refine ok_some hw ?_
          refine ⟨(k + 1, n ||| 2 ^ j, j + 1), ⟨hg, or_lt hnj, (show j + 1 ≤ 12 by omega), hlt⟩, (show (cutL 44 t).length - (k + 1) < (cutL 44 t).length - k by omega), View.of 1 [0] [] rfl rfl rfl rfl rfl rfl ?_ (.put (by simp [memN]) rfl (.varDE rfl) (.nil _))⟩
          repeat (first | exact .nil | refine .junk ?_ | refine .put (.ren (next_i64 (by omega)).symm) ?_ | refine .eq rfl ?_)
  · have hke : k = (cutL 44 t).length := by
      have h : ¬ (k : Int) < ((cutL 44 t).length : Int) := h
      omega
    rw [hke, List.drop_length] at hg
    have hs : parseS t = (n, 0) := by rw [parseS, if_neg h0, hg]; rfl
    rw [hs]
    refine num_ok (bitsL n) (by simp [bitsL]) ?_
    rw [bitsL_num hnb]
    rfl
theorem rparse_ok (t : Txt) (ht : t.length ≤ 4194304) {m : Mem} {K : CV → Mem → Prop} (h : K (paRV (parseS t)) m) : ACall Tryd.prog 20 [vT t] m K :=
  acall_val Tryd.func20 l20 rfl (Nat.le_of_ble_eq_true rfl) (rparse_body t ht) rfl rfl h
/-! what is written is read -/
def orL (n : Nat) (l : List Nat) : Nat := l.foldl (fun a k => a ||| 2 ^ k) n
theorem orL_bit : ∀ (l : List Nat) (n i : Nat), (orL n l).testBit i = (n.testBit i || decide (i ∈ l))
  | [], n, i => by simp [orL]
  | k :: r, n, i => by
    have ih := orL_bit r (n ||| 2 ^ k) i
    show (orL (n ||| 2 ^ k) r).testBit i = _
    rw [ih, Nat.testBit_or, Nat.testBit_two_pow]
    by_cases h : k = i
    · subst h; simp
    · have h2 : i ≠ k := fun e => h e.symm
      simp [h, h2]
theorem at_name : ∀ k, k < 12 → atN (nameT k) 12 = (k : Int) := by decide
theorem at_some (w : Txt) : ∀ m (j : Nat), atN w m = (j : Int) → nameT j = w ∧ j < m
  | 0, j, h => by simp only [atN] at h; omega
  | m + 1, j, h => by
    simp only [atN] at h
    split at h
    · rename_i he
      have : m = j := by omega
      subst this
      exact ⟨he, by omega⟩
    · have := at_some w m j h
      exact ⟨this.1, by omega⟩
theorem pGo_names : ∀ (l : List Nat) (n next : Nat), l.Pairwise (· < ·) → (∀ k, k ∈ l → next ≤ k ∧ k < 12) → pGo (ntx l) n next = (orL n l, 0)
  | [], n, next, _, _ => rfl
  | k :: r, n, next, hp, h => by
    obtain ⟨h1, h2⟩ := h k (by simp)
    have ha := at_name k h2
    rw [List.pairwise_cons] at hp
    show pGo (nameT k :: ntx r) n next = _
    rw [pGo, ha, if_neg (by omega), if_neg (by omega)]
    show pGo (ntx r) (n ||| 2 ^ k) (k + 1) = _
    rw [pGo_names r _ _ hp.2 fun j hj => ⟨hp.1 j hj, (h j (by simp [hj])).2⟩]
    rfl
theorem pGo_inv : ∀ (ws : List Txt) (n next a : Nat), pGo ws n next = (a, 0) → ∃ l : List Nat, ws = ntx l ∧ l.Pairwise (· < ·) ∧ (∀ k, k ∈ l → next ≤ k ∧ k < 12) ∧ a = orL n l
  | [], n, next, a, h => ⟨[], rfl, .nil, by simp, by simp only [pGo, Prod.mk.injEq] at h; rw [orL]; exact h.1.symm⟩
  | w :: r, n, next, a, h => by
    rw [pGo] at h
    split at h
    · cases h
    · split at h
      · cases h
      · rename_i h1 h2
        obtain ⟨j, hj⟩ : ∃ j : Nat, atN w 12 = (j : Int) := Int.eq_ofNat_of_zero_le (by omega)
        rw [hj] at h h2
        obtain ⟨l, rfl, hp, hl, ha⟩ := pGo_inv r _ _ a h
        obtain ⟨h3, h4⟩ := at_some w 12 j hj
        subst h3
        have h5 : next ≤ j := by omega
        refine ⟨j :: l, rfl, List.pairwise_cons.2 ⟨fun k hk => (hl k hk).1, hp⟩, fun k hk => ?_, ha⟩
        rcases List.mem_cons.1 hk with rfl | hk
        · exact ⟨h5, h4⟩
        · have h6 : j + 1 ≤ k := (hl k hk).1
          exact ⟨by omega, (hl k hk).2⟩
theorem sorted_ext : ∀ (a b : List Nat), a.Pairwise (· < ·) → b.Pairwise (· < ·) → (∀ x, x ∈ a ↔ x ∈ b) → a = b
  | [], [], _, _, _ => rfl
  | [], y :: s, _, _, h => absurd ((h y).2 (by simp)) (by simp)
  | x :: r, [], _, _, h => absurd ((h x).1 (by simp)) (by simp)
  | x :: r, y :: s, ha, hb, h => by
    rw [List.pairwise_cons] at ha hb
    have hxy : x = y := by
      rcases List.mem_cons.1 ((h x).1 (by simp)) with e | h1
      · exact e
      · rcases List.mem_cons.1 ((h y).2 (by simp)) with e | h2
        · exact e.symm
        · have := hb.1 x h1
          have := ha.1 y h2
          omega
    subst hxy
    congr 1
    refine sorted_ext r s ha.2 hb.2 fun z => ⟨fun hz => ?_, fun hz => ?_⟩
    · rcases List.mem_cons.1 ((h z).1 (by simp [hz])) with e | h1
      · have := ha.1 z hz
        omega
      · exact h1
    · rcases List.mem_cons.1 ((h z).2 (by simp [hz])) with e | h1
      · have := hb.1 z hz
        omega
      · exact h1
theorem kset_sorted (n k : Nat) : (kset n k).Pairwise (· < ·) := List.Pairwise.filter _ List.pairwise_lt_range
theorem kset_mem (n k i : Nat) : i ∈ kset n k ↔ i < k ∧ n.testBit i = true := by simp [kset]
theorem kset_or (l : List Nat) (hp : l.Pairwise (· < ·)) (h : ∀ k, k ∈ l → k < 12) : kset (orL 0 l) 12 = l := by
  refine sorted_ext _ _ (kset_sorted _ _) hp fun x => ?_
  rw [kset_mem, orL_bit]
  constructor
  · rintro ⟨_, h2⟩
    simpa using h2
  · intro hx
    exact ⟨h x hx, by simpa using hx⟩
theorem orL_lt (l : List Nat) (h : ∀ k, k ∈ l → k < 12) : orL 0 l < 4096 := by
  have : orL 0 l < 2 ^ 12 := by
    apply Nat.lt_pow_two_of_testBit
    intro i hi
    rw [orL_bit]
    have : i ∉ l := fun hm => by have := h i hm; omega
    simp [this]
  exact this
theorem orL_kset {n : Nat} (hn : n ≤ 4095) : orL 0 (kset n 12) = n := by
  apply Nat.eq_of_testBit_eq
  intro i
  rw [orL_bit]
  rcases Nat.lt_or_ge i 12 with h | h
  · cases hb : n.testBit i
    · have : i ∉ kset n 12 := fun hm => by rw [kset_mem, hb] at hm; cases hm.2
      simp [this]
    · have : i ∈ kset n 12 := (kset_mem _ _ _).2 ⟨h, hb⟩
      simp [this]
  · have : i ∉ kset n 12 := fun hm => by rw [kset_mem] at hm; omega
    simp [this, testBit_big (n := n) hn h]
theorem cutL_none' {c : UInt8} : ∀ {x : Txt}, c ∉ x → cutL c x = [x]
  | [], _ => rfl
  | y :: r, h => by
    have h1 : y ≠ c := fun e => h (by simp [e])
    have h2 : c ∉ r := fun e => h (by simp [e])
    simp only [cutL, cutL_none' h2]
    simp [h1]
theorem cutL_app {c : UInt8} : ∀ {x : Txt} (y : Txt), c ∉ x → cutL c (x ++ c :: y) = x :: cutL c y
  | [], y, _ => by simp [cutL]
  | z :: r, y, h => by
    have h1 : z ≠ c := fun e => h (by simp [e])
    have h2 : c ∉ r := fun e => h (by simp [e])
    simp only [List.cons_append, cutL, cutL_app y h2]
    simp [h1]
theorem jt_cons {c : UInt8} (w : Txt) (r : List Txt) : Lib.joinTail [c] (w :: r) = c :: (w ++ Lib.joinTail [c] r) := by simp [Lib.joinTail]
theorem cut_tail {c : UInt8} : ∀ {r : List Txt} {x : Txt}, c ∉ x → (∀ w, w ∈ r → c ∉ w) → cutL c (x ++ Lib.joinTail [c] r) = x :: r
  | [], x, hx, _ => by
    have : Lib.joinTail [c] [] = [] := rfl
    rw [this, List.append_nil]
    exact cutL_none' hx
  | w :: r, x, hx, h => by
    rw [jt_cons, cutL_app _ hx, cut_tail (h w (by simp)) fun v hv => h v (by simp [hv])]
theorem cut_join {c : UInt8} {l : List Txt} (hl : l ≠ []) (h : ∀ w, w ∈ l → c ∉ w) : cutL c (joinT [c] l) = l := by
  cases l with
  | nil => exact absurd rfl hl
  | cons x r =>
    rw [joinT_cons]
    exact cut_tail (h x (by simp)) fun v hv => h v (by simp [hv])
theorem join_cut (c : UInt8) : ∀ t : Txt, joinT [c] (cutL c t) = t
  | [] => by
    rw [show cutL c [] = [[]] from rfl, joinT_cons]
    rfl
  | x :: r => by
    have ih := join_cut c r
    rw [cutL]
    cases h : cutL c r with
    | nil => exact absurd h (cutL_ne c r)
    | cons p ps =>
      rw [h, joinT_cons] at ih
      by_cases hx : x = c
      · subst hx
        rw [if_pos (by simp), joinT_cons, jt_cons, ih]
        rfl
      · rw [if_neg (by simpa using hx)]
        show joinT [c] ((x :: p) :: ps) = _
        rw [joinT_cons, List.cons_append, ih]
theorem name_comma : ∀ k, k < 12 → (44 : UInt8) ∉ nameT k := by decide
theorem print_parse {n : Nat} (hn : n ≤ 4095) : parseS (printS n) = (n, 0) := by
  have hm : ∀ i, i ∈ kset n 12 → i < 12 := fun i hi => ((kset_mem _ _ _).1 hi).1
  by_cases h0 : kset n 12 = []
  · have hn0 : n = 0 := by rw [← orL_kset hn, h0]; rfl
    subst hn0
    rw [parseS, printS, if_pos ((ntx_nil hm).2 h0)]
  · rw [parseS, printS, if_neg (fun e => h0 ((ntx_nil hm).1 e)), cut_join (by simpa [ntx] using h0) (fun w hw => ?_), pGo_names _ _ _ (kset_sorted _ _) (fun k hk => ⟨Nat.zero_le _, hm k hk⟩), orL_kset hn]
    obtain ⟨k, hk, rfl⟩ := List.mem_map.1 hw
    exact name_comma k (hm k hk)
theorem parse_print {t : Txt} {a : Nat} (h : parseS t = (a, 0)) : a ≤ 4095 ∧ printS a = t := by
  rw [parseS] at h
  split at h
  · rename_i h0
    subst h0
    cases h
    decide
  · obtain ⟨l, hw, hp, hl, ha⟩ := pGo_inv _ _ _ _ h
    have h12 : ∀ k, k ∈ l → k < 12 := fun k hk => (hl k hk).2
    have hlt := orL_lt l h12
    subst ha
    refine ⟨by omega, ?_⟩
    rw [printS, kset_or l hp h12, ← hw, join_cut]
theorem words_from (n : Nat) (hn : n ≤ 4095) : fromS ((64 + n % 64 : Nat) : Int) ((128 + n / 64 : Nat) : Int) = ((n : Int), 0) := by
  rw [fromS, if_pos (by omega)]
  congr 1
  omega
theorem from_words {x y : Int} (h : (fromS x y).2 = 0) : ∃ n : Nat, n ≤ 4095 ∧ (fromS x y).1 = n ∧ wordsV n = w2V x y := by
  rw [fromS] at h ⊢
  split at h
  · rename_i hc
    rw [if_pos hc]
    obtain ⟨n, hn⟩ := Int.eq_ofNat_of_zero_le (a := x - 64 + 64 * (y - 128)) (by omega)
    refine ⟨n, by omega, hn, ?_⟩
    rw [wordsV]
    congr 1 <;> omega
  · cases h
def c37 : LF := ⟨67, [.tmp 0], (.seq (.reg [
    ⟨(some 0), .mov (.c (.rv (.one (.dat (.val (.bool false)))))), none⟩]) (.seq (.reg [
    ⟨(some 6), .call (.c (.rv (.one (.fn 19 [])))) [(.c (.rv (.one (.dat (.val (.string ⟨#[114, 101, 97, 100, 44, 107, 105, 108, 108]⟩))))))], none⟩,
    ⟨(some 5), .mov (.t 6), none⟩,
    ⟨(some 7), .ext (.t 5) 0, none⟩,
    ⟨(some 8), .ext (.t 5) 1, none⟩,
    ⟨(some 1), .mov (.t 7), none⟩,
    ⟨(some 2), .mov (.t 8), none⟩]) (.seq (.reg [
    ⟨(some 10), .mov (.t 1), none⟩,
    ⟨(some 11), .call (.c (.rv (.one (.fn 35 [])))) [(.t 10)], none⟩,
    ⟨(some 12), .call (.c (.rv (.one (.fn 21 [])))) [(.t 11)], none⟩,
    ⟨(some 9), .mov (.t 12), none⟩,
    ⟨(some 13), .ext (.t 9) 0, none⟩,
    ⟨(some 14), .ext (.t 9) 1, none⟩,
    ⟨(some 3), .mov (.t 13), none⟩,
    ⟨(some 4), .mov (.t 14), none⟩]) (.seq (.reg [
    ⟨(some 15), .mov (.t 2), none⟩,
    ⟨(some 16), .bin .eql (.t 15) (.c (.rv (.one (.dat (.val (.int .i64 (0))))))), none⟩,
    ⟨(some 17), .mov (.t 16), none⟩,
    ⟨(some 18), .mov (.t 4), (some (17, true))⟩,
    ⟨(some 19), .bin .eql (.t 18) (.c (.rv (.one (.dat (.val (.int .i64 (0))))))), (some (17, true))⟩,
    ⟨(some 20), .pick (.t 17) (.t 19) (.c (.rv (.one (.dat (.val (.bool false)))))), none⟩,
    ⟨(some 21), .mov (.t 20), none⟩,
    ⟨(some 22), .mov (.t 1), (some (21, true))⟩,
    ⟨(some 23), .bin .eql (.t 22) (.c (.rv (.one (.dat (.val (.int .i64 (2049))))))), (some (21, true))⟩,
    ⟨(some 24), .pick (.t 21) (.t 23) (.c (.rv (.one (.dat (.val (.bool false)))))), none⟩,
    ⟨(some 25), .mov (.t 24), none⟩,
    ⟨(some 26), .mov (.t 3), (some (25, true))⟩,
    ⟨(some 27), .mov (.t 1), (some (25, true))⟩,
    ⟨(some 28), .bin .eql (.t 26) (.t 27), (some (25, true))⟩,
    ⟨(some 29), .pick (.t 25) (.t 28) (.c (.rv (.one (.dat (.val (.bool false)))))), none⟩,
    ⟨(some 30), .mov (.t 29), none⟩,
    ⟨(some 31), .mov (.t 1), (some (30, true))⟩,
    ⟨(some 32), .call (.c (.rv (.one (.fn 33 [])))) [(.t 31)], (some (30, true))⟩,
    ⟨(some 33), .bin .eql (.t 32) (.c (.rv (.one (.dat (.val (.string ⟨#[114, 101, 97, 100, 44, 107, 105, 108, 108]⟩)))))), (some (30, true))⟩,
    ⟨(some 34), .pick (.t 30) (.t 33) (.c (.rv (.one (.dat (.val (.bool false)))))), none⟩,
    ⟨(some 35), .mov (.t 34), none⟩,
    ⟨(some 36), .mov (.t 1), (some (35, true))⟩,
    ⟨(some 37), .call (.c (.rv (.one (.fn 27 [])))) [(.c (.rv (.one (.dat (.val (.int .i64 (1))))))), (.t 36)], (some (35, true))⟩,
    ⟨(some 38), .pick (.t 35) (.t 37) (.c (.rv (.one (.dat (.val (.bool false)))))), none⟩,
    ⟨(some 39), .mov (.t 38), none⟩,
    ⟨(some 40), .mov (.t 1), (some (39, true))⟩,
    ⟨(some 41), .call (.c (.rv (.one (.fn 27 [])))) [(.c (.rv (.one (.dat (.val (.int .i64 (2))))))), (.t 40)], (some (39, true))⟩,
    ⟨(some 42), .un .not (.t 41), (some (39, true))⟩,
    ⟨(some 43), .pick (.t 39) (.t 42) (.c (.rv (.one (.dat (.val (.bool false)))))), none⟩,
    ⟨(some 44), .mov (.t 43), none⟩,
    ⟨(some 45), .mov (.t 1), (some (44, true))⟩,
    ⟨(some 46), .call (.c (.rv (.one (.fn 29 [])))) [(.t 45), (.c (.rv (.one (.dat (.val (.int .i64 (3)))))))], (some (44, true))⟩,
    ⟨(some 47), .bin .eql (.t 46) (.c (.rv (.one (.dat (.val (.int .i64 (1))))))), (some (44, true))⟩,
    ⟨(some 48), .pick (.t 44) (.t 47) (.c (.rv (.one (.dat (.val (.bool false)))))), none⟩,
    ⟨(some 49), .mov (.t 48), none⟩,
    ⟨(some 50), .call (.c (.rv (.one (.fn 31 [])))) [(.c (.rv (.one (.dat (.val (.int .i64 (1))))))), (.c (.rv (.one (.dat (.val (.int .i64 (2)))))))], (some (49, true))⟩,
    ⟨(some 51), .bin .eql (.t 50) (.c (.rv (.one (.dat (.val (.int .i64 (3))))))), (some (49, true))⟩,
    ⟨(some 52), .pick (.t 49) (.t 51) (.c (.rv (.one (.dat (.val (.bool false)))))), none⟩,
    ⟨(some 53), .mov (.t 52), none⟩,
    ⟨(some 54), .mov (.t 1), (some (53, true))⟩,
    ⟨(some 55), .call (.c (.rv (.one (.fn 32 [])))) [(.t 54)], (some (53, true))⟩,
    ⟨(some 56), .bin .eql (.t 55) (.c (.rv (.one (.dat (.val (.int .i64 (2))))))), (some (53, true))⟩,
    ⟨(some 57), .pick (.t 53) (.t 56) (.c (.rv (.one (.dat (.val (.bool false)))))), none⟩,
    ⟨(some 58), .mov (.t 57), none⟩,
    ⟨(some 59), .mov (.t 1), (some (58, true))⟩,
    ⟨(some 60), .call (.c (.rv (.one (.fn 23 [])))) [(.t 59)], (some (58, true))⟩,
    ⟨(some 61), .pick (.t 58) (.t 60) (.c (.rv (.one (.dat (.val (.bool false)))))), none⟩,
    ⟨(some 62), .mov (.t 61), none⟩,
    ⟨(some 63), .call (.c (.rv (.one (.fn 24 [])))) [], (some (62, true))⟩,
    ⟨(some 64), .len 1 (.t 63), (some (62, true))⟩,
    ⟨(some 65), .bin .eql (.t 64) (.c (.rv (.one (.dat (.val (.int .i64 (12))))))), (some (62, true))⟩,
    ⟨(some 66), .pick (.t 62) (.t 65) (.c (.rv (.one (.dat (.val (.bool false)))))), none⟩,
    ⟨(some 0), .mov (.t 66), none⟩]) .ret))))⟩
theorem l37 : lowF Tryd.prog Tryd.f37 = some c37 := by kernel_rfl
theorem raliveA : parseS [114, 101, 97, 100, 44, 107, 105, 108, 108] = (2049, 0) := by decide
theorem raliveB : printS 2049 = [114, 101, 97, 100, 44, 107, 105, 108, 108] := by decide
theorem raliveC : fromS ((64 + 2049 % 64 : Nat) : Int) ((128 + 2049 / 64 : Nat) : Int) = (2049, 0) := by decide
theorem raliveD : withinB 1 2049 = true := by decide
theorem raliveE : withinB 2 2049 = false := by decide
theorem raliveF : andV 2049 3 = 1 := by decide
theorem raliveG : orV 1 2 = 3 := by decide
theorem raliveH : cntN 2049 12 = 2 := by decide
theorem raliveI : rightB 2049 = true := by decide
set_option maxRecDepth 100000 in
set_option maxHeartbeats 8000000 in
theorem ralive_body : body Tryd.prog c37 [] [] (fun r m => r = vBool true) := by
  refine parse_ok [114, 101, 97, 100, 44, 107, 105, 108, 108] (by decide) ?_
  rw [raliveA]
  refine words_ok 2049 (by decide) ?_
  refine from_ok _ _ ?_
  rw [raliveC]
  refine print_ok 2049 (by decide) ?_
  rw [raliveB]
  refine bB_str (a := [114, 101, 97, 100, 44, 107, 105, 108, 108]) (b := [114, 101, 97, 100, 44, 107, 105, 108, 108]) (fun _ => ?_) (fun h => absurd rfl h)
  refine within_ok 1 2049 ?_
  rw [raliveD]
  refine within_ok 2 2049 ?_
  rw [raliveE]
  refine meet_ok 2049 3 ?_
  rw [raliveF]
  refine joinR_ok 1 2 ?_
  rw [raliveG]
  refine count_ok 2049 (by decide) ?_
  rw [raliveH]
  refine right_ok 2049 ?_
  rw [raliveI]
  refine names_ok ?_
  rfl
theorem ralive_ok {m : Mem} {K : CV → Mem → Prop} (h : K (vBool true) m) : ACall Tryd.prog 37 [] m K :=
  acall_val Tryd.func37 l37 rfl (Nat.le_of_ble_eq_true rfl) ralive_body rfl rfl h

end Go.Proofs.YtoohefnephhmbaaDoor
