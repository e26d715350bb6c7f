import Derived.Test.YtbemknkbegkflaaAmZ2
import Derived.Test.YtbemknkbegkflaaDvGh
import Derived.Test.YtbemknkbegkflaaAmY
set_option linter.unusedVariables false
set_option linter.unusedSimpArgs false
namespace Go.Proofs.Ytbemknkbegkflaa
open Go.AM Go.ChangeShapes Go.WideShapes Go.ChangeAt Go.RowKit
def c7 : LF := ⟨17, [.tmp 4], (.seq (.reg [
    ⟨(some 4), .mov (.c (.rv (.one (.dat (.val (.bool false)))))), none⟩]) (.seq (.seq (.reg [
    ⟨(some 7), .mov (.t 0), none⟩,
    ⟨(some 8), .len 1 (.t 7), none⟩,
    ⟨(some 9), .mov (.c (.rv (.one (.dat (.val (.int .i64 (0))))))), none⟩]) (.block 0 (.loop (.seq (.reg [
    ⟨(some 10), .bin .lss (.t 9) (.t 8), none⟩]) (.seq (.cond (.t 10) .skip (.exit 0)) (.seq (.block 1 (.seq (.reg [
    ⟨(some 11), .idx 1 (.t 7) (.t 9), none⟩,
    ⟨(some 12), .load false 1 (.t 11), none⟩,
    ⟨(some 6), .mov (.t 12), none⟩]) (.seq (.reg [
    ⟨(some 13), .mov (.t 6), none⟩,
    ⟨(some 14), .mov (.t 1), none⟩,
    ⟨(some 15), .bin .eql (.t 13) (.t 14), none⟩]) (.cond (.t 15) (.seq (.reg [
    ⟨(some 4), .mov (.c (.rv (.one (.dat (.val (.bool true)))))), none⟩]) .ret) .skip)))) (.reg [
    ⟨(some 16), .bin .add (.t 9) (.c (.rv (.one (.dat (.val (.int .i64 (1))))))), none⟩,
    ⟨(some 9), .mov (.t 16), none⟩]))))))) (.seq (.reg [
    ⟨(some 4), .mov (.c (.rv (.one (.dat (.val (.bool false)))))), none⟩]) .ret)))⟩
def c8 : LF := ⟨56, [.tmp 4], (.seq (.reg [
    ⟨(some 2), .box (.t 0), none⟩,
    ⟨(some 4), .mov (.c (.rv (.one (.dat (.val (.bool false)))))), none⟩]) (.seq (.reg [
    ⟨(some 5), .mov (.c (.rv (.one .esl))), none⟩]) (.seq (.seq (.reg [
    ⟨(some 12), .fadr 2 (.t 2), none⟩,
    ⟨(some 13), .load false 1 (.t 12), none⟩,
    ⟨(some 14), .len 1 (.t 13), none⟩,
    ⟨(some 15), .mov (.c (.rv (.one (.dat (.val (.int .i64 (0))))))), none⟩]) (.block 0 (.loop (.seq (.reg [
    ⟨(some 16), .bin .lss (.t 15) (.t 14), none⟩]) (.seq (.cond (.t 16) .skip (.exit 0)) (.seq (.block 1 (.seq (.reg [
    ⟨(some 17), .mov (.t 15), none⟩,
    ⟨(some 18), .idx 4 (.t 13) (.t 15), none⟩,
    ⟨(some 19), .load true 4 (.t 18), none⟩,
    ⟨(some 7), .alloc [(.dat (.val (.bool false))), (.dat (.val (.bool false))), (.dat (.val (.int .i64 (0)))), .esl], none⟩,
    ⟨(some 6), .mov (.t 17), none⟩,
    ⟨none, .store 4 (.t 7) (.t 19), none⟩]) (.seq (.reg [
    ⟨(some 20), .mov (.t 1), none⟩,
    ⟨(some 21), .mov (.t 6), none⟩,
    ⟨(some 22), .call (.c (.rv (.one (.fn 22 [])))) [(.t 20), (.t 21)], none⟩,
    ⟨(some 8), .mov (.t 22), none⟩]) (.seq (.seq (.reg [
    ⟨(some 23), .mov (.t 8), none⟩,
    ⟨(some 24), .mov (.t 23), none⟩,
    ⟨(some 25), .fadr 0 (.t 7), (some (24, true))⟩,
    ⟨(some 26), .load false 1 (.t 25), (some (24, true))⟩,
    ⟨(some 27), .un .not (.t 26), (some (24, true))⟩,
    ⟨(some 28), .mov (.t 27), (some (24, true))⟩,
    ⟨(some 29), .fadr 1 (.t 7), (some (28, false))⟩,
    ⟨(some 30), .load false 1 (.t 29), (some (28, false))⟩,
    ⟨(some 31), .un .not (.t 30), (some (28, false))⟩,
    ⟨(some 32), .pick (.t 28) (.c (.rv (.one (.dat (.val (.bool true)))))) (.t 31), (some (24, true))⟩,
    ⟨(some 33), .pick (.t 24) (.t 32) (.c (.rv (.one (.dat (.val (.bool false)))))), none⟩]) (.cond (.t 33) (.seq (.reg [
    ⟨(some 4), .mov (.c (.rv (.one (.dat (.val (.bool false)))))), none⟩]) .ret) .skip)) (.seq (.reg [
    ⟨(some 34), .mov (.t 8), none⟩,
    ⟨(some 35), .un .not (.t 34), none⟩]) (.cond (.t 35) (.reg [
    ⟨(some 36), .mov (.t 5), none⟩,
    ⟨(some 37), .mov (.t 6), none⟩,
    ⟨(some 38), .bsl 1 [(.dat (.val (.int .i64 (0))))] 1 [(0, (.t 37))], none⟩,
    ⟨(some 39), .app 1 8 (.t 36) (.t 38), none⟩,
    ⟨(some 5), .mov (.t 39), none⟩]) .skip)))))) (.reg [
    ⟨(some 40), .bin .add (.t 15) (.c (.rv (.one (.dat (.val (.int .i64 (1))))))), none⟩,
    ⟨(some 15), .mov (.t 40), none⟩]))))))) (.seq (.reg [
    ⟨(some 41), .load true 3 (.t 2), none⟩,
    ⟨(some 42), .mov (.t 1), none⟩,
    ⟨(some 43), .call (.c (.rv (.one (.fn 6 [])))) [(.t 41), (.t 42)], none⟩,
    ⟨(some 9), .mov (.t 43), none⟩]) (.seq (.seq (.reg [
    ⟨(some 44), .load true 3 (.t 2), none⟩,
    ⟨(some 45), .mov (.t 5), none⟩,
    ⟨(some 46), .call (.c (.rv (.one (.fn 6 [])))) [(.t 44), (.t 45)], none⟩,
    ⟨(some 47), .len 1 (.t 46), none⟩,
    ⟨(some 48), .mov (.c (.rv (.one (.dat (.val (.int .i64 (0))))))), none⟩]) (.block 2 (.loop (.seq (.reg [
    ⟨(some 49), .bin .lss (.t 48) (.t 47), none⟩]) (.seq (.cond (.t 49) .skip (.exit 2)) (.seq (.block 3 (.seq (.reg [
    ⟨(some 50), .idx 1 (.t 46) (.t 48), none⟩,
    ⟨(some 51), .load false 1 (.t 50), none⟩,
    ⟨(some 11), .mov (.t 51), none⟩]) (.seq (.reg [
    ⟨(some 52), .mov (.t 9), none⟩,
    ⟨(some 53), .mov (.t 11), none⟩,
    ⟨(some 54), .call (.c (.rv (.one (.fn 22 [])))) [(.t 52), (.t 53)], none⟩]) (.cond (.t 54) (.seq (.reg [
    ⟨(some 4), .mov (.c (.rv (.one (.dat (.val (.bool false)))))), none⟩]) .ret) .skip)))) (.reg [
    ⟨(some 55), .bin .add (.t 48) (.c (.rv (.one (.dat (.val (.int .i64 (1))))))), none⟩,
    ⟨(some 48), .mov (.t 55), none⟩]))))))) (.seq (.reg [
    ⟨(some 4), .mov (.c (.rv (.one (.dat (.val (.bool true)))))), none⟩]) .ret))))))⟩
def c22 : LF := ⟨9, [.tmp 4], (.seq (.reg [
    ⟨(some 4), .mov (.c (.rv (.one (.dat (.val (.bool false)))))), none⟩]) (.seq (.reg [
    ⟨(some 5), .mov (.t 0), none⟩,
    ⟨(some 6), .mov (.t 1), none⟩,
    ⟨(some 7), .call (.c (.rv (.one (.fn 25 [])))) [(.t 5), (.t 6)], none⟩,
    ⟨(some 8), .bin .geq (.t 7) (.c (.rv (.one (.dat (.val (.int .i64 (0))))))), none⟩,
    ⟨(some 4), .mov (.t 8), none⟩]) .ret))⟩
def c25 : LF := ⟨19, [.tmp 4], (.seq (.reg [
    ⟨(some 4), .mov (.c (.rv (.one (.dat (.val (.int .i64 (0))))))), none⟩]) (.seq (.seq (.reg [
    ⟨(some 6), .mov (.t 0), none⟩,
    ⟨(some 7), .len 1 (.t 6), none⟩,
    ⟨(some 8), .mov (.c (.rv (.one (.dat (.val (.int .i64 (0))))))), none⟩]) (.block 0 (.loop (.seq (.reg [
    ⟨(some 9), .bin .lss (.t 8) (.t 7), none⟩]) (.seq (.cond (.t 9) .skip (.exit 0)) (.seq (.block 1 (.seq (.reg [
    ⟨(some 10), .mov (.t 8), none⟩,
    ⟨(some 5), .mov (.t 10), none⟩]) (.seq (.reg [
    ⟨(some 11), .mov (.t 1), none⟩,
    ⟨(some 12), .mov (.t 0), none⟩,
    ⟨(some 13), .mov (.t 5), none⟩,
    ⟨(some 14), .idx 1 (.t 12) (.t 13), none⟩,
    ⟨(some 15), .load false 1 (.t 14), none⟩,
    ⟨(some 16), .bin .eql (.t 11) (.t 15), none⟩]) (.cond (.t 16) (.seq (.reg [
    ⟨(some 17), .mov (.t 5), none⟩,
    ⟨(some 4), .mov (.t 17), none⟩]) .ret) .skip)))) (.reg [
    ⟨(some 18), .bin .add (.t 8) (.c (.rv (.one (.dat (.val (.int .i64 (1))))))), none⟩,
    ⟨(some 8), .mov (.t 18), none⟩]))))))) (.seq (.reg [
    ⟨(some 4), .mov (.c (.rv (.one (.dat (.val (.int .i64 (-1))))))), none⟩]) .ret)))⟩
/-! Fence: has, Contains, Closed -/
namespace Fe
theorem l7 : lowF Try.prog Try.f7 = some c7 := by kernel_rfl
theorem l22 : lowF Try.prog Try.f22 = some c22 := by kernel_rfl
theorem l25 : lowF Try.prog Try.f25 = some c25 := by kernel_rfl
theorem l8 : lowF Try.prog Try.f8 = some c8 := by kernel_rfl
def nZ (L : List Nat) : List Int := L.map fun (k : Nat) => ((k : Nat) : Int)
theorem natsV_eq (L : List Nat) : natsV L = intsV (nZ L) := by
  unfold natsV intsV nZ
  rw [List.map_map]
  rfl
structure FSz (l : List Obj) (ops : List Opn) (ps : List Prc) : Prop where
  hl : l.length ≤ 4194304
  hen : ∀ o, o ∈ l → ∃ es : List NE, o.entries = es.map entD
  hsz : ∀ o, o ∈ l → o.entries.length ≤ 4194304 ∧ o.queue.length ≤ 4194304
  hps : ∀ p, p ∈ ps → p.slots.length ≤ 4194304
set_option maxRecDepth 100000 in
theorem sreach_ok (l : List Obj) (ops : List Opn) (ps : List Prc) (pl : List Int) (hz : FSz l ops ps) (hpl : pl.length ≤ 4194304) {m : Mem} {K : CV → Mem → Prop} (h : ∀ L, FOK l ops ps pl L → K (natsV (outL l.length L l.length)) m) : ACall Try.prog 6 [kernV l ops ps, intsV pl] m K := by
  refine acall_frame (K0 := fun r m => ∃ L, FOK l ops ps pl L ∧ FrzV m r (natsV (outL l.length L l.length))) (acall_body Try.func6 l6 rfl (Nat.le_of_ble_eq_true rfl) (sreach_body l ops ps pl hz.hl hz.hen hz.hsz hpl hz.hps)) (by simp [kernV, intsV, objsD, opnD, prcD, CV.isD, CC.isD, RV.isD]) fun r m1 hr => ?_
  obtain ⟨L, hL, hf⟩ := hr
  exact ⟨_, hf, h L hL⟩
set_option maxRecDepth 100000 in
set_option maxHeartbeats 8000000 in
theorem has_body (pl : List Int) (hpl : pl.length ≤ 4194304) (z : Int) : body Try.prog c7 [intsV pl, vInt .i64 z] [] (fun r m => r = vBool (decide (z ∈ pl))) := by
  refine loop_keep (fun k => k ≤ pl.length ∧ ∀ (j : Nat) x, j < k → pl[j]? = some x → x ≠ z) [1, 7, 8] (fun k => [(9, vInt .i64 (k : Nat))]) (fun _ => []) (fun k => pl.length - k) 0 ⟨Nat.zero_le _, fun j e h => absurd h (Nat.not_lt_zero j)⟩ ?_ (fun k hk => ?_)
  · refine View.of 0 [] [] rfl rfl rfl rfl rfl rfl ?_ (.nil _)
    repeat (first | exact .nil | refine .junk ?_ | refine .eq rfl ?_)
  obtain ⟨hk, hkb⟩ := hk
  have hk : k ≤ pl.length := hk
  refine bB_dec (fun h => ?_) (fun h => ?_)
  · have hlt : k < pl.length := by
      have h : (k : Int) < ((pl.map iE).length : Int) := h
      rw [List.length_map] at h
      omega
    refine ok_some (int_get hlt) ?_
    refine bB_beq (fun he => ?_) (fun he => ?_)
    · show vBool _ = vBool _
      rw [decide_eq_true (show z ∈ pl from he ▸ List.getElem_mem hlt)]
    · refine ⟨k + 1, ⟨hlt, fun j e hj hje => ?_⟩, (show pl.length - (k + 1) < pl.length - k by omega), View.of 0 [] [] rfl rfl rfl rfl rfl rfl ?_ (.nil _)⟩
      · rcases Nat.lt_or_ge j k with h3 | h3
        · exact hkb j e h3 hje
        · have : j = k := by omega
          subst this
          rw [List.getElem?_eq_getElem hlt] at hje
          cases hje
          exact he
      repeat (first | exact .nil | refine .junk ?_ | refine .put (.ren (next_i64 (by omega)).symm) ?_ | refine .eq rfl ?_)
  · have hge : ¬ k < pl.length := by
      have h : ¬ (k : Int) < ((pl.map iE).length : Int) := h
      rw [List.length_map] at h
      omega
    show vBool _ = vBool _
    rw [decide_eq_false (fun hm => by
      obtain ⟨j, hj⟩ := List.getElem?_of_mem hm
      exact hkb j z (by have := (List.getElem?_eq_some_iff.1 hj).1; omega) hj rfl)]
theorem has_ok (pl : List Int) (hpl : pl.length ≤ 4194304) (z : Int) {m : Mem} {K : CV → Mem → Prop} (h : K (vBool (decide (z ∈ pl))) m) : ACall Try.prog 7 [intsV pl, vInt .i64 z] m K :=
  acall_val Try.func7 l7 rfl (Nat.le_of_ble_eq_true rfl) (has_body pl hpl z) rfl rfl h
set_option maxRecDepth 100000 in
set_option maxHeartbeats 8000000 in
theorem index_body (pl : List Int) (hpl : pl.length ≤ 4194304) (z : Int) : body Try.prog c25 [intsV pl, vInt .i64 z] [] (fun r m => ∃ n, r = vInt .i64 n ∧ (n ≥ 0 ↔ z ∈ pl)) := by
  refine loop_keep (fun k => k ≤ pl.length ∧ ∀ (j : Nat) x, j < k → pl[j]? = some x → x ≠ z) [0, 1, 7] (fun k => [(8, vInt .i64 (k : Nat))]) (fun _ => []) (fun k => pl.length - k) 0 ⟨Nat.zero_le _, fun j e h => absurd h (Nat.not_lt_zero j)⟩ ?_ (fun k hk => ?_)
  · refine View.of 0 [] [] rfl rfl rfl rfl rfl rfl ?_ (.nil _)
    repeat (first | exact .nil | refine .junk ?_ | refine .eq rfl ?_)
  obtain ⟨hk, hkb⟩ := hk
  have hk : k ≤ pl.length := hk
  refine bB_dec (fun h => ?_) (fun h => ?_)
  · have hlt : k < pl.length := by
      have h : (k : Int) < ((pl.map iE).length : Int) := h
      rw [List.length_map] at h
      omega
    refine ok_some (int_get hlt) ?_
    refine bB_beq (fun he => ?_) (fun he => ?_)
    · exact ⟨_, rfl, fun _ => he ▸ List.getElem_mem hlt, fun _ => by show (k : Int) ≥ 0; omega⟩
    · refine ⟨k + 1, ⟨hlt, fun j e hj hje => ?_⟩, (show pl.length - (k + 1) < pl.length - k by omega), View.of 0 [] [] rfl rfl rfl rfl rfl rfl ?_ (.nil _)⟩
      · rcases Nat.lt_or_ge j k with h3 | h3
        · exact hkb j e h3 hje
        · have : j = k := by omega
          subst this
          rw [List.getElem?_eq_getElem hlt] at hje
          cases hje
          exact fun e => he e.symm
      repeat (first | exact .nil | refine .junk ?_ | refine .put (.ren (next_i64 (by omega)).symm) ?_ | refine .eq rfl ?_)
  · have hge : ¬ k < pl.length := by
      have h : ¬ (k : Int) < ((pl.map iE).length : Int) := h
      rw [List.length_map] at h
      omega
    refine ⟨_, rfl, fun h => absurd h (by decide), fun hm => ?_⟩
    obtain ⟨j, hj⟩ := List.getElem?_of_mem hm
    exact absurd rfl (hkb j z (by have := (List.getElem?_eq_some_iff.1 hj).1; omega) hj)
theorem index_ok (pl : List Int) (hpl : pl.length ≤ 4194304) (z : Int) {m : Mem} {K : CV → Mem → Prop} (h : ∀ n : Int, (n ≥ 0 ↔ z ∈ pl) → K (vInt .i64 n) m) : ACall Try.prog 25 [intsV pl, vInt .i64 z] m K := by
  refine acall_frame (K0 := fun r _ => ∃ n, r = vInt .i64 n ∧ (n ≥ 0 ↔ z ∈ pl)) (acall_body Try.func25 l25 rfl (Nat.le_of_ble_eq_true rfl) (index_body pl hpl z)) (by simp [vInt, intsV, CV.isD, CC.isD, RV.isD]) fun r m1 hr => ?_
  obtain ⟨n, rfl, hn⟩ := hr
  exact ⟨_, FrzV.self rfl, h n hn⟩
set_option maxRecDepth 100000 in
theorem cont_body (pl : List Int) (hpl : pl.length ≤ 4194304) (z : Int) : body Try.prog c22 [intsV pl, vInt .i64 z] [] (fun r m => r = vBool (decide (z ∈ pl))) := by
  refine index_ok pl hpl z fun n hn => ?_
  show vBool (decide (n ≥ 0)) = vBool (decide (z ∈ pl))
  rw [decide_eq_decide.2 hn]
theorem cont_ok (pl : List Int) (hpl : pl.length ≤ 4194304) (z : Int) {m : Mem} {K : CV → Mem → Prop} (h : K (vBool (decide (z ∈ pl))) m) : ACall Try.prog 22 [intsV pl, vInt .i64 z] m K :=
  acall_val Try.func22 l22 rfl (Nat.le_of_ble_eq_true rfl) (cont_body pl hpl z) rfl rfl h
def oth (pl : List Int) (i : Nat) : List Nat := (List.range i).filter fun p => decide (¬ (p : Int) ∈ pl)
theorem oth_succ (pl : List Int) (i : Nat) : oth pl (i + 1) = oth pl i ++ (if (i : Int) ∈ pl then [] else [i]) := by
  unfold oth
  rw [List.range_succ, List.filter_append]
  by_cases h : (i : Int) ∈ pl <;> simp [h]
theorem oth_len (pl : List Int) (i : Nat) : (oth pl i).length ≤ i := Nat.le_trans (List.length_filter_le _ _) (by simp)
def FenP (ps : List Prc) (pl : List Int) (i : Nat) : Prop := ∀ (j : Nat) pr, j < i → ps[j]? = some pr → (j : Int) ∈ pl → pr.live = true ∧ pr.fenced = true
theorem FenP.succ {ps : List Prc} {pl : List Int} {i : Nat} {pr : Prc} (hp : ps[i]? = some pr) : FenP ps pl (i + 1) ↔ FenP ps pl i ∧ ((i : Int) ∈ pl → pr.live = true ∧ pr.fenced = true) := by
  constructor
  · exact fun h => ⟨fun j q hj hq hm => h j q (by omega) hq hm, fun hm => h i pr (by omega) hp hm⟩
  · rintro ⟨h1, h2⟩ j q hj hq hm
    rcases Nat.lt_or_ge j i with h | h
    · exact h1 j q h hq hm
    · have : j = i := by omega
      subst this
      rw [hp] at hq
      cases hq
      exact h2 hm
def CLd (l : List Obj) (ops : List Opn) (ps : List Prc) (pl : List Int) : Prop := FenP ps pl ps.length ∧ ∀ L L', FOK l ops ps pl L → FOK l ops ps (nZ (oth pl ps.length)) L' → ∀ n, n ∈ L' → n ∉ L
theorem mem_outL {N : Nat} {L : List Nat} (h : ∀ n, n ∈ L → n < N) (n : Nat) : n ∈ outL N L N ↔ n ∈ L := by
  unfold outL
  simp only [List.mem_filter, List.mem_range, decide_eq_true_eq]
  exact ⟨fun h => h.2, fun hn => ⟨h n hn, hn⟩⟩
theorem FOK.lt {l : List Obj} {ops : List Opn} {ps : List Prc} {pl : List Int} {L : List Nat} (h : FOK l ops ps pl L) (n : Nat) (hn : n ∈ L) : n < l.length := by
  obtain ⟨_, o, ho, _⟩ := h.val n hn
  exact (List.getElem?_eq_some_iff.1 ho).1
theorem mem_nZ {L : List Nat} {n : Nat} : (n : Int) ∈ nZ L ↔ n ∈ L := by
  unfold nZ
  rw [List.mem_map]
  exact ⟨fun ⟨x, hx, e⟩ => by have : x = n := by omega
                              exact this ▸ hx, fun h => ⟨n, h, rfl⟩⟩
set_option maxRecDepth 100000 in
set_option maxHeartbeats 16000000 in
theorem closed_body (l : List Obj) (ops : List Opn) (ps : List Prc) (pl : List Int) (hz : FSz l ops ps) (hpn : ps.length ≤ 4194304) (hpl : pl.length ≤ 4194304) :
    body Try.prog c8 [kernV l ops ps, intsV pl] [] (fun r m => ∃ b, r = vBool b ∧ (b = true ↔ CLd l ops ps pl)) := by
  refine loop_keep (fun i => i ≤ ps.length ∧ FenP ps pl i) [1, 2, 13, 14] (fun i => [(15, vInt .i64 (i : Nat)), (5, .rv (.one (.row 1 1 0 none)))]) (fun i => [kB l ops ps, .row 1 (dRows ((oth pl i).map nI))]) (fun i => ps.length - i) 0 ⟨Nat.zero_le _, fun j pr hj => absurd hj (Nat.not_lt_zero j)⟩ ?_ (fun i hi => ?_)
  · refine View.trans (View.esl 5 1 1 rfl rfl rfl) (View.of 2 [0, 1] [] rfl rfl rfl rfl rfl rfl ?_ ?_)
    · repeat (first | exact .nil | refine .junk ?_ | refine .eq rfl ?_)
    · exact .put (notF rfl) rfl (.eq rfl (by simp [kB])) (.put (notF rfl) rfl (.rowDE rfl) (.nil _))
  obtain ⟨hi, hF⟩ := hi
  have hi : i ≤ ps.length := hi
  refine bB_dec (fun h => ?_) (fun h => ?_)
  · have hilt : i < ps.length := by
      have h : (i : Int) < ((ps.map Prc.enc).length : Int) := h
      rw [List.length_map] at h
      omega
    have hpr := List.getElem?_eq_getElem hilt
    have hg : getZ (ps.map Prc.enc) (i : Nat) = some (ps[i].enc) := by rw [getZ_nat, List.getElem?_map, hpr]; rfl
    generalize ps[i] = pr at hpr hg
    have hfs := FenP.succ (pl := pl) hpr
    obtain ⟨live, fenced, code, slots⟩ := pr
    have hos := oth_succ pl i
    have hol := oth_len pl i
    have bad : ¬ FenP ps pl (i + 1) → ∃ b, vBool false = vBool b ∧ (b = true ↔ CLd l ops ps pl) := fun hn => ⟨false, rfl, (fun h => by cases h), fun h => absurd (fun j q hj hq hm => h.1 j q (by omega) hq hm) hn⟩
    refine ok_some (x := [.val (.bool live), .val (.bool fenced), .val (.int .i64 code), sl3D slots]) hg ?_
    refine cont_ok pl hpl (i : Nat) ?_
    by_cases hm : (i : Int) ∈ pl
    · rw [decide_eq_true hm]
      rw [if_pos hm, List.append_nil] at hos
      cases live with
      | false => exact bad fun h => by have := ((hfs.1 h).2 hm).1; cases this
      | true =>
        cases fenced with
        | false => exact bad fun h => by have := ((hfs.1 h).2 hm).2; cases this
        | true =>
          refine ⟨i + 1, ⟨hilt, hfs.2 ⟨hF, fun _ => ⟨rfl, rfl⟩⟩⟩, (show ps.length - (i + 1) < ps.length - i by omega), View.of 3 [0, 1] [] rfl rfl rfl rfl rfl rfl ?_ ?_⟩
          · repeat (first | exact .nil | refine .junk ?_ | refine .put (.ren (next_i64 (by omega)).symm) ?_ | refine .eq rfl ?_)
          · exact .put (notF rfl) rfl (.eq rfl (by simp [kB])) (.put (notF rfl) rfl (.rowDE (by rw [hos])) (.nil _))
    · rw [decide_eq_false hm]
      rw [if_neg hm] at hos
      refine ⟨by have e := dRows_len ((oth pl i).map nI); rw [List.length_map] at e; simp only [subL, List.length_cons, List.length_nil]; omega, ?_⟩
      refine ⟨i + 1, ⟨hilt, hfs.2 ⟨hF, fun h => absurd h hm⟩⟩, (show ps.length - (i + 1) < ps.length - i by omega), View.of 5 [0, 4] [] rfl rfl rfl rfl rfl rfl ?_ ?_⟩
      · repeat (first | exact .nil | refine .junk ?_ | refine .put (.ren (next_i64 (by omega)).symm) ?_ | refine .eq rfl ?_)
      · exact .put (notF rfl) rfl (.eq rfl (by simp [kB])) (.put (notF rfl) rfl (.rowDE (by rw [hos]; simp [subL, dRows, nI])) (.nil _))
  · have hie : i = ps.length := by
      have h : ¬ (i : Int) < ((ps.map Prc.enc).length : Int) := h
      rw [List.length_map] at h
      omega
    subst hie
    refine sreach_ok l ops ps pl hz hpl fun L hL => ?_
    have hol := oth_len pl ps.length
    refine acall_pre (args' := [kernV l ops ps, natsV (oth pl ps.length)]) (m' := [.dead, .dead]) (View.of 2 [0, 1] [1] rfl rfl rfl rfl rfl rfl (.eq rfl (.put (.rv (.one (.frz (FrzD.rowD (Z := fun k => memN [1] k = true) (ds := (oth pl ps.length).map nI) rfl rfl 0 none)))) .nil)) (.dead (.dead (.nil _)))) ?_
    rw [natsV_eq]
    refine sreach_ok l ops ps (nZ (oth pl ps.length)) hz (by unfold nZ; rw [List.length_map]; omega) fun L' hL' => ?_
    have key : CLd l ops ps pl ↔ ∀ n, n ∈ outL l.length L' l.length → n ∉ outL l.length L l.length := by
      constructor
      · intro h n hn hm
        exact h.2 L L' hL hL' n ((mem_outL hL'.lt n).1 hn) ((mem_outL hL.lt n).1 hm)
      · intro h
        refine ⟨hF, fun L2 L3 h2 h3 n hn hm => ?_⟩
        exact h n ((mem_outL hL'.lt n).2 ((h3.same hL' n).1 hn)) ((mem_outL hL.lt n).2 ((h2.same hL n).1 hm))
    have g1 := outL_len l.length L l.length
    have g2 := outL_len l.length L' l.length
    generalize outL l.length L l.length = A at key g1
    generalize outL l.length L' l.length = B at key g2
    have hl := hz.hl
    refine loop_keep (fun j => j ≤ B.length ∧ ∀ (k n : Nat), k < j → B[k]? = some n → n ∉ A) [9, 46, 47] (fun j => [(48, vInt .i64 (j : Nat))]) (fun _ => []) (fun j => B.length - j) 0 ⟨Nat.zero_le _, fun k n h => absurd h (Nat.not_lt_zero k)⟩ ?_ (fun j hj => ?_)
    · refine View.of 2 [] [] rfl rfl rfl rfl rfl rfl ?_ (.nil _)
      repeat (first | exact .nil | refine .junk ?_ | refine .eq rfl ?_)
    obtain ⟨hj, hjb⟩ := hj
    have hj : j ≤ B.length := hj
    refine bB_dec (fun h => ?_) (fun h => ?_)
    · have hjlt : j < B.length := by
        have h : (j : Int) < ((B.map nI).length : Int) := h
        rw [List.length_map] at h
        omega
      have hg : getZ (B.map nI) (j : Nat) = some [.val (.int .i64 (B[j] : Nat))] := by rw [getZ_nat, List.getElem?_map, List.getElem?_eq_getElem hjlt]; rfl
      refine ok_some hg ?_
      rw [show CV.rv (.one (.dat (.sl 1 (A.map nI)))) = intsV (nZ A) from natsV_eq A]
      refine cont_ok (nZ A) (by unfold nZ; rw [List.length_map]; omega) (B[j] : Nat) ?_
      by_cases hm : B[j] ∈ A
      · rw [decide_eq_true (mem_nZ.2 hm)]
        exact ⟨false, rfl, (fun h => by cases h), fun h => absurd hm (key.1 h _ (List.getElem_mem hjlt))⟩
      · rw [decide_eq_false (fun h => hm (mem_nZ.1 h))]
        refine ⟨j + 1, ⟨hjlt, fun k n hk hkn => ?_⟩, (show B.length - (j + 1) < B.length - j by omega), View.of 0 [] [] rfl rfl rfl rfl rfl rfl ?_ (.nil _)⟩
        · rcases Nat.lt_or_ge k j with h3 | h3
          · exact hjb k n h3 hkn
          · have : k = j := by omega
            subst this
            rw [List.getElem?_eq_getElem hjlt] at hkn
            cases hkn
            exact hm
        · repeat (first | exact .nil | refine .junk ?_ | refine .put (.ren (next_i64 (by omega)).symm) ?_ | refine .put (.ren (natsV_eq A).symm) ?_ | refine .eq rfl ?_)
    · have hge : ¬ j < B.length := by
        have h : ¬ (j : Int) < ((B.map nI).length : Int) := h
        rw [List.length_map] at h
        omega
      refine ⟨true, rfl, fun _ => key.2 fun n hn => ?_, fun _ => rfl⟩
      obtain ⟨k, hk⟩ := List.getElem?_of_mem hn
      exact hjb k n (by have := (List.getElem?_eq_some_iff.1 hk).1; omega) hk
set_option maxRecDepth 100000 in
theorem closed_ok (l : List Obj) (ops : List Opn) (ps : List Prc) (pl : List Int) (hz : FSz l ops ps) (hpn : ps.length ≤ 4194304) (hpl : pl.length ≤ 4194304) {m : Mem} {K : CV → Mem → Prop} (h : ∀ b, (b = true ↔ CLd l ops ps pl) → K (vBool b) m) : ACall Try.prog 8 [kernV l ops ps, intsV pl] m K := by
  refine acall_frame (K0 := fun r m => ∃ b, r = vBool b ∧ (b = true ↔ CLd l ops ps pl)) (acall_body Try.func8 l8 rfl (Nat.le_of_ble_eq_true rfl) (closed_body l ops ps pl hz hpn hpl)) (by simp [kernV, intsV, objsD, opnD, prcD, CV.isD, CC.isD, RV.isD]) fun r m1 hr => ?_
  obtain ⟨b, rfl, hb⟩ := hr
  exact ⟨_, FrzV.self rfl, h b hb⟩
end Fe

def c3 : LF := ⟨98, [.tmp 4], (.seq (.reg [
    ⟨(some 4), .mov (.c (.rv (.one (.dat (.val (.bool false)))))), none⟩]) (.seq (.reg [
    ⟨(some 15), .mov (.t 0), none⟩,
    ⟨(some 16), .call (.c (.rv (.one (.fn 4 [])))) [(.t 15)], none⟩,
    ⟨(some 5), .alloc [.esl, .esl, .esl], none⟩,
    ⟨none, .store 3 (.t 5) (.t 16), none⟩]) (.seq (.reg [
    ⟨(some 17), .load true 3 (.t 5), none⟩,
    ⟨(some 18), .mov (.t 1), none⟩,
    ⟨(some 19), .call (.c (.rv (.one (.fn 5 [])))) [(.t 17), (.t 18)], none⟩,
    ⟨(some 6), .mov (.t 19), none⟩]) (.seq (.reg [
    ⟨(some 20), .load true 3 (.t 5), none⟩,
    ⟨(some 21), .mov (.t 1), none⟩,
    ⟨(some 22), .call (.c (.rv (.one (.fn 6 [])))) [(.t 20), (.t 21)], none⟩,
    ⟨(some 7), .mov (.t 22), none⟩]) (.seq (.seq (.reg [
    ⟨(some 23), .mov (.t 7), none⟩,
    ⟨(some 24), .len 1 (.t 23), none⟩,
    ⟨(some 25), .mov (.t 6), none⟩,
    ⟨(some 26), .len 2 (.t 25), none⟩,
    ⟨(some 27), .bin .neq (.t 24) (.t 26), none⟩]) (.cond (.t 27) (.seq (.reg [
    ⟨(some 4), .mov (.c (.rv (.one (.dat (.val (.bool false)))))), none⟩]) .ret) .skip)) (.seq (.seq (.reg [
    ⟨(some 28), .mov (.t 7), none⟩,
    ⟨(some 29), .len 1 (.t 28), none⟩,
    ⟨(some 30), .mov (.c (.rv (.one (.dat (.val (.int .i64 (0))))))), none⟩]) (.block 0 (.loop (.seq (.reg [
    ⟨(some 31), .bin .lss (.t 30) (.t 29), none⟩]) (.seq (.cond (.t 31) .skip (.exit 0)) (.seq (.block 1 (.seq (.reg [
    ⟨(some 32), .mov (.t 30), none⟩,
    ⟨(some 33), .idx 1 (.t 28) (.t 30), none⟩,
    ⟨(some 34), .load false 1 (.t 33), none⟩,
    ⟨(some 8), .mov (.t 32), none⟩,
    ⟨(some 9), .mov (.t 34), none⟩]) (.seq (.reg [
    ⟨(some 35), .mov (.t 6), none⟩,
    ⟨(some 36), .mov (.t 9), none⟩,
    ⟨(some 37), .mget (.one (.dat (.val (.bool false)))) (.i .i64) (.t 35) (.t 36) false, none⟩,
    ⟨(some 38), .un .not (.t 37), none⟩,
    ⟨(some 39), .mov (.t 38), none⟩,
    ⟨(some 40), .mov (.t 8), (some (39, false))⟩,
    ⟨(some 41), .bin .gtr (.t 40) (.c (.rv (.one (.dat (.val (.int .i64 (0))))))), (some (39, false))⟩,
    ⟨(some 42), .mov (.t 41), (some (39, false))⟩,
    ⟨(some 43), .mov (.t 9), (some (42, true))⟩,
    ⟨(some 44), .mov (.t 7), (some (42, true))⟩,
    ⟨(some 45), .mov (.t 8), (some (42, true))⟩,
    ⟨(some 46), .bin .sub (.t 45) (.c (.rv (.one (.dat (.val (.int .i64 (1))))))), (some (42, true))⟩,
    ⟨(some 47), .idx 1 (.t 44) (.t 46), (some (42, true))⟩,
    ⟨(some 48), .load false 1 (.t 47), (some (42, true))⟩,
    ⟨(some 49), .bin .leq (.t 43) (.t 48), (some (42, true))⟩,
    ⟨(some 50), .pick (.t 42) (.t 49) (.c (.rv (.one (.dat (.val (.bool false)))))), (some (39, false))⟩,
    ⟨(some 51), .pick (.t 39) (.c (.rv (.one (.dat (.val (.bool true)))))) (.t 50), none⟩]) (.cond (.t 51) (.seq (.reg [
    ⟨(some 4), .mov (.c (.rv (.one (.dat (.val (.bool false)))))), none⟩]) .ret) .skip)))) (.reg [
    ⟨(some 52), .bin .add (.t 30) (.c (.rv (.one (.dat (.val (.int .i64 (1))))))), none⟩,
    ⟨(some 30), .mov (.t 52), none⟩]))))))) (.seq (.reg [
    ⟨(some 10), .mov (.c (.rv (.one (.dat (.val (.bool true)))))), none⟩]) (.seq (.reg [
    ⟨(some 11), .mov (.c (.rv (.one .esl))), none⟩]) (.seq (.seq (.reg [
    ⟨(some 53), .fadr 2 (.t 5), none⟩,
    ⟨(some 54), .load false 1 (.t 53), none⟩,
    ⟨(some 55), .len 1 (.t 54), none⟩,
    ⟨(some 56), .mov (.c (.rv (.one (.dat (.val (.int .i64 (0))))))), none⟩]) (.block 2 (.loop (.seq (.reg [
    ⟨(some 57), .bin .lss (.t 56) (.t 55), none⟩]) (.seq (.cond (.t 57) .skip (.exit 2)) (.seq (.block 3 (.seq (.reg [
    ⟨(some 58), .mov (.t 56), none⟩,
    ⟨(some 59), .idx 4 (.t 54) (.t 56), none⟩,
    ⟨(some 60), .load true 4 (.t 59), none⟩,
    ⟨(some 13), .alloc [(.dat (.val (.bool false))), (.dat (.val (.bool false))), (.dat (.val (.int .i64 (0)))), .esl], none⟩,
    ⟨(some 12), .mov (.t 58), none⟩,
    ⟨none, .store 4 (.t 13) (.t 60), none⟩]) (.seq (.reg [
    ⟨(some 61), .mov (.t 1), none⟩,
    ⟨(some 62), .mov (.t 12), none⟩,
    ⟨(some 63), .call (.c (.rv (.one (.fn 7 [])))) [(.t 61), (.t 62)], none⟩]) (.cond (.t 63) (.reg [
    ⟨(some 64), .mov (.t 10), none⟩,
    ⟨(some 65), .mov (.t 64), none⟩,
    ⟨(some 66), .fadr 0 (.t 13), (some (65, true))⟩,
    ⟨(some 67), .load false 1 (.t 66), (some (65, true))⟩,
    ⟨(some 68), .pick (.t 65) (.t 67) (.c (.rv (.one (.dat (.val (.bool false)))))), none⟩,
    ⟨(some 69), .mov (.t 68), none⟩,
    ⟨(some 70), .fadr 1 (.t 13), (some (69, true))⟩,
    ⟨(some 71), .load false 1 (.t 70), (some (69, true))⟩,
    ⟨(some 72), .pick (.t 69) (.t 71) (.c (.rv (.one (.dat (.val (.bool false)))))), none⟩,
    ⟨(some 10), .mov (.t 72), none⟩]) (.reg [
    ⟨(some 73), .mov (.t 11), none⟩,
    ⟨(some 74), .mov (.t 12), none⟩,
    ⟨(some 75), .bsl 1 [(.dat (.val (.int .i64 (0))))] 1 [(0, (.t 74))], none⟩,
    ⟨(some 76), .app 1 8 (.t 73) (.t 75), none⟩,
    ⟨(some 11), .mov (.t 76), none⟩]))))) (.reg [
    ⟨(some 77), .bin .add (.t 56) (.c (.rv (.one (.dat (.val (.int .i64 (1))))))), none⟩,
    ⟨(some 56), .mov (.t 77), none⟩]))))))) (.seq (.seq (.reg [
    ⟨(some 78), .load true 3 (.t 5), none⟩,
    ⟨(some 79), .mov (.t 11), none⟩,
    ⟨(some 80), .call (.c (.rv (.one (.fn 5 [])))) [(.t 78), (.t 79)], none⟩,
    ⟨(some 81), .rng (.t 80), none⟩]) (.block 4 (.loop (.seq (.reg [
    ⟨(some 82), .nxt (.t 81), none⟩,
    ⟨(some 83), .ext (.t 82) 0, none⟩]) (.seq (.cond (.t 83) .skip (.exit 4)) (.block 5 (.seq (.reg [
    ⟨(some 84), .ent (.t 81), none⟩,
    ⟨(some 85), .ext (.t 84) 0, none⟩,
    ⟨(some 14), .mov (.t 85), none⟩]) (.reg [
    ⟨(some 86), .mov (.t 10), none⟩,
    ⟨(some 87), .mov (.t 86), none⟩,
    ⟨(some 88), .mov (.t 6), (some (87, true))⟩,
    ⟨(some 89), .mov (.t 14), (some (87, true))⟩,
    ⟨(some 90), .mget (.one (.dat (.val (.bool false)))) (.i .i64) (.t 88) (.t 89) false, (some (87, true))⟩,
    ⟨(some 91), .un .not (.t 90), (some (87, true))⟩,
    ⟨(some 92), .pick (.t 87) (.t 91) (.c (.rv (.one (.dat (.val (.bool false)))))), none⟩,
    ⟨(some 10), .mov (.t 92), none⟩])))))))) (.seq (.reg [
    ⟨(some 93), .load true 3 (.t 5), none⟩,
    ⟨(some 94), .mov (.t 1), none⟩,
    ⟨(some 95), .call (.c (.rv (.one (.fn 8 [])))) [(.t 93), (.t 94)], none⟩,
    ⟨(some 96), .mov (.t 10), none⟩,
    ⟨(some 97), .beq false (.t 95) (.t 96), none⟩,
    ⟨(some 4), .mov (.t 97), none⟩]) .ret)))))))))))⟩
/-! FenceTells: the law -/
namespace Fe
theorem l3 : lowF Try.prog Try.f3 = some c3 := by kernel_rfl
def pE (n : Nat) : Value × Value := (.int .i64 (n : Nat), .bool true)
theorem plain_ent : ∀ L : List Nat, plainMs (L.map entN) = some (L.map pE)
  | [] => rfl
  | n :: r => by
    show (plainMs (r.map entN)).map ((Value.int .i64 (n : Nat), Value.bool true) :: ·) = _
    rw [plain_ent r]
    rfl
theorem nat_get {L : List Nat} {k : Nat} (h : k < L.length) : getZ (L.map nI) (k : Nat) = some [.val (.int .i64 (L[k] : Nat))] := by
  rw [getZ_nat, List.getElem?_map, List.getElem?_eq_getElem h]; rfl
theorem vw2 (l : List Obj) (ops : List Opn) (ps : List Prc) (L : List Nat) (n : Nat) (R : Mem) : MemVw (sg [0, 1] n) (kB l ops ps :: .mp (L.map entN) :: R) (fun k => memN [] k = true) 0 [kB l ops ps, .mp (L.map entN)] :=
  .put (notF rfl) rfl (.eq rfl (by simp [kB])) (.put (notF rfl) rfl (.eq (mapN_ren _) (by simp)) (.nil _))
structure StP where
  i : Nat
  cl : Bool
structure StI where
  cl : Bool
  left : List Nat
  cur : List (Value × Value)
theorem outL_asc (N : Nat) (L : List Nat) : (outL N L N).Pairwise (· < ·) := List.Pairwise.filter _ List.pairwise_lt_range
theorem GoodK.fsz {l : List Obj} {op : List Opn} {ps : List Prc} (h : GoodK l op ps) : FSz l op ps :=
  ⟨by have := h.objs.len; omega, fun o ho => by obtain ⟨es, h1, _⟩ := (h.en o ho).ex; exact ⟨es, h1⟩, fun o ho => by have := (h.objs.sm o ho).e; have := (h.objs.sm o ho).q; omega, fun p hp => by have := h.prcs.2 p hp; omega⟩
set_option maxRecDepth 100000 in
set_option maxHeartbeats 32000000 in
theorem ftells_body (b : List Int) (hb : BYb b) (pl : List Int) (hpl : pl.length ≤ 1048576) : body Try.prog c3 [.rv (.one (.dat (.sl 1 (byD b)))), intsV pl] [] (fun r m => r = vBool true) := by
  refine build_ok b hb fun l op ps hk => ?_
  have hz : FSz l op ps := Fe.GoodK.fsz hk
  have hpn : ps.length ≤ 4194304 := by have := hk.prcs.1; omega
  unfold kernV
  refine rreach_ok l op ps pl hz.hl hz.hen hz.hsz (by omega) hz.hps fun L hL => ?_
  refine sreach_ok l op ps pl hz (by omega) fun L1 hL1 => ?_
  have hmem : ∀ n, n ∈ outL l.length L1 l.length ↔ n ∈ L := fun n => (mem_outL hL1.lt n).trans (hL1.same hL n)
  have hasc := outL_asc l.length L1
  have hlen : (outL l.length L1 l.length).length = L.length :=
    ((List.perm_ext_iff_of_nodup (hasc.imp fun h => Nat.ne_of_lt h) hL.nd).2 hmem).length_eq
  have hGl := outL_len l.length L1 l.length
  have hl := hz.hl
  generalize outL l.length L1 l.length = G at hmem hasc hlen hGl
  refine bB_no (by simp [hlen]) ?_
  refine loop_keep (fun i => i ≤ G.length) [1, 5, 6, 7, 28, 29] (fun i => [(30, vInt .i64 (i : Nat))]) (fun _ => [kB l op ps, .mp (L.map entN)]) (fun i => G.length - i) 0 (Nat.zero_le _) ?_ (fun i hi => ?_)
  · refine View.of 2 [0, 1] [] rfl rfl rfl rfl rfl rfl ?_ (vw2 l op ps L 2 [])
    repeat (first | exact .nil | refine .junk ?_ | refine .eq rfl ?_)
  have hi : i ≤ G.length := hi
  refine bB_dec (fun h => ?_) (fun h => ?_)
  · have hlt : i < G.length := by
      have h : (i : Int) < ((G.map nI).length : Int) := h
      rw [List.length_map] at h
      omega
    refine ok_some (nat_get hlt) ?_
    refine ok_some (show mFind (.int .i64 (G[i] : Nat)) (L.map entN) = some (some tt1) from by rw [mFind_N, if_pos (inN_iff.2 ((hmem _).1 (List.getElem_mem hlt)))]) ?_
    refine bB_dec (fun h0 => ?_) (fun h0 => ?_)
    · have h0 : (i : Int) > 0 := h0
      have hw : IntKind.i64.wrap ((i : Int) - 1) = ((i - 1 : Nat) : Int) := by
        rw [show (i : Int) - 1 = ((i - 1 : Nat) : Int) by omega, wrapN (by omega)]
      have hlt1 : i - 1 < G.length := by omega
      refine ok_some (x := [.val (.int .i64 (G[i - 1] : Nat))]) (by rw [hw]; exact nat_get hlt1) ?_
      refine bB_dec (fun hle => ?_) (fun hle => ?_)
      · exfalso
        have hle : ((G[i] : Nat) : Int) ≤ ((G[i - 1] : Nat) : Int) := hle
        have := List.pairwise_iff_getElem.1 hasc (i - 1) i hlt1 hlt (by omega)
        omega
      · refine ⟨i + 1, hlt, (show G.length - (i + 1) < G.length - i by omega), View.of 2 [0, 1] [] rfl rfl rfl rfl rfl rfl ?_ (vw2 l op ps L 2 [])⟩
        repeat (first | exact .nil | refine .junk ?_ | refine .put (.ren (next_i64 (by omega)).symm) ?_ | refine .eq rfl ?_)
    · refine ⟨i + 1, hlt, (show G.length - (i + 1) < G.length - i by omega), View.of 2 [0, 1] [] rfl rfl rfl rfl rfl rfl ?_ (vw2 l op ps L 2 [])⟩
      repeat (first | exact .nil | refine .junk ?_ | refine .put (.ren (next_i64 (by omega)).symm) ?_ | refine .eq rfl ?_)
  refine loop_keep (fun a : StP => a.i ≤ ps.length ∧ (a.cl = true ↔ FenP ps pl a.i)) [1, 5, 6, 54, 55] (fun a => [(56, vInt .i64 (a.i : Nat)), (10, vBool a.cl), (11, .rv (.one (.row 2 1 0 none)))]) (fun a => [kB l op ps, .mp (L.map entN), .row 1 (dRows ((oth pl a.i).map nI))]) (fun a => ps.length - a.i) ⟨0, true⟩ ⟨Nat.zero_le _, fun _ j pr hj => absurd hj (Nat.not_lt_zero j), fun _ => rfl⟩ ?_ (fun a ha => ?_)
  · refine View.trans (View.esl 11 1 2 rfl rfl rfl) (View.of 3 [0, 1, 2] [] rfl rfl rfl rfl rfl rfl ?_ ?_)
    · repeat (first | exact .nil | refine .junk ?_ | refine .eq rfl ?_)
    · exact .put (notF rfl) rfl (.eq rfl (by simp [kB])) (.put (notF rfl) rfl (.eq (mapN_ren _) (by simp)) (.put (notF rfl) rfl (.rowDE rfl) (.nil _)))
  obtain ⟨i, cl⟩ := a
  obtain ⟨hi, hcl⟩ := ha
  have hi : i ≤ ps.length := hi
  have hcl : cl = true ↔ FenP ps pl i := hcl
  refine bB_dec (fun h => ?_) (fun h => ?_)
  · have hilt : i < ps.length := by
      have h : (i : Int) < ((ps.map Prc.enc).length : Int) := h
      rw [List.length_map] at h
      omega
    have hpr := List.getElem?_eq_getElem hilt
    have hg : getZ (ps.map Prc.enc) (i : Nat) = some (ps[i].enc) := by rw [getZ_nat, List.getElem?_map, hpr]; rfl
    generalize ps[i] = pr at hpr hg
    have hfs := FenP.succ (pl := pl) hpr
    obtain ⟨live, fenced, code, slots⟩ := pr
    have hfs : FenP ps pl (i + 1) ↔ FenP ps pl i ∧ ((i : Int) ∈ pl → live = true ∧ fenced = true) := hfs
    have hos := oth_succ pl i
    have hol := oth_len pl i
    refine ok_some (x := [.val (.bool live), .val (.bool fenced), .val (.int .i64 code), sl3D slots]) hg ?_
    refine has_ok pl (by omega) (i : Nat) ?_
    by_cases hm : (i : Int) ∈ pl
    · rw [decide_eq_true hm]
      rw [if_pos hm, List.append_nil] at hos
      have hJ : (cl && (live && fenced)) = true ↔ FenP ps pl (i + 1) := by
        rw [hfs, ← hcl, Bool.and_eq_true, Bool.and_eq_true]
        exact ⟨fun h => ⟨h.1, fun _ => h.2⟩, fun h => ⟨h.1, h.2 hm⟩⟩
      cases cl <;> cases live <;> cases fenced
      all_goals
        refine ⟨⟨i + 1, _⟩, ⟨hilt, hJ⟩, (show ps.length - (i + 1) < ps.length - i by omega), View.of 4 [0, 1, 2] [] rfl rfl rfl rfl rfl rfl ?_ ?_⟩
        · repeat (first | exact .nil | refine .junk ?_ | refine .put (.ren (next_i64 (by omega)).symm) ?_ | refine .eq rfl ?_)
        · exact .put (notF rfl) rfl (.eq rfl (by simp [kB])) (.put (notF rfl) rfl (.eq (mapN_ren _) (by simp)) (.put (notF rfl) rfl (.rowDE (by rw [hos])) (.nil _)))
    · rw [decide_eq_false hm]
      rw [if_neg hm] at hos
      refine ⟨by have e := dRows_len ((oth pl i).map nI); rw [List.length_map] at e; simp only [subL, List.length_cons, List.length_nil]; omega, ?_⟩
      refine ⟨⟨i + 1, cl⟩, ⟨hilt, by rw [hfs, ← hcl]; exact ⟨fun h => ⟨h, fun h => absurd h hm⟩, fun h => h.1⟩⟩, (show ps.length - (i + 1) < ps.length - i by omega), View.of 6 [0, 1, 5] [] rfl rfl rfl rfl rfl rfl ?_ ?_⟩
      · repeat (first | exact .nil | refine .junk ?_ | refine .put (.ren (next_i64 (by omega)).symm) ?_ | refine .eq rfl ?_)
      · exact .put (notF rfl) rfl (.eq rfl (by simp [kB])) (.put (notF rfl) rfl (.eq (mapN_ren _) (by simp)) (.put (notF rfl) rfl (.rowDE (by rw [hos]; simp [subL, dRows, nI])) (.nil _)))
  · have hie : i = ps.length := by
      have h : ¬ (i : Int) < ((ps.map Prc.enc).length : Int) := h
      rw [List.length_map] at h
      omega
    subst hie
    have hol := oth_len pl ps.length
    refine acall_pre (args' := [kernV l op ps, natsV (oth pl ps.length)]) (m' := [kB l op ps, .mp (L.map entN), .dead]) (View.of 3 [0, 1, 2] [2] rfl rfl rfl rfl rfl rfl (.eq rfl (.put (.rv (.one (.frz (FrzD.rowD (Z := fun k => memN [2] k = true) (ds := (oth pl ps.length).map nI) rfl rfl 0 none)))) .nil))
      (.put (notF rfl) rfl (.eq rfl (by simp [kB])) (.put (notF rfl) rfl (.eq (mapN_ren _) (by simp)) (.dead (.nil _))))) ?_
    rw [natsV_eq]
    refine rreach_ok l op ps (nZ (oth pl ps.length)) hz.hl hz.hen hz.hsz (by unfold nZ; rw [List.length_map]; omega) hz.hps fun L' hL' => ?_
    have key : CLd l op ps pl ↔ FenP ps pl ps.length ∧ ∀ n, n ∈ L' → n ∉ L :=
      ⟨fun h => ⟨h.1, h.2 L L' hL hL'⟩, fun h => ⟨h.1, fun L2 L3 h2 h3 n hn hm => h.2 n ((h3.same hL' n).1 hn) ((h2.same hL n).1 hm)⟩⟩
    refine ok_some (plain_ent L') ?_
    refine loop_keep (fun a : StI => (a.cl = false → ¬ CLd l op ps pl) ∧ (a.cl = true → FenP ps pl ps.length ∧ ∀ n, n ∈ L' → n ∈ a.left ∨ n ∉ L) ∧ ∀ n, n ∈ a.left → n ∈ L') [1, 5, 6, 81] (fun a => [(10, vBool a.cl)]) (fun a => [kB l op ps, .mp (L.map entN), .dead, .dead, .it a.cur (a.left.map pE)]) (fun a => a.left.length) ⟨cl, L', []⟩
      ⟨fun h hc => (by have := hcl.2 (key.1 hc).1; have h : cl = false := h; rw [h] at this; cases this), fun h => ⟨hcl.1 h, fun n hn => .inl hn⟩, fun n hn => hn⟩ ?_ (fun a ha => ?_)
    · refine View.of 5 [0, 1, 2, 3, 4] [] rfl rfl rfl rfl rfl rfl ?_ ?_
      · repeat (first | exact .nil | refine .junk ?_ | refine .eq rfl ?_)
      · exact .put (notF rfl) rfl (.eq rfl (by simp [kB])) (.put (notF rfl) rfl (.eq (mapN_ren _) (by simp)) (.dead (.dead (.put (notF rfl) rfl (.it _ _) (.nil _)))))
    obtain ⟨cl2, left, cur⟩ := a
    obtain ⟨j1, j2, j3⟩ := ha
    have j1 : cl2 = false → ¬ CLd l op ps pl := j1
    have j2 : cl2 = true → FenP ps pl ps.length ∧ ∀ n, n ∈ L' → n ∈ left ∨ n ∉ L := j2
    have j3 : ∀ n, n ∈ left → n ∈ L' := j3
    refine ⟨fun h => ?_, fun i k v left' h1 h2 => ?_⟩
    · have h0 : left = [] := by simpa using h
      subst h0
      refine closed_ok l op ps pl hz hpn (by omega) fun b2 hb2 => ?_
      show vBool (b2 == cl2) = vBool true
      have : b2 = cl2 := by
        cases cl2 with
        | true =>
          obtain ⟨k1, k2⟩ := j2 rfl
          exact hb2.2 (key.2 ⟨k1, fun n hn => (k2 n hn).elim (fun h => by simp at h) id⟩)
        | false =>
          cases b2 with
          | false => rfl
          | true => exact absurd (hb2.1 rfl) (j1 rfl)
      rw [this]; simp
    · rw [List.getElem?_map] at h1
      obtain ⟨n, hn, hkv⟩ := Option.map_eq_some_iff.1 h1
      cases hkv
      have hle : left.eraseIdx i = left.eraseIdx i := rfl
      have hlt : (left.eraseIdx i).length < left.length := by
        have hi2 : i < left.length := (List.getElem?_eq_some_iff.1 hn).1
        rw [List.length_eraseIdx, if_pos hi2]
        exact Nat.sub_lt (Nat.lt_of_le_of_lt (Nat.zero_le _) hi2) Nat.one_pos
      have he : left' = (left.eraseIdx i).map pE := by rw [h2]; exact (Go.ChangeMaps.map_eraseIdx pE left i).symm
      subst he
      have hnL : n ∈ L' := j3 n (List.mem_of_getElem? hn)
      have hin : ∀ x, x ∈ left → x ∈ left.eraseIdx i ∨ x = n := fun x hx => by
        by_cases hxn : x = n
        · exact .inr hxn
        · left
          obtain ⟨p, hp⟩ := List.getElem?_of_mem hx
          rw [List.mem_iff_getElem?]
          have hpi : p ≠ i := fun e => by subst e; rw [hn] at hp; cases hp; exact hxn rfl
          rcases Nat.lt_or_ge p i with h | h
          · exact ⟨p, by rw [List.getElem?_eraseIdx, if_pos h]; exact hp⟩
          · have hq : ¬ p - 1 < i := by omega
            exact ⟨p - 1, by rw [List.getElem?_eraseIdx, if_neg hq, show p - 1 + 1 = p by omega]; exact hp⟩
      have j3' : ∀ x, x ∈ left.eraseIdx i → x ∈ L' := fun x hx => j3 x (List.mem_of_mem_eraseIdx hx)
      cases cl2 with
      | false =>
        refine ⟨⟨false, left.eraseIdx i, [pE n]⟩, ⟨fun _ => j1 rfl, (fun h => by cases h), j3'⟩, hlt, View.of 5 [0, 1, 2, 3, 4] [] rfl rfl rfl rfl rfl rfl ?_ ?_⟩
        · repeat (first | exact .nil | refine .junk ?_ | refine .eq rfl ?_)
        · exact .put (notF rfl) rfl (.eq rfl (by simp [kB])) (.put (notF rfl) rfl (.eq (mapN_ren _) (by simp)) (.dead (.dead (.put (notF rfl) rfl (.it _ _) (.nil _)))))
      | true =>
        obtain ⟨k1, k2⟩ := j2 rfl
        refine ok_some (mFind_N (n : Nat) L) ?_
        cases hN : inN L (n : Int) with
        | true =>
          refine ⟨⟨false, left.eraseIdx i, [pE n]⟩, ⟨fun _ hc => (key.1 hc).2 n hnL (inN_iff.1 hN), (fun h => by cases h), j3'⟩, hlt, View.of 5 [0, 1, 2, 3, 4] [] rfl rfl rfl rfl rfl rfl ?_ ?_⟩
          · repeat (first | exact .nil | refine .junk ?_ | refine .eq rfl ?_)
          · exact .put (notF rfl) rfl (.eq rfl (by simp [kB])) (.put (notF rfl) rfl (.eq (mapN_ren _) (by simp)) (.dead (.dead (.put (notF rfl) rfl (.it _ _) (.nil _)))))
        | false =>
          have hnn : n ∉ L := fun h => by rw [inN_iff.2 h] at hN; cases hN
          refine ⟨⟨true, left.eraseIdx i, [pE n]⟩, ⟨(fun h => by cases h), fun _ => ⟨k1, fun x hx => by
            rcases k2 x hx with h | h
            · rcases hin x h with h | h
              · exact .inl h
              · subst h; exact .inr hnn
            · exact .inr h⟩, j3'⟩, hlt, View.of 5 [0, 1, 2, 3, 4] [] rfl rfl rfl rfl rfl rfl ?_ ?_⟩
          · repeat (first | exact .nil | refine .junk ?_ | refine .eq rfl ?_)
          · exact .put (notF rfl) rfl (.eq rfl (by simp [kB])) (.put (notF rfl) rfl (.eq (mapN_ren _) (by simp)) (.dead (.dead (.put (notF rfl) rfl (.it _ _) (.nil _)))))
set_option maxRecDepth 100000 in
theorem ftells_ok (b : List Int) (hb : BYb b) (pl : List Int) (hpl : pl.length ≤ 1048576) : ACall Try.prog 3 [.rv (.one (.dat (.sl 1 (byD b)))), intsV pl] [] (fun r m => r = vBool true) :=
  acall_body Try.func3 l3 rfl (Nat.le_of_ble_eq_true rfl) (ftells_body b hb pl hpl)
end Fe


end Go.Proofs.Ytbemknkbegkflaa
