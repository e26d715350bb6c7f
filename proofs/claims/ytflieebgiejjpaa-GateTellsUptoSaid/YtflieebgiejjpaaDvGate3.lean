import Derived.Test.YtflieebgiejjpaaAmZ2
import Derived.Test.YtflieebgiejjpaaDvGate2
import Derived.Test.YtflieebgiejjpaaAmY
set_option linter.unusedVariables false
set_option linter.unusedSimpArgs false
namespace Go.Proofs.Ytflieebgiejjpaa
open Go.AM Go.ChangeShapes Go.WideShapes Go.ChangeAt Go.RowKit
def c3 : LF := ⟨25, [.tmp 4], (.seq (.reg [
    ⟨(some 3), .box (.t 1), none⟩,
    ⟨(some 4), .mov (.c (.rv (.one (.dat (.val (.bool false)))))), none⟩]) (.seq (.draw [
    ⟨(some 5), .mov (.t 0), none⟩,
    ⟨(some 6), .call (.c (.rv (.one (.fn 15 [])))) [(.t 5)], none⟩,
    ⟨(some 7), .mov (.t 0), none⟩,
    ⟨(some 8), .call (.c (.rv (.one (.fn 16 [])))) [(.t 7)], none⟩,
    ⟨(some 9), .eqa false [.i, .i] (.t 6) (.t 8), none⟩,
    ⟨(some 10), .mov (.t 9), none⟩,
    ⟨(some 11), .mov (.t 0), (some (10, true))⟩,
    ⟨(some 12), .call (.c (.rv (.one (.fn 16 [])))) [(.t 11)], (some (10, true))⟩,
    ⟨(some 13), .fld false 0 1 (.t 12), (some (10, true))⟩,
    ⟨(some 14), .bin .neq (.t 13) (.c (.rv (.one (.dat (.val (.int .i64 (0))))))), (some (10, true))⟩,
    ⟨(some 15), .mov (.t 14), (some (10, true))⟩,
    ⟨(some 16), .mov (.t 0), (some (15, false))⟩,
    ⟨(some 17), .load true 6 (.t 3), (some (15, false))⟩,
    ⟨(some 18), .call (.c (.rv (.one (.fn 17 [])))) [(.t 16), (.t 17)], (some (15, false))⟩,
    ⟨(some 19), .mov (.t 0), (some (15, false))⟩,
    ⟨(some 20), .load true 6 (.t 3), (some (15, false))⟩,
    ⟨(some 21), .call (.c (.rv (.one (.fn 18 [])))) [(.t 19), (.t 20)], (some (15, false))⟩,
    ⟨(some 22), .beq false (.t 18) (.t 21), (some (15, false))⟩,
    ⟨(some 23), .pick (.t 15) (.c (.rv (.one (.dat (.val (.bool true)))))) (.t 22), (some (10, true))⟩,
    ⟨(some 24), .pick (.t 10) (.t 23) (.c (.rv (.one (.dat (.val (.bool false)))))), none⟩,
    ⟨(some 4), .mov (.t 24), none⟩]
    [[(0, none), (2, none), (1, (some [])), (3, (some [])), (4, none), (5, none), (6, none), (7, (some [])), (8, none), (9, none), (10, none), (11, none), (12, none), (14, none), (15, none), (13, (some [15])), (16, (some [])), (17, none), (18, none), (19, none), (20, none)]]) .ret))⟩
def c17 : LF := ⟨21, [.tmp 4], (.seq (.reg [
    ⟨(some 3), .box (.t 1), none⟩,
    ⟨(some 4), .mov (.c (.rv (.one (.dat (.val (.bool false)))))), none⟩]) (.seq (.reg [
    ⟨(some 6), .mov (.t 0), none⟩,
    ⟨(some 7), .fn 68 [(.t 3)], none⟩,
    ⟨(some 8), .call (.c (.rv (.one (.fn 67 [])))) [(.t 6), (.t 7)], none⟩,
    ⟨(some 5), .mov (.t 8), none⟩]) (.seq (.reg [
    ⟨(some 9), .mov (.t 5), none⟩,
    ⟨(some 10), .bin .geq (.t 9) (.c (.rv (.one (.dat (.val (.int .i64 (0))))))), none⟩,
    ⟨(some 11), .mov (.t 10), none⟩,
    ⟨(some 12), .mov (.t 0), (some (11, true))⟩,
    ⟨(some 13), .mov (.t 5), (some (11, true))⟩,
    ⟨(some 14), .idx 2 (.t 12) (.t 13), (some (11, true))⟩,
    ⟨(some 15), .fadr 1 (.t 14), (some (11, true))⟩,
    ⟨(some 16), .load false 1 (.t 15), (some (11, true))⟩,
    ⟨(some 17), .fn 69 [(.t 3)], (some (11, true))⟩,
    ⟨(some 18), .call (.c (.rv (.one (.fn 64 [])))) [(.t 16), (.t 17)], (some (11, true))⟩,
    ⟨(some 19), .un .not (.t 18), (some (11, true))⟩,
    ⟨(some 20), .pick (.t 11) (.t 19) (.c (.rv (.one (.dat (.val (.bool false)))))), none⟩,
    ⟨(some 4), .mov (.t 20), none⟩]) .ret)))⟩
def c18 : LF := ⟨37, [.tmp 4], (.seq (.reg [
    ⟨(some 3), .box (.t 1), none⟩,
    ⟨(some 4), .mov (.c (.rv (.one (.dat (.val (.bool false)))))), none⟩]) (.seq (.seq (.reg [
    ⟨(some 9), .mov (.t 0), none⟩,
    ⟨(some 10), .len 1 (.t 9), none⟩,
    ⟨(some 11), .mov (.c (.rv (.one (.dat (.val (.int .i64 (0))))))), none⟩]) (.block 0 (.loop (.seq (.reg [
    ⟨(some 12), .bin .lss (.t 11) (.t 10), none⟩]) (.seq (.cond (.t 12) .skip (.exit 0)) (.seq (.block 1 (.seq (.reg [
    ⟨(some 13), .idx 2 (.t 9) (.t 11), none⟩,
    ⟨(some 14), .load true 2 (.t 13), none⟩,
    ⟨(some 6), .alloc [(.dat (.val (.int .i64 (0)))), .esl], none⟩,
    ⟨none, .store 2 (.t 6) (.t 14), none⟩]) (.seq (.seq (.reg [
    ⟨(some 15), .fadr 0 (.t 6), none⟩,
    ⟨(some 16), .load false 1 (.t 15), none⟩,
    ⟨(some 17), .idxa 6 1 (.t 3) (.c (.rv (.one (.dat (.val (.int .i64 (0))))))), none⟩,
    ⟨(some 18), .load false 1 (.t 17), none⟩,
    ⟨(some 19), .bin .neq (.t 16) (.t 18), none⟩]) (.cond (.t 19) (.exit 1) .skip)) (.seq (.seq (.reg [
    ⟨(some 20), .fadr 1 (.t 6), none⟩,
    ⟨(some 21), .load false 1 (.t 20), none⟩,
    ⟨(some 22), .len 1 (.t 21), none⟩,
    ⟨(some 23), .mov (.c (.rv (.one (.dat (.val (.int .i64 (0))))))), none⟩]) (.block 2 (.loop (.seq (.reg [
    ⟨(some 24), .bin .lss (.t 23) (.t 22), none⟩]) (.seq (.cond (.t 24) .skip (.exit 2)) (.seq (.block 3 (.seq (.reg [
    ⟨(some 25), .idx 2 (.t 21) (.t 23), none⟩,
    ⟨(some 26), .load true 2 (.t 25), none⟩,
    ⟨(some 8), .alloc [(.dat (.val (.int .i64 (0)))), (.dat (.val (.int .i64 (0))))], none⟩,
    ⟨none, .store 2 (.t 8) (.t 26), none⟩]) (.seq (.draw [
    ⟨(some 27), .fadr 0 (.t 8), none⟩,
    ⟨(some 28), .load false 1 (.t 27), none⟩,
    ⟨(some 29), .idxa 6 1 (.t 3) (.t 28), none⟩,
    ⟨(some 30), .load false 1 (.t 29), none⟩,
    ⟨(some 31), .fadr 1 (.t 8), none⟩,
    ⟨(some 32), .load false 1 (.t 31), none⟩,
    ⟨(some 33), .bin .and (.t 30) (.t 32), none⟩,
    ⟨(some 34), .bin .neq (.t 33) (.c (.rv (.one (.dat (.val (.int .i64 (0))))))), none⟩]
    [[(0, none), (1, none), (2, none), (3, none), (4, none), (5, none), (6, none), (7, none)]]) (.cond (.t 34) (.seq (.reg [
    ⟨(some 4), .mov (.c (.rv (.one (.dat (.val (.bool false)))))), none⟩]) .ret) .skip)))) (.reg [
    ⟨(some 35), .bin .add (.t 23) (.c (.rv (.one (.dat (.val (.int .i64 (1))))))), none⟩,
    ⟨(some 23), .mov (.t 35), none⟩]))))))) (.seq (.reg [
    ⟨(some 4), .mov (.c (.rv (.one (.dat (.val (.bool true)))))), none⟩]) .ret))))) (.reg [
    ⟨(some 36), .bin .add (.t 11) (.c (.rv (.one (.dat (.val (.int .i64 (1))))))), none⟩,
    ⟨(some 11), .mov (.t 36), none⟩]))))))) (.seq (.reg [
    ⟨(some 4), .mov (.c (.rv (.one (.dat (.val (.bool false)))))), none⟩]) .ret)))⟩
/-! Allows -/
def allowS (l : List Pol) (r : Rec) : Bool := match l.find? (fun p => p.call == r.r0) with | some p => !p.masks.any (hit r) | none => false
theorem l17 : lowF Try.prog Try.f17 = some c17 := by kernel_rfl
theorem l18 : lowF Try.prog Try.f18 = some c18 := by kernel_rfl
def okW (l : List Pol) : Prop := ∀ p, p ∈ l → ∀ s, s ∈ p.masks → 0 ≤ s.w ∧ s.w < 6
theorem wrong_ok_of {l : List Pol} (h : (wrongS l).1 = 0) : l.length ≤ 30 ∧ okW l := by
  unfold wrongS at h
  split at h
  · simp at h
  · rename_i h0
    refine ⟨by omega, ?_⟩
    have hall : ∀ j, j < l.length → wrongAt l j = 0 := by
      intro j
      induction j using Nat.strongRecOn with
      | _ j ih =>
        intro hj
        by_cases hw : wrongAt l j = 0
        · exact hw
        · rw [firstE_bad l.length 0 j (by omega) (by omega) (fun i _ hi => ih i hi (by omega)) hw] at h
          exact absurd h hw
    intro p hp s hs
    obtain ⟨j, hj⟩ := List.getElem?_of_mem hp
    have hw := hall j (List.getElem?_eq_some_iff.1 hj).1
    rw [wrongAt, hj] at hw
    simp only [wrong1] at hw
    have hnb : badM s = false := by
      cases hb : badM s with
      | false => rfl
      | true =>
        have : p.masks.any badM = true := List.any_eq_true.2 ⟨s, hs, hb⟩
        rw [this] at hw
        split at hw
        · simp at hw
        · split at hw
          · simp at hw
          · split at hw <;> simp at hw
    simp only [badM, Bool.or_eq_false_iff, decide_eq_false_iff_not] at hnb
    omega
set_option maxRecDepth 100000 in
set_option maxHeartbeats 8000000 in
theorem allows_body (l : List Pol) (r : Rec) (hl : l.length ≤ 30) (hw : okW l) (hm : ∀ p, p ∈ l → p.masks.length ≤ 4194304) : body Try.prog c17 [polsV l, r.cv] [] (fun x m => x = vBool (allowS l r)) := by
  refine idx67B_ok l (by omega) 68 r.enc (fun p => p.call == r.r0) (fun s _ K hs => clo68 r s K hs) ?_
  cases hk : l.findIdx? (fun p => p.call == r.r0) with
  | none =>
    have hi : idxG (fun p : Pol => p.call == r.r0) l = -1 := by rw [idxG, hk]
    rw [hi]
    have : allowS l r = false := by
      rw [List.findIdx?_eq_none_iff] at hk
      have : l.find? (fun p => p.call == r.r0) = none := List.find?_eq_none.2 fun x hx => by simpa using hk x hx
      rw [allowS, this]
    rw [this]
    exact rfl
  | some k =>
    have hi : idxG (fun p : Pol => p.call == r.r0) l = (k : Int) := by rw [idxG, hk]
    rw [hi]
    obtain ⟨h1, h2, h3⟩ := List.findIdx?_eq_some_iff_getElem.1 hk
    have ha : allowS l r = !l[k].masks.any (hit r) := by
      have : l.find? (fun p => p.call == r.r0) = some l[k] := by
        rw [List.find?_eq_some_iff_getElem]
        exact ⟨h2, k, h1, rfl, fun j hj => by simpa using h3 j hj⟩
      rw [allowS, this]
    rw [ha]
    have hwk := hw _ (List.getElem_mem h1)
    have hmk := hm _ (List.getElem_mem h1)
    have hg : getZ (l.map Pol.enc) (k : Nat) = some [.val (.int .i64 l[k].call), .sl 2 (l[k].masks.map Msk.enc)] := by
      rw [getZ_nat, List.getElem?_map, List.getElem?_eq_getElem h1]; rfl
    generalize l[k] = p at hwk hg hmk
    refine ok_some hg ?_
    refine any64B_ok p.masks hmk 69 r.enc (hit r) (fun s hs K hK => clo69 r s (hwk s hs).1 (hwk s hs).2 K hK) _ ?_
    exact rfl
set_option maxRecDepth 100000 in
theorem allows_ok (l : List Pol) (r : Rec) (hl : l.length ≤ 30) (hw : okW l) (hm : ∀ p, p ∈ l → p.masks.length ≤ 4194304) {m : Mem} {K : CV → Mem → Prop} (h : K (vBool (allowS l r)) m) : ACall Try.prog 17 [polsV l, r.cv] m K :=
  acall_val Try.func17 l17 rfl (Nat.le_of_ble_eq_true rfl) (allows_body l r hl hw hm) rfl rfl h
theorem find_first {l : List Pol} {r : Rec} {k : Nat} (h : k < l.length) (hq : l[k].call = r.r0) (hb : ∀ (j : Nat) s, j < k → l[j]? = some s → s.call ≠ r.r0) : allowS l r = !l[k].masks.any (hit r) := by
  have : l.find? (fun p => p.call == r.r0) = some l[k] := by
    rw [List.find?_eq_some_iff_getElem]
    exact ⟨by simpa using hq, k, h, rfl, fun j hj => by simpa using hb j _ hj (List.getElem?_eq_getElem (by omega))⟩
  rw [allowS, this]
set_option maxRecDepth 100000 in
set_option maxHeartbeats 8000000 in
theorem rallows_body (l : List Pol) (r : Rec) (hl : l.length ≤ 30) (hw : okW l) (hm : ∀ p, p ∈ l → p.masks.length ≤ 4194304) : body Try.prog c18 [polsV l, r.cv] [] (fun x m => x = vBool (allowS l r)) := by
  refine loop_keep (fun k => k ≤ l.length ∧ ∀ (j : Nat) s, j < k → l[j]? = some s → s.call ≠ r.r0) [0, 3, 9, 10] (fun k => [(11, vInt .i64 (k : Nat))]) (fun _ => [.var (r.enc.map .dat)]) (fun k => l.length - k) 0 ⟨Nat.zero_le _, fun j s h => absurd h (Nat.not_lt_zero j)⟩ ?_ (fun k hk => ?_)
  · refine View.of 1 [0] [] rfl rfl rfl rfl rfl rfl ?_ ?_
    · repeat (first | exact .nil | refine .junk ?_ | refine .eq rfl ?_)
    · exact .put (by simp [memN]) rfl (.eq rfl (by simp)) (.nil _)
  · refine bB_dec (fun h => ?_) (fun h => ?_)
    · have hlt : k < l.length := by
        have h : (k : Int) < ((l.map Pol.enc).length : Int) := h
        rw [List.length_map] at h
        omega
      have hff : l[k].call = r.r0 → allowS l r = !l[k].masks.any (hit r) := fun h => find_first hlt h hk.2
      have hwk := hw _ (List.getElem_mem hlt)
      have hmk := hm _ (List.getElem_mem hlt)
      have hi := List.getElem?_eq_getElem hlt
      have hg : getZ (l.map Pol.enc) (k : Nat) = some [.val (.int .i64 l[k].call), .sl 2 (l[k].masks.map Msk.enc)] := by
        rw [getZ_nat, List.getElem?_map, List.getElem?_eq_getElem hlt]; rfl
      generalize l[k] = p at hff hwk hmk hi hg
      obtain ⟨call, masks⟩ := p
      refine ok_some hg ?_
      refine bB_bne (fun hne => ?_) (fun hc => ?_)
      · refine ⟨k + 1, ⟨hlt, fun j s hj hs => ?_⟩, (show l.length - (k + 1) < l.length - k by omega), View.of 2 [0] [] rfl rfl rfl rfl rfl rfl ?_ ?_⟩
        · rcases Nat.lt_or_ge j k with h5 | h5
          · exact hk.2 j s h5 hs
          · have : j = k := by omega
            subst this
            rw [hi] at hs
            cases hs
            exact hne
        · repeat (first | exact .nil | refine .junk ?_ | refine .put (.ren (next_i64 (by omega)).symm) ?_ | refine .eq rfl ?_)
        · exact .put (by simp [memN]) rfl (.eq rfl (by simp)) (.nil _)
      · have ha : allowS l r = !masks.any (hit r) := hff hc
        rw [ha]
        have hmk : masks.length ≤ 4194304 := hmk
        refine loop_keep (fun j => j ≤ masks.length ∧ ∀ (i : Nat) s, i < j → masks[i]? = some s → hit r s = false) [3, 21, 22] (fun j => [(23, vInt .i64 (j : Nat))]) (fun _ => [.var (r.enc.map .dat)]) (fun j => masks.length - j) 0 ⟨Nat.zero_le _, fun j s h => absurd h (Nat.not_lt_zero j)⟩ ?_ (fun j hj => ?_)
        · refine View.of 2 [0] [] rfl rfl rfl rfl rfl rfl ?_ ?_
          · repeat (first | exact .nil | refine .junk ?_ | refine .eq rfl ?_)
          · exact .put (by simp [memN]) rfl (.eq rfl (by simp)) (.nil _)
        · refine bB_dec (fun h => ?_) (fun h => ?_)
          · have hjlt : j < masks.length := by
              have h : (j : Int) < ((masks.map Msk.enc).length : Int) := h
              rw [List.length_map] at h
              omega
            have hmi := List.getElem?_eq_getElem hjlt
            have hws := hwk masks[j] (List.getElem_mem hjlt)
            generalize masks[j] = s at hmi hws
            obtain ⟨w, bits⟩ := s
            obtain ⟨n, rfl⟩ : ∃ n : Nat, w = n := ⟨w.toNat, by simp at hws; omega⟩
            have hn : n < 6 := by simp at hws; omega
            have hg2 : getZ (masks.map Msk.enc) (j : Nat) = some [.val (.int .i64 n), .val (.int .i64 bits)] := by
              rw [getZ_nat, List.getElem?_map, hmi]; rfl
            refine ok_some hg2 ?_
            refine ok_some (idxZ_nat hn) ?_
            refine ok_some (r.read hn) ?_
            refine bB_split (fun h => ?_) (fun hnh => ?_)
            · have : masks.any (hit r) = true := List.any_eq_true.2 ⟨_, List.mem_of_getElem? hmi, h⟩
              rw [this]
              exact rfl
            · refine ⟨j + 1, ⟨hjlt, fun i s hij hs => ?_⟩, (show masks.length - (j + 1) < masks.length - j by omega), View.of 2 [0] [] rfl rfl rfl rfl rfl rfl ?_ ?_⟩
              · rcases Nat.lt_or_ge i j with h5 | h5
                · exact hj.2 i s h5 hs
                · have : i = j := by omega
                  subst this
                  rw [hmi] at hs
                  cases hs
                  exact hnh
              · repeat (first | exact .nil | refine .junk ?_ | refine .put (.ren (next_i64 (by omega)).symm) ?_ | refine .eq rfl ?_)
              · exact .put (by simp [memN]) rfl (.eq rfl (by simp)) (.nil _)
          · have hge : ¬ (j : Int) < ((masks.map Msk.enc).length : Int) := h
            rw [List.length_map] at hge
            have : masks.any (hit r) = false := by
              cases hb : masks.any (hit r) with
              | false => rfl
              | true =>
                obtain ⟨s, hs, hb⟩ := List.any_eq_true.1 hb
                obtain ⟨i, hi⟩ := List.getElem?_of_mem hs
                have := (List.getElem?_eq_some_iff.1 hi).1
                rw [hj.2 i s (by omega) hi] at hb
                cases hb
            rw [this]
            exact rfl
    · have hge : ¬ (k : Int) < ((l.map Pol.enc).length : Int) := h
      rw [List.length_map] at hge
      have : allowS l r = false := by
        have : l.find? (fun p => p.call == r.r0) = none := List.find?_eq_none.2 fun x hx => by
          obtain ⟨i, hi⟩ := List.getElem?_of_mem hx
          have := (List.getElem?_eq_some_iff.1 hi).1
          simpa using hk.2 i x (by omega) hi
        rw [allowS, this]
      rw [this]
      exact rfl
set_option maxRecDepth 100000 in
theorem rallows_ok (l : List Pol) (r : Rec) (hl : l.length ≤ 30) (hw : okW l) (hm : ∀ p, p ∈ l → p.masks.length ≤ 4194304) {m : Mem} {K : CV → Mem → Prop} (h : K (vBool (allowS l r)) m) : ACall Try.prog 18 [polsV l, r.cv] m K :=
  acall_val Try.func18 l18 rfl (Nat.le_of_ble_eq_true rfl) (rallows_body l r hl hw hm) rfl rfl h
/-! the law -/
theorem l3 : lowF Try.prog Try.f3 = some c3 := by kernel_rfl
theorem flt_eq (x : Int × Int) : (x.1 == x.1 && (x.2 == x.2 && true)) = true := by simp
set_option maxRecDepth 100000 in
set_option maxHeartbeats 8000000 in
theorem gtells_body (l : List Pol) (r : Rec) (hm : ∀ p, p ∈ l → p.masks.length ≤ 4194304) : body Try.prog c3 [polsV l, r.cv] [] (fun x m => x = vBool true) := by
  refine wrong_ok l ?_
  refine ⟨trivial, ?_⟩
  refine rwrong_ok l ?_
  refine ⟨trivial, ?_⟩
  refine bB_yes (flt_eq (wrongS l)) ?_
  refine rwrong_ok l ?_
  refine ⟨trivial, ?_⟩
  refine bB_bne (fun h => ?_) (fun h => ?_)
  · exact ⟨⟨rfl, trivial⟩, trivial, rfl⟩
  · obtain ⟨hl, hw⟩ := wrong_ok_of h
    refine allows_ok l r hl hw hm ?_
    refine ⟨⟨rfl, trivial⟩, ?_⟩
    refine rallows_ok l r hl hw hm ?_
    refine ⟨trivial, ?_⟩
    show vBool _ = vBool _
    refine congrArg vBool ?_
    simp
set_option maxRecDepth 100000 in
theorem gtells_ok (l : List Pol) (r : Rec) (hm : ∀ p, p ∈ l → p.masks.length ≤ 4194304) : ACall Try.prog 3 [polsV l, r.cv] [] (fun x m => x = vBool true) :=
  acall_body Try.func3 l3 rfl (Nat.le_of_ble_eq_true rfl) (gtells_body l r hm)
end Go.Proofs.Ytflieebgiejjpaa
