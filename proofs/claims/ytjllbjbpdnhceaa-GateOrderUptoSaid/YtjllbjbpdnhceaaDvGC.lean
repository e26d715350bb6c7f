import Derived.Test.YtjllbjbpdnhceaaAmZ2
import Derived.Test.YtjllbjbpdnhceaaDvGB
import Derived.Test.YtjllbjbpdnhceaaAmY
import Derived.Test.YtjllbjbpdnhceaaDvGA
set_option linter.unusedVariables false
set_option linter.unusedSimpArgs false
namespace Go.Proofs.Ytjllbjbpdnhceaa
open Go.AM Go.ChangeShapes Go.WideShapes Go.ChangeAt Go.RowKit
set_option maxRecDepth 100000 in
set_option maxHeartbeats 16000000 in
theorem r39_4 {p : List Ins} {k : Nat} (hlt : k < p.length) (h400 : p.length ≤ 400) {jt jf ik : Int} (hg : getZ (p.map Ins.enc) (k : Nat) = some [.val (.int .i64 4), .val (.int .i64 jt), .val (.int .i64 jf), .val (.int .i64 ik)])
    (bad : ∀ e, insE ⟨4, jt, jf, ik⟩ k p.length = e → e ≠ 0 → fltV (e, (k : Int)) = fltV (checkS p)) (good : insE ⟨4, jt, jf, ik⟩ k p.length = 0 → J39 p (k + 1)) : Round39 p k := by
  obtain ⟨L, hL⟩ : ∃ L : Int, L = (p.length : Int) - (k : Int) - 2 := ⟨_, rfl⟩
  have hleft := left39 h400 hlt
  rw [← hL] at hleft
  refine bB_yes (lt39 hlt) ?_
  refine ok_some hg ?_
  refine ghost_keep [2, 3, 4, 5, 18, 19, 20] [(6, vInt .i64 L), (0, insV p)] [.var [.dat (.val (.int .i64 0)), .dat (.val (.int .i64 0))], .var [.dat (.val (.int .i64 4)), .dat (.val (.int .i64 jt)), .dat (.val (.int .i64 jf)), .dat (.val (.int .i64 ik))]] (View.of 2 [0, 1] [] rfl rfl rfl rfl rfl rfl ?_ ?_) ?_
  · repeat (first | exact .nil | refine .junk ?_ | refine .eq (congrArg (fun x => vInt .i64 x) hleft.symm) ?_ | refine .eq rfl ?_)
  · exact .put (by simp [memN]) rfl (.eq rfl (by simp)) (.put (by simp [memN]) rfl (.eq rfl (by simp)) (.nil _))
  clear hleft
  refine bB_dec (fun h => ?_) (fun h30 => ?_)
  · exact bad 3 (by rw [insE_j _ _ _ _ _ _ (by omega)]; rw [if_pos (by omega)]) (by decide)
  refine bB_dec (fun h => ?_) (fun h31 => ?_)
  · exact bad 3 (by rw [insE_j _ _ _ _ _ _ (by omega)]; rw [if_pos (by omega)]) (by decide)
  refine bB_dec (fun h => ?_) (fun h32 => ?_)
  · exact bad 3 (by rw [insE_j _ _ _ _ _ _ (by omega)]; rw [if_pos (by omega)]) (by decide)
  refine bB_dec (fun h => ?_) (fun h33 => ?_)
  · exact bad 3 (by rw [insE_j _ _ _ _ _ _ (by omega)]; rw [if_pos (by omega)]) (by decide)
  refine bB_dec (fun h => ?_) (fun h34 => ?_)
  · exact bad 3 (by rw [insE_j _ _ _ _ _ _ (by omega)]; rw [if_pos (by omega)]) (by decide)
  refine bB_dec (fun h => ?_) (fun h35 => ?_)
  · exact bad 3 (by rw [insE_j _ _ _ _ _ _ (by omega)]; rw [if_pos (by omega)]) (by decide)
  refine bB_dec (fun h => ?_) (fun h36 => ?_)
  · exact bad 3 (by rw [insE_j _ _ _ _ _ _ (by omega)]; rw [if_pos (by omega)]) (by decide)
  refine bB_dec (fun h => ?_) (fun h37 => ?_)
  · exact bad 3 (by rw [insE_j _ _ _ _ _ _ (by omega)]; rw [if_pos (by omega)]) (by decide)
  refine ⟨k + 1, good (by rw [insE_j _ _ _ _ _ _ (by omega)]; rw [if_neg (by omega)]), (show p.length - (k + 1) < p.length - k by omega), View.of 2 [0] [] rfl rfl rfl rfl rfl rfl ?_ ?_⟩
  · repeat (first | exact .nil | refine .junk ?_ | refine .put (.ren (next_i64 (by omega)).symm) ?_ | refine .eq rfl ?_)
  · exact .put (by simp [memN]) rfl (.eq rfl (by simp)) (.nil _)

set_option maxRecDepth 100000 in
set_option maxHeartbeats 16000000 in
theorem r39_5 {p : List Ins} {k : Nat} (hlt : k < p.length) (h400 : p.length ≤ 400) {jt jf ik : Int} (hg : getZ (p.map Ins.enc) (k : Nat) = some [.val (.int .i64 5), .val (.int .i64 jt), .val (.int .i64 jf), .val (.int .i64 ik)])
    (bad : ∀ e, insE ⟨5, jt, jf, ik⟩ k p.length = e → e ≠ 0 → fltV (e, (k : Int)) = fltV (checkS p)) (good : insE ⟨5, jt, jf, ik⟩ k p.length = 0 → J39 p (k + 1)) : Round39 p k := by
  obtain ⟨L, hL⟩ : ∃ L : Int, L = (p.length : Int) - (k : Int) - 2 := ⟨_, rfl⟩
  have hleft := left39 h400 hlt
  rw [← hL] at hleft
  refine bB_yes (lt39 hlt) ?_
  refine ok_some hg ?_
  refine ghost_keep [2, 3, 4, 5, 18, 19, 20] [(6, vInt .i64 L), (0, insV p)] [.var [.dat (.val (.int .i64 0)), .dat (.val (.int .i64 0))], .var [.dat (.val (.int .i64 5)), .dat (.val (.int .i64 jt)), .dat (.val (.int .i64 jf)), .dat (.val (.int .i64 ik))]] (View.of 2 [0, 1] [] rfl rfl rfl rfl rfl rfl ?_ ?_) ?_
  · repeat (first | exact .nil | refine .junk ?_ | refine .eq (congrArg (fun x => vInt .i64 x) hleft.symm) ?_ | refine .eq rfl ?_)
  · exact .put (by simp [memN]) rfl (.eq rfl (by simp)) (.put (by simp [memN]) rfl (.eq rfl (by simp)) (.nil _))
  clear hleft
  refine bB_dec (fun h => ?_) (fun h38 => ?_)
  · exact bad 3 (by rw [insE_5 _ _ _ _ _ (by omega)]; rw [if_pos (by omega)]) (by decide)
  refine bB_dec (fun h => ?_) (fun h39 => ?_)
  · exact bad 3 (by rw [insE_5 _ _ _ _ _ (by omega)]; rw [if_pos (by omega)]) (by decide)
  refine bB_bne (fun h => ?_) (fun h40 => ?_)
  · exact bad 2 (by rw [insE_5 _ _ _ _ _ (by omega)]; rw [if_neg (by omega), if_pos (by omega)]) (by decide)
  refine bB_bne (fun h => ?_) (fun h41 => ?_)
  · exact bad 2 (by rw [insE_5 _ _ _ _ _ (by omega)]; rw [if_neg (by omega), if_pos (by omega)]) (by decide)
  refine ⟨k + 1, good (by rw [insE_5 _ _ _ _ _ (by omega)]; rw [if_neg (by omega), if_neg (by omega)]), (show p.length - (k + 1) < p.length - k by omega), View.of 2 [0] [] rfl rfl rfl rfl rfl rfl ?_ ?_⟩
  · repeat (first | exact .nil | refine .junk ?_ | refine .put (.ren (next_i64 (by omega)).symm) ?_ | refine .eq rfl ?_)
  · exact .put (by simp [memN]) rfl (.eq rfl (by simp)) (.nil _)

set_option maxRecDepth 100000 in
set_option maxHeartbeats 16000000 in
theorem r39_6 {p : List Ins} {k : Nat} (hlt : k < p.length) (h400 : p.length ≤ 400) {jt jf ik : Int} (hg : getZ (p.map Ins.enc) (k : Nat) = some [.val (.int .i64 6), .val (.int .i64 jt), .val (.int .i64 jf), .val (.int .i64 ik)])
    (bad : ∀ e, insE ⟨6, jt, jf, ik⟩ k p.length = e → e ≠ 0 → fltV (e, (k : Int)) = fltV (checkS p)) (good : insE ⟨6, jt, jf, ik⟩ k p.length = 0 → J39 p (k + 1)) : Round39 p k := by
  obtain ⟨L, hL⟩ : ∃ L : Int, L = (p.length : Int) - (k : Int) - 2 := ⟨_, rfl⟩
  have hleft := left39 h400 hlt
  rw [← hL] at hleft
  refine bB_yes (lt39 hlt) ?_
  refine ok_some hg ?_
  refine ghost_keep [2, 3, 4, 5, 18, 19, 20] [(6, vInt .i64 L), (0, insV p)] [.var [.dat (.val (.int .i64 0)), .dat (.val (.int .i64 0))], .var [.dat (.val (.int .i64 6)), .dat (.val (.int .i64 jt)), .dat (.val (.int .i64 jf)), .dat (.val (.int .i64 ik))]] (View.of 2 [0, 1] [] rfl rfl rfl rfl rfl rfl ?_ ?_) ?_
  · repeat (first | exact .nil | refine .junk ?_ | refine .eq (congrArg (fun x => vInt .i64 x) hleft.symm) ?_ | refine .eq rfl ?_)
  · exact .put (by simp [memN]) rfl (.eq rfl (by simp)) (.put (by simp [memN]) rfl (.eq rfl (by simp)) (.nil _))
  clear hleft
  refine bB_bne (fun hk0 => ?_) (fun hk0 => ?_)
  · refine bB_bne (fun h => ?_) (fun hk1 => ?_)
    · exact bad 3 (by rw [insE_6]; rw [if_pos (by omega)]) (by decide)
    refine bB_bne (fun h => ?_) (fun h42 => ?_)
    · exact bad 2 (by rw [insE_6]; rw [if_neg (by omega), if_pos (by omega)]) (by decide)
    refine bB_bne (fun h => ?_) (fun h43 => ?_)
    · exact bad 2 (by rw [insE_6]; rw [if_neg (by omega), if_pos (by omega)]) (by decide)
    refine ⟨k + 1, good (by rw [insE_6]; rw [if_neg (by omega), if_neg (by omega)]), (show p.length - (k + 1) < p.length - k by omega), View.of 2 [0] [] rfl rfl rfl rfl rfl rfl ?_ ?_⟩
    · repeat (first | exact .nil | refine .junk ?_ | refine .put (.ren (next_i64 (by omega)).symm) ?_ | refine .eq rfl ?_)
    · exact .put (by simp [memN]) rfl (.eq rfl (by simp)) (.nil _)
  · skip
    refine bB_bne (fun h => ?_) (fun h44 => ?_)
    · exact bad 2 (by rw [insE_6]; rw [if_neg (by omega), if_pos (by omega)]) (by decide)
    refine bB_bne (fun h => ?_) (fun h45 => ?_)
    · exact bad 2 (by rw [insE_6]; rw [if_neg (by omega), if_pos (by omega)]) (by decide)
    refine ⟨k + 1, good (by rw [insE_6]; rw [if_neg (by omega), if_neg (by omega)]), (show p.length - (k + 1) < p.length - k by omega), View.of 2 [0] [] rfl rfl rfl rfl rfl rfl ?_ ?_⟩
    · repeat (first | exact .nil | refine .junk ?_ | refine .put (.ren (next_i64 (by omega)).symm) ?_ | refine .eq rfl ?_)
    · exact .put (by simp [memN]) rfl (.eq rfl (by simp)) (.nil _)

set_option maxRecDepth 100000 in
set_option maxHeartbeats 16000000 in
theorem r39_o {p : List Ins} {k : Nat} (hlt : k < p.length) (h400 : p.length ≤ 400) {o jt jf ik : Int} (ho : o < 1 ∨ o > 6) (hg : getZ (p.map Ins.enc) (k : Nat) = some [.val (.int .i64 o), .val (.int .i64 jt), .val (.int .i64 jf), .val (.int .i64 ik)])
    (bad : ∀ e, insE ⟨o, jt, jf, ik⟩ k p.length = e → e ≠ 0 → fltV (e, (k : Int)) = fltV (checkS p)) : Round39 p k := by
  obtain ⟨L, hL⟩ : ∃ L : Int, L = (p.length : Int) - (k : Int) - 2 := ⟨_, rfl⟩
  have hleft := left39 h400 hlt
  rw [← hL] at hleft
  refine bB_yes (lt39 hlt) ?_
  refine ok_some hg ?_
  refine ghost_keep [2, 3, 4, 5, 18, 19, 20] [(6, vInt .i64 L), (0, insV p)] [.var [.dat (.val (.int .i64 0)), .dat (.val (.int .i64 0))], .var [.dat (.val (.int .i64 o)), .dat (.val (.int .i64 jt)), .dat (.val (.int .i64 jf)), .dat (.val (.int .i64 ik))]] (View.of 2 [0, 1] [] rfl rfl rfl rfl rfl rfl ?_ ?_) ?_
  · repeat (first | exact .nil | refine .junk ?_ | refine .eq (congrArg (fun x => vInt .i64 x) hleft.symm) ?_ | refine .eq rfl ?_)
  · exact .put (by simp [memN]) rfl (.eq rfl (by simp)) (.put (by simp [memN]) rfl (.eq rfl (by simp)) (.nil _))
  clear hleft
  have ne : ∀ c : Int, 1 ≤ c → c ≤ 6 → (o == c) = false := fun c h1 h2 => by rw [beq_eq_false_iff_ne]; omega
  refine bB_no (ne 2 (by decide) (by decide)) ?_
  refine bB_no (ne 3 (by decide) (by decide)) ?_
  rcases ho with h | h
  · refine bB_yes (decide_eq_true h) ?_
    exact bad 1 (insE_o _ _ _ _ _ _ (.inl h)) (by decide)
  · refine bB_no (decide_eq_false (by omega)) ?_
    refine bB_yes (decide_eq_true h) ?_
    exact bad 1 (insE_o _ _ _ _ _ _ (.inr h)) (by decide)
theorem round39 {p : List Ins} {k : Nat} (hlt : k < p.length) (h1 : ¬ p.length < 1) (h400 : p.length ≤ 400) (hk : J39 p k) : Round39 p k := by
  have hc : checkS p = if (chkS p.length 0 p).1 ≠ 0 then chkS p.length 0 p else match p[p.length - 1]? with
      | some i => if i.op = 6 then (0, 0) else (2, ((p.length - 1 : Nat) : Int))
      | none => (0, 0) := by
    rw [checkS, if_neg (by omega)]
    first | done | rfl
  have hg : getZ (p.map Ins.enc) (k : Nat) = some (p[k].enc) := by
    rw [getZ_nat, List.getElem?_map, List.getElem?_eq_getElem hlt]; rfl
  have bad : ∀ e, insE p[k] k p.length = e → e ≠ 0 → fltV (e, (k : Int)) = fltV (checkS p) := by
    intro e he h3
    have := chkS_bad p.length p 0 k p[k] (List.getElem?_eq_getElem hlt) (fun j i hj hi => by simpa using hk.2 j i hj hi) (by simpa [he] using h3)
    rw [Nat.zero_add, he] at this
    rw [hc, this, if_pos h3]
  have good : insE p[k] k p.length = 0 → J39 p (k + 1) := by
    intro h3
    refine ⟨hlt, fun j i hj hi => ?_⟩
    rcases Nat.lt_or_ge j k with h5 | h5
    · exact hk.2 j i h5 hi
    · have : j = k := by omega
      subst this
      rw [List.getElem?_eq_getElem hlt] at hi
      cases hi
      exact h3
  generalize p[k] = i at bad good hg
  obtain ⟨o, jt, jf, ik⟩ := i
  by_cases ho : o < 1 ∨ o > 6
  · exact r39_o hlt h400 ho hg bad
  · have ho2 : o = 1 ∨ o = 2 ∨ o = 3 ∨ o = 4 ∨ o = 5 ∨ o = 6 := by omega
    rcases ho2 with rfl | rfl | rfl | rfl | rfl | rfl
    · exact r39_1 hlt h400 hg bad good
    · exact r39_2 hlt h400 hg bad good
    · exact r39_3 hlt h400 hg bad good
    · exact r39_4 hlt h400 hg bad good
    · exact r39_5 hlt h400 hg bad good
    · exact r39_6 hlt h400 hg bad good
set_option maxRecDepth 100000 in
set_option maxHeartbeats 16000000 in
theorem round39_end {p : List Ins} {k : Nat} (hge : ¬ k < p.length) (h1 : ¬ p.length < 1) (h400 : p.length ≤ 400) (hk : J39 p k) : Round39 p k := by
  have hc : checkS p = if (chkS p.length 0 p).1 ≠ 0 then chkS p.length 0 p else match p[p.length - 1]? with
      | some i => if i.op = 6 then (0, 0) else (2, ((p.length - 1 : Nat) : Int))
      | none => (0, 0) := by
    rw [checkS, if_neg (by omega)]
    first | done | rfl
  refine bB_no (decide_eq_false (by rw [List.length_map]; omega)) ?_
  have hall := chkS_ok p.length p 0 fun j i hi => by
    have := (List.getElem?_eq_some_iff.1 hi).1
    simpa using hk.2 j i (by omega) hi
  have hlast : p.length - 1 < p.length := by omega
  rw [hall, if_neg (by simp), List.getElem?_eq_getElem hlast] at hc
  have hw : IntKind.i64.wrap ((((p.map Ins.enc).length : Nat) : Int) - 1) = ((p.length - 1 : Nat) : Int) := by
    rw [List.length_map, wrapI (by omega) (by omega)]; omega
  have hg : getZ (p.map Ins.enc) (IntKind.i64.wrap ((((p.map Ins.enc).length : Nat) : Int) - 1)) = some (p[p.length - 1].enc) := by
    rw [hw, getZ_nat, List.getElem?_map, List.getElem?_eq_getElem hlast]; rfl
  refine ok_some hg ?_
  refine bB_bne (fun h3 => ?_) (fun h3 => ?_)
  · show fltV (2, IntKind.i64.wrap ((((p.map Ins.enc).length : Nat) : Int) - 1)) = _
    rw [hw, hc]
    simp only
    rw [if_neg h3]
  · rw [hc]
    simp only
    rw [if_pos h3]
    exact rfl
set_option maxRecDepth 100000 in
set_option maxHeartbeats 16000000 in
theorem rcheck_body (p : List Ins) : body Try.prog c8 [insV p] [] (fun r m => r = fltV (checkS p)) := by
  refine bB_dec (fun h => ?_) (fun h0 => ?_)
  · have h : p.length < 1 := by
      have h : (((p.map Ins.enc).length : Nat) : Int) < 1 := h
      rw [List.length_map] at h; omega
    rw [checkS, if_pos (.inl h)]; exact rfl
  · refine bB_dec (fun h => ?_) (fun h1 => ?_)
    · have h : p.length > 400 := by
        have h : (((p.map Ins.enc).length : Nat) : Int) > 400 := h
        rw [List.length_map] at h; omega
      rw [checkS, if_pos (.inr h)]; exact rfl
    · have h0 : ¬ p.length < 1 := by
        have h : ¬ (((p.map Ins.enc).length : Nat) : Int) < 1 := h0
        rw [List.length_map] at h; omega
      have h1 : p.length ≤ 400 := by
        have h : ¬ (((p.map Ins.enc).length : Nat) : Int) > 400 := h1
        rw [List.length_map] at h; omega
      refine ⟨Nat, J39 p, S39 p, fun k => p.length - k, ⟨0, ⟨Nat.zero_le _, fun j i h => absurd h (Nat.not_lt_zero j)⟩, ?_⟩, fun k hk => ?_⟩
      · refine View.of 1 [0] [] rfl rfl rfl rfl rfl rfl ?_ ?_
        · repeat (first | exact .nil | refine .junk ?_ | refine .eq rfl ?_)
        · exact .put (by simp [memN]) rfl (.eq rfl (by simp)) (.nil _)
      · by_cases hlt : k < p.length
        · exact round39 hlt h0 h1 hk
        · exact round39_end hlt h0 h1 hk
set_option maxRecDepth 100000 in
theorem rcheck_ok (p : List Ins) {m : Mem} {K : CV → Mem → Prop} (h : K (fltV (checkS p)) m) : ACall Try.prog 8 [insV p] m K :=
  acall_val_g Try.func8 l8 rfl (Nat.le_of_ble_eq_true rfl) (rcheck_body p) rfl rfl h

def c9 : LF := ⟨15, [.tmp 4, .tmp 5], (.seq (.reg [
    ⟨(some 3), .box (.t 1), none⟩,
    ⟨(some 4), .mov (.c (.rv (.one (.dat (.val (.int .i64 (0))))))), none⟩,
    ⟨(some 5), .mov (.c (.rv (.one (.dat (.val (.int .i64 (0))))))), none⟩]) (.seq (.seq (.reg [
    ⟨(some 6), .mov (.t 0), none⟩,
    ⟨(some 7), .call (.c (.rv (.one (.fn 8 [])))) [(.t 6)], none⟩,
    ⟨(some 8), .fld false 0 1 (.t 7), none⟩,
    ⟨(some 9), .bin .neq (.t 8) (.c (.rv (.one (.dat (.val (.int .i64 (0))))))), none⟩]) (.cond (.t 9) (.seq (.reg [
    ⟨(some 4), .mov (.c (.rv (.one (.dat (.val (.int .i64 (0))))))), none⟩,
    ⟨(some 5), .mov (.c (.rv (.one (.dat (.val (.int .i64 (0))))))), none⟩]) .ret) .skip)) (.seq (.reg [
    ⟨(some 10), .mov (.t 0), none⟩,
    ⟨(some 11), .load true 6 (.t 3), none⟩,
    ⟨(some 12), .call (.c (.rv (.one (.fn 22 [])))) [(.t 10), (.t 11), (.c (.rv (.one (.dat (.val (.int .i64 (0)))))))], none⟩,
    ⟨(some 13), .ext (.t 12) 0, none⟩,
    ⟨(some 14), .ext (.t 12) 1, none⟩,
    ⟨(some 4), .mov (.t 13), none⟩,
    ⟨(some 5), .mov (.t 14), none⟩]) .ret)))⟩
def c22 : LF := ⟨84, [.tmp 6, .tmp 7], (.seq (.reg [
    ⟨(some 4), .box (.t 1), none⟩,
    ⟨(some 6), .mov (.c (.rv (.one (.dat (.val (.int .i64 (0))))))), none⟩,
    ⟨(some 7), .mov (.c (.rv (.one (.dat (.val (.int .i64 (0))))))), none⟩]) (.seq (.reg [
    ⟨(some 13), .mov (.t 0), none⟩,
    ⟨(some 14), .idx 4 (.t 13) (.c (.rv (.one (.dat (.val (.int .i64 (0))))))), none⟩,
    ⟨(some 15), .load true 4 (.t 14), none⟩,
    ⟨(some 8), .alloc [(.dat (.val (.int .i64 (0)))), (.dat (.val (.int .i64 (0)))), (.dat (.val (.int .i64 (0)))), (.dat (.val (.int .i64 (0))))], none⟩,
    ⟨none, .store 4 (.t 8) (.t 15), none⟩]) (.seq (.reg [
    ⟨(some 9), .mov (.c (.rv (.one (.dat (.val (.int .i64 (1))))))), none⟩]) (.seq (.reg [
    ⟨(some 10), .mov (.c (.rv (.one (.dat (.val (.bool false)))))), none⟩]) (.seq (.seq (.reg [
    ⟨(some 16), .fadr 0 (.t 8), none⟩,
    ⟨(some 17), .load false 1 (.t 16), none⟩]) (.block 0 (.seq (.reg [
    ⟨(some 19), .bin .eql (.t 17) (.c (.rv (.one (.dat (.val (.int .i64 (6))))))), none⟩,
    ⟨(some 18), .mov (.t 19), none⟩]) (.cond (.t 18) (.seq (.reg [
    ⟨(some 20), .fadr 3 (.t 8), none⟩,
    ⟨(some 21), .load false 1 (.t 20), none⟩,
    ⟨(some 6), .mov (.t 21), none⟩,
    ⟨(some 7), .mov (.c (.rv (.one (.dat (.val (.int .i64 (1))))))), none⟩]) .ret) (.seq (.reg [
    ⟨(some 23), .bin .eql (.t 17) (.c (.rv (.one (.dat (.val (.int .i64 (1))))))), none⟩,
    ⟨(some 22), .mov (.t 23), none⟩]) (.cond (.t 22) (.reg [
    ⟨(some 24), .fadr 3 (.t 8), none⟩,
    ⟨(some 25), .load false 1 (.t 24), none⟩,
    ⟨(some 26), .idxa 6 1 (.t 4) (.t 25), none⟩,
    ⟨(some 27), .load false 1 (.t 26), none⟩,
    ⟨(some 2), .mov (.t 27), none⟩]) (.seq (.reg [
    ⟨(some 29), .bin .eql (.t 17) (.c (.rv (.one (.dat (.val (.int .i64 (5))))))), none⟩,
    ⟨(some 28), .mov (.t 29), none⟩]) (.cond (.t 28) (.reg [
    ⟨(some 30), .fadr 3 (.t 8), none⟩,
    ⟨(some 31), .load false 1 (.t 30), none⟩,
    ⟨(some 32), .bin .add (.c (.rv (.one (.dat (.val (.int .i64 (1))))))) (.t 31), none⟩,
    ⟨(some 9), .mov (.t 32), none⟩]) (.seq (.reg [
    ⟨(some 34), .bin .eql (.t 17) (.c (.rv (.one (.dat (.val (.int .i64 (2))))))), none⟩,
    ⟨(some 33), .mov (.t 34), none⟩]) (.cond (.t 33) (.reg [
    ⟨(some 35), .mov (.t 2), none⟩,
    ⟨(some 36), .fadr 3 (.t 8), none⟩,
    ⟨(some 37), .load false 1 (.t 36), none⟩,
    ⟨(some 38), .bin .eql (.t 35) (.t 37), none⟩,
    ⟨(some 10), .mov (.t 38), none⟩]) (.seq (.reg [
    ⟨(some 40), .bin .eql (.t 17) (.c (.rv (.one (.dat (.val (.int .i64 (3))))))), none⟩,
    ⟨(some 39), .mov (.t 40), none⟩]) (.cond (.t 39) (.reg [
    ⟨(some 41), .mov (.t 2), none⟩,
    ⟨(some 42), .fadr 3 (.t 8), none⟩,
    ⟨(some 43), .load false 1 (.t 42), none⟩,
    ⟨(some 44), .bin .geq (.t 41) (.t 43), none⟩,
    ⟨(some 10), .mov (.t 44), none⟩]) (.seq (.reg [
    ⟨(some 46), .bin .eql (.t 17) (.c (.rv (.one (.dat (.val (.int .i64 (4))))))), none⟩,
    ⟨(some 45), .mov (.t 46), none⟩]) (.cond (.t 45) (.reg [
    ⟨(some 47), .mov (.t 2), none⟩,
    ⟨(some 48), .fadr 3 (.t 8), none⟩,
    ⟨(some 49), .load false 1 (.t 48), none⟩,
    ⟨(some 50), .bin .and (.t 47) (.t 49), none⟩,
    ⟨(some 51), .bin .neq (.t 50) (.c (.rv (.one (.dat (.val (.int .i64 (0))))))), none⟩,
    ⟨(some 10), .mov (.t 51), none⟩]) .skip)))))))))))))) (.seq (.seq (.reg [
    ⟨(some 52), .fadr 0 (.t 8), none⟩,
    ⟨(some 53), .load false 1 (.t 52), none⟩,
    ⟨(some 54), .bin .eql (.t 53) (.c (.rv (.one (.dat (.val (.int .i64 (2))))))), none⟩,
    ⟨(some 55), .mov (.t 54), none⟩,
    ⟨(some 56), .fadr 0 (.t 8), (some (55, false))⟩,
    ⟨(some 57), .load false 1 (.t 56), (some (55, false))⟩,
    ⟨(some 58), .bin .eql (.t 57) (.c (.rv (.one (.dat (.val (.int .i64 (3))))))), (some (55, false))⟩,
    ⟨(some 59), .pick (.t 55) (.c (.rv (.one (.dat (.val (.bool true)))))) (.t 58), none⟩,
    ⟨(some 60), .mov (.t 59), none⟩,
    ⟨(some 61), .fadr 0 (.t 8), (some (60, false))⟩,
    ⟨(some 62), .load false 1 (.t 61), (some (60, false))⟩,
    ⟨(some 63), .bin .eql (.t 62) (.c (.rv (.one (.dat (.val (.int .i64 (4))))))), (some (60, false))⟩,
    ⟨(some 64), .pick (.t 60) (.c (.rv (.one (.dat (.val (.bool true)))))) (.t 63), none⟩]) (.cond (.t 64) (.seq (.reg [
    ⟨(some 65), .fadr 2 (.t 8), none⟩,
    ⟨(some 66), .load false 1 (.t 65), none⟩,
    ⟨(some 67), .bin .add (.c (.rv (.one (.dat (.val (.int .i64 (1))))))) (.t 66), none⟩,
    ⟨(some 9), .mov (.t 67), none⟩]) (.seq (.reg [
    ⟨(some 68), .mov (.t 10), none⟩]) (.cond (.t 68) (.reg [
    ⟨(some 69), .fadr 1 (.t 8), none⟩,
    ⟨(some 70), .load false 1 (.t 69), none⟩,
    ⟨(some 71), .bin .add (.c (.rv (.one (.dat (.val (.int .i64 (1))))))) (.t 70), none⟩,
    ⟨(some 9), .mov (.t 71), none⟩]) .skip))) .skip)) (.seq (.draw [
    ⟨(some 73), .mov (.t 0), none⟩,
    ⟨(some 74), .mov (.t 9), none⟩,
    ⟨(some 75), .slc 4 (.t 73) (some (.t 74)) none none, none⟩,
    ⟨(some 76), .load true 6 (.t 4), none⟩,
    ⟨(some 77), .mov (.t 2), none⟩,
    ⟨(some 78), .call (.c (.rv (.one (.fn 22 [])))) [(.t 75), (.t 76), (.t 77)], none⟩,
    ⟨(some 72), .mov (.t 78), none⟩,
    ⟨(some 79), .ext (.t 72) 0, none⟩,
    ⟨(some 80), .ext (.t 72) 1, none⟩,
    ⟨(some 11), .mov (.t 79), none⟩,
    ⟨(some 12), .mov (.t 80), none⟩]
    [(.cons 0 none (.cons 1 none (.cons 2 none (.cons 3 none (.cons 4 none (.cons 5 (some []) (.cons 6 none (.cons 7 none (.cons 8 none (.cons 9 none (.cons 10 none .nil)))))))))))]) (.seq (.reg [
    ⟨(some 81), .mov (.t 11), none⟩,
    ⟨(some 82), .mov (.t 12), none⟩,
    ⟨(some 83), .bin .add (.t 82) (.c (.rv (.one (.dat (.val (.int .i64 (1))))))), none⟩,
    ⟨(some 6), .mov (.t 81), none⟩,
    ⟨(some 7), .mov (.t 83), none⟩]) .ret))))))))⟩
/-! Run of the document -/
theorem natX_add {n : Nat} (h : n ≤ 4194304) : natX (vInt .i64 (IntKind.i64.wrap (1 + (n : Int)))) = some (1 + n) := by
  rw [show (1 + (n : Int)) = ((1 + n : Nat) : Int) by omega, wrapN (by omega)]
  rfl
theorem l22 : lowF Try.prog Try.f22 = some c22 := by kernel_rfl
theorem l9 : lowF Try.prog Try.f9 = some c9 := by kernel_rfl
theorem drop_ed (p : List Ins) (a n : Nat) : ((((p.drop a).map Ins.enc).take ((p.drop a).map Ins.enc).length).drop (1 + n)) = (p.drop (a + (1 + n))).map Ins.enc := by
  rw [List.take_length, ← List.map_drop, List.drop_drop]
set_option maxRecDepth 100000 in
set_option maxHeartbeats 8000000 in
theorem from_body (p : List Ins) (r : Rec) (h : (checkS p).1 = 0) : ∀ (n a : Nat) (acc : Int), p.length - a = n → a < p.length → body Try.prog c22 [insV (p.drop a), r.cv, vInt .i64 acc] [] (fun x m => x = pairV (runW p r a acc)) := by
  intro n
  induction n using Nat.strongRecOn with
  | _ n ih =>
    intro a acc hn hlt
    obtain ⟨g1, g2, g3, _⟩ := check_all h
    have hi := List.getElem?_eq_getElem hlt
    generalize p[a] = i at hi
    obtain ⟨o, jt, jf, k⟩ := i
    have hg : getZ ((p.drop a).map Ins.enc) (0 : Nat) = some [.val (.int .i64 o), .val (.int .i64 jt), .val (.int .i64 jf), .val (.int .i64 k)] := by
      rw [getZ_nat, List.getElem?_map, List.getElem?_drop, Nat.add_zero, hi]; rfl
    have hcall : ∀ (d : Nat) (acc2 : Int), a + (1 + d) < p.length → ∀ {m : Mem} {K : CV → Mem → Prop}, K (pairV (runW p r (a + (1 + d)) acc2)) m → ACall Try.prog 22 [.rv (.one (.dat (.sl 4 ((((p.drop a).map Ins.enc).take ((p.drop a).map Ins.enc).length).drop (1 + d))))), r.cv, vInt .i64 acc2] m K := by
      intro d acc2 hd m K hK
      rw [drop_ed]
      exact acall_val Try.func22 l22 rfl (Nat.le_of_ble_eq_true rfl) (ih (p.length - (a + (1 + d))) (by omega) (a + (1 + d)) acc2 rfl hd) rfl rfl hK
    have fin : ∀ (d : Nat) (acc2 : Int), a + (1 + d) < p.length → o ≠ 6 → nxt ⟨o, jt, jf, k⟩ acc r = (1 + d, acc2) → CV.tup [iRV (runW p r (a + (1 + d)) acc2).1, iRV (IntKind.i64.wrap ((runW p r (a + (1 + d)) acc2).2 + 1))] = pairV (runW p r a acc) := by
      intro d acc2 hd ho hx
      obtain ⟨_, e1, e2⟩ := runW_ends h r _ (a + (1 + d)) acc2 rfl hd
      rw [runW_go hi ho hx, wrapI (by omega) (by omega)]
      rfl
    have hble : ∀ (d : Nat), a + (1 + d) < p.length → (Nat.ble (1 + d) ((p.drop a).map Ins.enc).length && Nat.ble ((p.drop a).map Ins.enc).length ((p.drop a).map Ins.enc).length) = true := by
      intro d hd
      simp [Nat.ble_eq]; omega
    refine ok_some hg ?_
    rcases good_step h hi with ⟨rfl, k1, k2, k3⟩ | ⟨ho, j1, j2, j3, j4, j5, j6⟩ | ⟨rfl, k1, k2⟩ | ⟨rfl, k1⟩
    · obtain ⟨n, rfl⟩ : ∃ n : Nat, k = n := ⟨k.toNat, by omega⟩
      refine ok_some (idxZ_nat (by omega)) ?_
      refine ok_some (r.read (by omega)) ?_
      refine bB_yes (hble 0 (by omega)) ?_
      refine hcall 0 (r.get n) (by omega) ?_
      exact ⟨trivial, fin 0 (r.get n) (by omega) (by simp) (by simp [nxt])⟩
    · obtain ⟨x, rfl⟩ : ∃ n : Nat, jt = n := ⟨jt.toNat, by omega⟩
      obtain ⟨y, rfl⟩ : ∃ n : Nat, jf = n := ⟨jf.toNat, by omega⟩
      have j3 : a + 1 + x < p.length := by simpa using j3
      have j4 : a + 1 + y < p.length := by simpa using j4
      rcases ho with rfl | rfl | rfl
      · refine bB_beq (fun hy => ?_) (fun hy => ?_)
        · refine ok_some (natX_add (n := x) (by omega)) ?_
          refine bB_yes (hble x (by omega)) ?_
          refine hcall x acc (by omega) ?_
          exact ⟨trivial, fin x acc (by omega) (by simp) ((nxt_2 x y k acc r).1 hy)⟩
        · refine ok_some (natX_add (n := y) (by omega)) ?_
          refine bB_yes (hble y (by omega)) ?_
          refine hcall y acc (by omega) ?_
          exact ⟨trivial, fin y acc (by omega) (by simp) ((nxt_2 x y k acc r).2 hy)⟩
      · refine bB_dec (fun hy => ?_) (fun hy => ?_)
        · refine ok_some (natX_add (n := x) (by omega)) ?_
          refine bB_yes (hble x (by omega)) ?_
          refine hcall x acc (by omega) ?_
          exact ⟨trivial, fin x acc (by omega) (by simp) ((nxt_3 x y k acc r).1 hy)⟩
        · refine ok_some (natX_add (n := y) (by omega)) ?_
          refine bB_yes (hble y (by omega)) ?_
          refine hcall y acc (by omega) ?_
          exact ⟨trivial, fin y acc (by omega) (by simp) ((nxt_3 x y k acc r).2 hy)⟩
      · refine bB_bne (fun hy => ?_) (fun hy => ?_)
        · refine ok_some (natX_add (n := x) (by omega)) ?_
          refine bB_yes (hble x (by omega)) ?_
          refine hcall x acc (by omega) ?_
          exact ⟨trivial, fin x acc (by omega) (by simp) ((nxt_4 x y k acc r).1 hy)⟩
        · refine ok_some (natX_add (n := y) (by omega)) ?_
          refine bB_yes (hble y (by omega)) ?_
          refine hcall y acc (by omega) ?_
          exact ⟨trivial, fin y acc (by omega) (by simp) ((nxt_4 x y k acc r).2 hy)⟩
    · obtain ⟨n, rfl⟩ : ∃ n : Nat, k = n := ⟨k.toNat, by omega⟩
      have k2 : a + 1 + n < p.length := by simpa using k2
      refine ok_some (natX_add (n := n) (by omega)) ?_
      refine bB_yes (hble n (by omega)) ?_
      refine hcall n acc (by omega) ?_
      exact ⟨trivial, fin n acc (by omega) (by simp) (by simp [nxt])⟩
    · rw [runW_back hi rfl]
      exact rfl
set_option maxRecDepth 100000 in
theorem rrun_body (p : List Ins) (r : Rec) : body Try.prog c9 [insV p, r.cv] [] (fun x m => x = pairV (runS p r)) := by
  refine rcheck_ok p ?_
  refine bB_bne (fun h => ?_) (fun h => ?_)
  · have e : runS p r = (0, 0) := by rw [runS, if_neg h]
    rw [e]; exact rfl
  · have e : runS p r = runW p r 0 0 := by rw [runS, if_pos h]
    rw [e]
    obtain ⟨g1, _⟩ := check_all h
    have hcall : ∀ {m : Mem} {K : CV → Mem → Prop}, K (pairV (runW p r 0 0)) m → ACall Try.prog 22 [insV p, r.cv, vInt .i64 0] m K := fun hK =>
      acall_val Try.func22 l22 rfl (Nat.le_of_ble_eq_true rfl) (from_body p r h p.length 0 0 (by omega) (by omega)) rfl rfl hK
    refine hcall ?_
    exact rfl
set_option maxRecDepth 100000 in
theorem rrun_ok (p : List Ins) (r : Rec) {m : Mem} {K : CV → Mem → Prop} (h : K (pairV (runS p r)) m) : ACall Try.prog 9 [insV p, r.cv] m K :=
  acall_val Try.func9 l9 rfl (Nat.le_of_ble_eq_true rfl) (rrun_body p r) rfl rfl h


end Go.Proofs.Ytjllbjbpdnhceaa
