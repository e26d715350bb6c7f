import Derived.Test.YtflieebgiejjpaaAmZ2
import Derived.Test.YtflieebgiejjpaaDvBpf3r6
import Derived.Test.YtflieebgiejjpaaAmY
set_option linter.unusedVariables false
set_option linter.unusedSimpArgs false
namespace Go.Proofs.Ytflieebgiejjpaa
open Go.AM Go.ChangeShapes Go.WideShapes Go.ChangeAt Go.RowKit
set_option maxRecDepth 100000 in
set_option maxHeartbeats 16000000 in
theorem r39_o {p : List Ins} {k : Nat} (hlt : k < p.length) (h400 : p.length ≤ 400) {o jt jf ik : Int} (ho : o < 1 ∨ o > 6) (hg : getZ (p.map Ins.enc) (k : Nat) = some [.val (.int .i64 o), .val (.int .i64 jt), .val (.int .i64 jf), .val (.int .i64 ik)])
    (bad : ∀ e, insE ⟨o, jt, jf, ik⟩ k p.length = e → e ≠ 0 → fltV (e, (k : Int)) = fltV (checkS p)) : Round39 p k := by
  obtain ⟨L, hL⟩ : ∃ L : Int, L = (p.length : Int) - (k : Int) - 2 := ⟨_, rfl⟩
  have hleft := left39 h400 hlt
  rw [← hL] at hleft
  refine bB_yes (lt39 hlt) ?_
  refine ok_some hg ?_
  refine ghost_keep [2, 3, 4, 5, 18, 19, 20] [(6, vInt .i64 L), (0, insV p)] [.var [.dat (.val (.int .i64 0)), .dat (.val (.int .i64 0))], .var [.dat (.val (.int .i64 o)), .dat (.val (.int .i64 jt)), .dat (.val (.int .i64 jf)), .dat (.val (.int .i64 ik))]] (View.of 2 [0, 1] [] rfl rfl rfl rfl rfl rfl ?_ ?_) ?_
  · repeat (first | exact .nil | refine .junk ?_ | refine .eq (congrArg (fun x => vInt .i64 x) hleft.symm) ?_ | refine .eq rfl ?_)
  · exact .put (by simp [memN]) rfl (.eq rfl (by simp)) (.put (by simp [memN]) rfl (.eq rfl (by simp)) (.nil _))
  clear hleft
  have ne : ∀ c : Int, 1 ≤ c → c ≤ 6 → (o == c) = false := fun c h1 h2 => by rw [beq_eq_false_iff_ne]; omega
  refine bB_no (ne 2 (by decide) (by decide)) ?_
  refine bB_no (ne 3 (by decide) (by decide)) ?_
  rcases ho with h | h
  · refine bB_yes (decide_eq_true h) ?_
    exact bad 1 (insE_o _ _ _ _ _ _ (.inl h)) (by decide)
  · refine bB_no (decide_eq_false (by omega)) ?_
    refine bB_yes (decide_eq_true h) ?_
    exact bad 1 (insE_o _ _ _ _ _ _ (.inr h)) (by decide)
theorem round39 {p : List Ins} {k : Nat} (hlt : k < p.length) (h1 : ¬ p.length < 1) (h400 : p.length ≤ 400) (hk : J39 p k) : Round39 p k := by
  have hc : checkS p = if (chkS p.length 0 p).1 ≠ 0 then chkS p.length 0 p else match p[p.length - 1]? with
      | some i => if i.op = 6 then (0, 0) else (2, ((p.length - 1 : Nat) : Int))
      | none => (0, 0) := by
    rw [checkS, if_neg (by omega)]
    first | done | rfl
  have hg : getZ (p.map Ins.enc) (k : Nat) = some (p[k].enc) := by
    rw [getZ_nat, List.getElem?_map, List.getElem?_eq_getElem hlt]; rfl
  have bad : ∀ e, insE p[k] k p.length = e → e ≠ 0 → fltV (e, (k : Int)) = fltV (checkS p) := by
    intro e he h3
    have := chkS_bad p.length p 0 k p[k] (List.getElem?_eq_getElem hlt) (fun j i hj hi => by simpa using hk.2 j i hj hi) (by simpa [he] using h3)
    rw [Nat.zero_add, he] at this
    rw [hc, this, if_pos h3]
  have good : insE p[k] k p.length = 0 → J39 p (k + 1) := by
    intro h3
    refine ⟨hlt, fun j i hj hi => ?_⟩
    rcases Nat.lt_or_ge j k with h5 | h5
    · exact hk.2 j i h5 hi
    · have : j = k := by omega
      subst this
      rw [List.getElem?_eq_getElem hlt] at hi
      cases hi
      exact h3
  generalize p[k] = i at bad good hg
  obtain ⟨o, jt, jf, ik⟩ := i
  by_cases ho : o < 1 ∨ o > 6
  · exact r39_o hlt h400 ho hg bad
  · have ho2 : o = 1 ∨ o = 2 ∨ o = 3 ∨ o = 4 ∨ o = 5 ∨ o = 6 := by omega
    rcases ho2 with rfl | rfl | rfl | rfl | rfl | rfl
    · exact r39_1 hlt h400 hg bad good
    · exact r39_2 hlt h400 hg bad good
    · exact r39_3 hlt h400 hg bad good
    · exact r39_4 hlt h400 hg bad good
    · exact r39_5 hlt h400 hg bad good
    · exact r39_6 hlt h400 hg bad good
set_option maxRecDepth 100000 in
set_option maxHeartbeats 16000000 in
theorem round39_end {p : List Ins} {k : Nat} (hge : ¬ k < p.length) (h1 : ¬ p.length < 1) (h400 : p.length ≤ 400) (hk : J39 p k) : Round39 p k := by
  have hc : checkS p = if (chkS p.length 0 p).1 ≠ 0 then chkS p.length 0 p else match p[p.length - 1]? with
      | some i => if i.op = 6 then (0, 0) else (2, ((p.length - 1 : Nat) : Int))
      | none => (0, 0) := by
    rw [checkS, if_neg (by omega)]
    first | done | rfl
  refine bB_no (decide_eq_false (by rw [List.length_map]; omega)) ?_
  have hall := chkS_ok p.length p 0 fun j i hi => by
    have := (List.getElem?_eq_some_iff.1 hi).1
    simpa using hk.2 j i (by omega) hi
  have hlast : p.length - 1 < p.length := by omega
  rw [hall, if_neg (by simp), List.getElem?_eq_getElem hlast] at hc
  have hw : IntKind.i64.wrap ((((p.map Ins.enc).length : Nat) : Int) - 1) = ((p.length - 1 : Nat) : Int) := by
    rw [List.length_map, wrapI (by omega) (by omega)]; omega
  have hg : getZ (p.map Ins.enc) (IntKind.i64.wrap ((((p.map Ins.enc).length : Nat) : Int) - 1)) = some (p[p.length - 1].enc) := by
    rw [hw, getZ_nat, List.getElem?_map, List.getElem?_eq_getElem hlast]; rfl
  refine ok_some hg ?_
  refine bB_bne (fun h3 => ?_) (fun h3 => ?_)
  · show fltV (2, IntKind.i64.wrap ((((p.map Ins.enc).length : Nat) : Int) - 1)) = _
    rw [hw, hc]
    simp only
    rw [if_neg h3]
  · rw [hc]
    simp only
    rw [if_pos h3]
    exact rfl
set_option maxRecDepth 100000 in
set_option maxHeartbeats 16000000 in
theorem rcheck_body (p : List Ins) : body Try.prog c39 [insV p] [] (fun r m => r = fltV (checkS p)) := by
  refine bB_dec (fun h => ?_) (fun h0 => ?_)
  · have h : p.length < 1 := by
      have h : (((p.map Ins.enc).length : Nat) : Int) < 1 := h
      rw [List.length_map] at h; omega
    rw [checkS, if_pos (.inl h)]; exact rfl
  · refine bB_dec (fun h => ?_) (fun h1 => ?_)
    · have h : p.length > 400 := by
        have h : (((p.map Ins.enc).length : Nat) : Int) > 400 := h
        rw [List.length_map] at h; omega
      rw [checkS, if_pos (.inr h)]; exact rfl
    · have h0 : ¬ p.length < 1 := by
        have h : ¬ (((p.map Ins.enc).length : Nat) : Int) < 1 := h0
        rw [List.length_map] at h; omega
      have h1 : p.length ≤ 400 := by
        have h : ¬ (((p.map Ins.enc).length : Nat) : Int) > 400 := h1
        rw [List.length_map] at h; omega
      refine ⟨Nat, J39 p, S39 p, fun k => p.length - k, ⟨0, ⟨Nat.zero_le _, fun j i h => absurd h (Nat.not_lt_zero j)⟩, ?_⟩, fun k hk => ?_⟩
      · refine View.of 1 [0] [] rfl rfl rfl rfl rfl rfl ?_ ?_
        · repeat (first | exact .nil | refine .junk ?_ | refine .eq rfl ?_)
        · exact .put (by simp [memN]) rfl (.eq rfl (by simp)) (.nil _)
      · by_cases hlt : k < p.length
        · exact round39 hlt h0 h1 hk
        · exact round39_end hlt h0 h1 hk
set_option maxRecDepth 100000 in
theorem rcheck_ok (p : List Ins) {m : Mem} {K : CV → Mem → Prop} (h : K (fltV (checkS p)) m) : ACall Try.prog 39 [insV p] m K :=
  acall_val_g Try.func39 l39 rfl (Nat.le_of_ble_eq_true rfl) (rcheck_body p) rfl rfl h
end Go.Proofs.Ytflieebgiejjpaa
