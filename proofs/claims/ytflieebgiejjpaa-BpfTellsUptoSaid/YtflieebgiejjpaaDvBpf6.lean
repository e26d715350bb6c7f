import Derived.Test.YtflieebgiejjpaaAmZ2
import Derived.Test.YtflieebgiejjpaaDvBpf5
import Derived.Test.YtflieebgiejjpaaAmY
set_option linter.unusedVariables false
set_option linter.unusedSimpArgs false
namespace Go.Proofs.Ytflieebgiejjpaa
open Go.AM Go.ChangeShapes Go.WideShapes Go.ChangeAt Go.RowKit
def c8 : LF := ⟨41, [.tmp 4], (.seq (.reg [
    ⟨(some 3), .box (.t 1), none⟩,
    ⟨(some 4), .mov (.c (.rv (.one (.dat (.val (.bool false)))))), none⟩]) (.seq (.seq (.reg [
    ⟨(some 7), .call (.c (.rv (.one (.fn 47 [])))) [], none⟩,
    ⟨(some 8), .un .not (.t 7), none⟩]) (.cond (.t 8) (.seq (.reg [
    ⟨(some 4), .mov (.c (.rv (.one (.dat (.val (.bool false)))))), none⟩]) .ret) .skip)) (.seq (.reg [
    ⟨(some 10), .mov (.t 0), none⟩,
    ⟨(some 11), .load true 6 (.t 3), none⟩,
    ⟨(some 12), .call (.c (.rv (.one (.fn 40 [])))) [(.t 10), (.t 11)], none⟩,
    ⟨(some 9), .mov (.t 12), none⟩,
    ⟨(some 13), .ext (.t 9) 0, none⟩,
    ⟨(some 14), .ext (.t 9) 1, none⟩,
    ⟨(some 5), .mov (.t 13), none⟩,
    ⟨(some 6), .mov (.t 14), none⟩]) (.seq (.seq (.reg [
    ⟨(some 15), .mov (.t 0), none⟩,
    ⟨(some 16), .call (.c (.rv (.one (.fn 38 [])))) [(.t 15)], none⟩,
    ⟨(some 17), .fld false 0 1 (.t 16), none⟩,
    ⟨(some 18), .bin .neq (.t 17) (.c (.rv (.one (.dat (.val (.int .i64 (0))))))), none⟩]) (.cond (.t 18) (.seq (.reg [
    ⟨(some 19), .mov (.t 5), none⟩,
    ⟨(some 20), .bin .eql (.t 19) (.c (.rv (.one (.dat (.val (.int .i64 (0))))))), none⟩,
    ⟨(some 21), .mov (.t 20), none⟩,
    ⟨(some 22), .mov (.t 6), (some (21, true))⟩,
    ⟨(some 23), .bin .eql (.t 22) (.c (.rv (.one (.dat (.val (.int .i64 (0))))))), (some (21, true))⟩,
    ⟨(some 24), .pick (.t 21) (.t 23) (.c (.rv (.one (.dat (.val (.bool false)))))), none⟩,
    ⟨(some 4), .mov (.t 24), none⟩]) .ret) .skip)) (.seq (.reg [
    ⟨(some 25), .mov (.t 5), none⟩,
    ⟨(some 26), .bin .eql (.t 25) (.c (.rv (.one (.dat (.val (.int .i64 (1))))))), none⟩,
    ⟨(some 27), .mov (.t 26), none⟩,
    ⟨(some 28), .mov (.t 5), (some (27, false))⟩,
    ⟨(some 29), .bin .eql (.t 28) (.c (.rv (.one (.dat (.val (.int .i64 (0))))))), (some (27, false))⟩,
    ⟨(some 30), .pick (.t 27) (.c (.rv (.one (.dat (.val (.bool true)))))) (.t 29), none⟩,
    ⟨(some 31), .mov (.t 30), none⟩,
    ⟨(some 32), .mov (.t 6), (some (31, true))⟩,
    ⟨(some 33), .bin .geq (.t 32) (.c (.rv (.one (.dat (.val (.int .i64 (1))))))), (some (31, true))⟩,
    ⟨(some 34), .pick (.t 31) (.t 33) (.c (.rv (.one (.dat (.val (.bool false)))))), none⟩,
    ⟨(some 35), .mov (.t 34), none⟩,
    ⟨(some 36), .mov (.t 6), (some (35, true))⟩,
    ⟨(some 37), .mov (.t 0), (some (35, true))⟩,
    ⟨(some 38), .len 1 (.t 37), (some (35, true))⟩,
    ⟨(some 39), .bin .leq (.t 36) (.t 38), (some (35, true))⟩,
    ⟨(some 40), .pick (.t 35) (.t 39) (.c (.rv (.one (.dat (.val (.bool false)))))), none⟩,
    ⟨(some 4), .mov (.t 40), none⟩]) .ret)))))⟩
def c47 : LF := ⟨73, [.tmp 0], (.seq (.reg [
    ⟨(some 0), .mov (.c (.rv (.one (.dat (.val (.bool false)))))), none⟩]) (.seq (.reg [
    ⟨(some 10), .build [(.dat (.val (.int .i64 (0)))), (.dat (.val (.int .i64 (0)))), (.dat (.val (.int .i64 (0)))), (.dat (.val (.int .i64 (0))))] [(0, 1, (.c (.rv (.one (.dat (.val (.int .i64 (1)))))))), (3, 1, (.c (.rv (.one (.dat (.val (.int .i64 (2))))))))], none⟩,
    ⟨(some 11), .build [(.dat (.val (.int .i64 (0)))), (.dat (.val (.int .i64 (0)))), (.dat (.val (.int .i64 (0)))), (.dat (.val (.int .i64 (0))))] [(0, 1, (.c (.rv (.one (.dat (.val (.int .i64 (2)))))))), (3, 1, (.c (.rv (.one (.dat (.val (.int .i64 (7)))))))), (2, 1, (.c (.rv (.one (.dat (.val (.int .i64 (1))))))))], none⟩,
    ⟨(some 12), .call (.c (.rv (.one (.fn 90 [])))) [(.c (.rv (.one (.dat (.val (.int .i64 (1)))))))], none⟩,
    ⟨(some 13), .call (.c (.rv (.one (.fn 90 [])))) [(.c (.rv (.one (.dat (.val (.int .i64 (0)))))))], none⟩,
    ⟨(some 14), .bsl 4 [(.dat (.val (.int .i64 (0)))), (.dat (.val (.int .i64 (0)))), (.dat (.val (.int .i64 (0)))), (.dat (.val (.int .i64 (0))))] 4 [(0, (.t 10)), (1, (.t 11)), (2, (.t 12)), (3, (.t 13))], none⟩,
    ⟨(some 1), .mov (.t 14), none⟩]) (.ghost (.seq (.reg [
    ⟨(some 16), .mov (.t 1), none⟩,
    ⟨(some 17), .build [(.dat (.val (.int .i64 (0)))), (.dat (.val (.int .i64 (0)))), (.dat (.val (.int .i64 (0)))), (.dat (.val (.int .i64 (0)))), (.dat (.val (.int .i64 (0)))), (.dat (.val (.int .i64 (0))))] [(0, 1, (.c (.rv (.one (.dat (.val (.int .i64 (0)))))))), (1, 1, (.c (.rv (.one (.dat (.val (.int .i64 (0)))))))), (2, 1, (.c (.rv (.one (.dat (.val (.int .i64 (7))))))))], none⟩,
    ⟨(some 18), .call (.c (.rv (.one (.fn 40 [])))) [(.t 16), (.t 17)], none⟩,
    ⟨(some 15), .mov (.t 18), none⟩,
    ⟨(some 19), .ext (.t 15) 0, none⟩,
    ⟨(some 20), .ext (.t 15) 1, none⟩,
    ⟨(some 2), .mov (.t 19), none⟩,
    ⟨(some 3), .mov (.t 20), none⟩]) (.seq (.reg [
    ⟨(some 22), .mov (.t 1), none⟩,
    ⟨(some 23), .build [(.dat (.val (.int .i64 (0)))), (.dat (.val (.int .i64 (0)))), (.dat (.val (.int .i64 (0)))), (.dat (.val (.int .i64 (0)))), (.dat (.val (.int .i64 (0)))), (.dat (.val (.int .i64 (0))))] [], none⟩,
    ⟨(some 24), .call (.c (.rv (.one (.fn 40 [])))) [(.t 22), (.t 23)], none⟩,
    ⟨(some 21), .mov (.t 24), none⟩,
    ⟨(some 25), .ext (.t 21) 0, none⟩,
    ⟨(some 26), .ext (.t 21) 1, none⟩,
    ⟨(some 4), .mov (.t 25), none⟩,
    ⟨(some 5), .mov (.t 26), none⟩]) (.seq (.reg [
    ⟨(some 28), .mov (.t 1), none⟩,
    ⟨(some 29), .call (.c (.rv (.one (.fn 42 [])))) [(.t 28)], none⟩,
    ⟨(some 27), .mov (.t 29), none⟩,
    ⟨(some 30), .ext (.t 27) 0, none⟩,
    ⟨(some 31), .ext (.t 27) 1, none⟩,
    ⟨(some 7), .alloc [(.dat (.val (.int .i64 (0)))), (.dat (.val (.int .i64 (0))))], none⟩,
    ⟨(some 6), .mov (.t 30), none⟩,
    ⟨none, .store 2 (.t 7) (.t 31), none⟩]) (.seq (.reg [
    ⟨(some 33), .mov (.t 6), none⟩,
    ⟨(some 34), .call (.c (.rv (.one (.fn 44 [])))) [(.t 33)], none⟩,
    ⟨(some 32), .mov (.t 34), none⟩,
    ⟨(some 35), .ext (.t 32) 0, none⟩,
    ⟨(some 36), .ext (.t 32) 1, none⟩,
    ⟨(some 9), .alloc [(.dat (.val (.int .i64 (0)))), (.dat (.val (.int .i64 (0))))], none⟩,
    ⟨(some 8), .mov (.t 35), none⟩,
    ⟨none, .store 2 (.t 9) (.t 36), none⟩]) (.seq (.reg [
    ⟨(some 37), .fadr 0 (.t 7), none⟩,
    ⟨(some 38), .load false 1 (.t 37), none⟩,
    ⟨(some 39), .bin .eql (.t 38) (.c (.rv (.one (.dat (.val (.int .i64 (0))))))), none⟩,
    ⟨(some 40), .mov (.t 39), none⟩,
    ⟨(some 41), .fadr 0 (.t 9), (some (40, true))⟩,
    ⟨(some 42), .load false 1 (.t 41), (some (40, true))⟩,
    ⟨(some 43), .bin .eql (.t 42) (.c (.rv (.one (.dat (.val (.int .i64 (0))))))), (some (40, true))⟩,
    ⟨(some 44), .pick (.t 40) (.t 43) (.c (.rv (.one (.dat (.val (.bool false)))))), none⟩,
    ⟨(some 45), .mov (.t 44), none⟩,
    ⟨(some 46), .mov (.t 2), (some (45, true))⟩,
    ⟨(some 47), .bin .eql (.t 46) (.c (.rv (.one (.dat (.val (.int .i64 (1))))))), (some (45, true))⟩,
    ⟨(some 48), .pick (.t 45) (.t 47) (.c (.rv (.one (.dat (.val (.bool false)))))), none⟩,
    ⟨(some 49), .mov (.t 48), none⟩,
    ⟨(some 50), .mov (.t 3), (some (49, true))⟩,
    ⟨(some 51), .bin .eql (.t 50) (.c (.rv (.one (.dat (.val (.int .i64 (3))))))), (some (49, true))⟩,
    ⟨(some 52), .pick (.t 49) (.t 51) (.c (.rv (.one (.dat (.val (.bool false)))))), none⟩,
    ⟨(some 53), .mov (.t 52), none⟩,
    ⟨(some 54), .mov (.t 4), (some (53, true))⟩,
    ⟨(some 55), .bin .eql (.t 54) (.c (.rv (.one (.dat (.val (.int .i64 (0))))))), (some (53, true))⟩,
    ⟨(some 56), .pick (.t 53) (.t 55) (.c (.rv (.one (.dat (.val (.bool false)))))), none⟩,
    ⟨(some 57), .mov (.t 56), none⟩,
    ⟨(some 58), .mov (.t 6), (some (57, true))⟩,
    ⟨(some 59), .len 1 (.t 58), (some (57, true))⟩,
    ⟨(some 60), .bin .eql (.t 59) (.c (.rv (.one (.dat (.val (.int .i64 (28))))))), (some (57, true))⟩,
    ⟨(some 61), .pick (.t 57) (.t 60) (.c (.rv (.one (.dat (.val (.bool false)))))), none⟩,
    ⟨(some 62), .mov (.t 61), none⟩,
    ⟨(some 63), .mov (.t 8), (some (62, true))⟩,
    ⟨(some 64), .len 1 (.t 63), (some (62, true))⟩,
    ⟨(some 65), .bin .eql (.t 64) (.c (.rv (.one (.dat (.val (.int .i64 (4))))))), (some (62, true))⟩,
    ⟨(some 66), .pick (.t 62) (.t 65) (.c (.rv (.one (.dat (.val (.bool false)))))), none⟩,
    ⟨(some 67), .mov (.t 66), none⟩,
    ⟨(some 68), .mov (.t 1), (some (67, true))⟩,
    ⟨(some 69), .call (.c (.rv (.one (.fn 38 [])))) [(.t 68)], (some (67, true))⟩,
    ⟨(some 70), .fld false 0 1 (.t 69), (some (67, true))⟩,
    ⟨(some 71), .bin .eql (.t 70) (.c (.rv (.one (.dat (.val (.int .i64 (0))))))), (some (67, true))⟩,
    ⟨(some 72), .pick (.t 67) (.t 71) (.c (.rv (.one (.dat (.val (.bool false)))))), none⟩,
    ⟨(some 0), .mov (.t 72), none⟩]) .ret))))))))⟩
theorem l47 : lowF Try.prog Try.f47 = some c47.er := by kernel_rfl
def p0 : List Ins := [⟨1, 0, 0, 2⟩, ⟨2, 0, 1, 7⟩, ⟨6, 0, 0, 1⟩, ⟨6, 0, 0, 0⟩]
set_option maxRecDepth 100000 in
set_option maxHeartbeats 4000000 in
theorem alive2_body : body Try.prog c47 [] [] (fun r m => r = vBool true) := by
  refine back_ok 1 ?_
  refine back_ok 0 ?_
  refine ghost_mem [(1, insV p0), (14, .junk)] [] (View.of 1 [] [0] rfl rfl rfl rfl rfl rfl ?_ (.nil _)) ?_
  · repeat (first | exact .nil | refine .junk ?_ | refine .eq rfl ?_ | refine .put (VwV.frz 0 (p0.map Ins.enc) rfl rfl) ?_)
  have c0 : checkS p0 = (0, 0) := by decide +kernel
  have r1 : runS p0 ⟨0, 0, 7, 0, 0, 0⟩ = (1, 3) := by
    rw [runS, if_pos (by rw [c0])]
    rw [runW_go (i := ⟨1, 0, 0, 2⟩) (d := 1) (acc2 := 7) rfl (by decide) (by decide +kernel), runW_go (i := ⟨2, 0, 1, 7⟩) (d := 1) (acc2 := 7) rfl (by decide) (by decide +kernel), runW_back (i := ⟨6, 0, 0, 1⟩) rfl rfl]
    rfl
  have r2 : runS p0 ⟨0, 0, 0, 0, 0, 0⟩ = (0, 3) := by
    rw [runS, if_pos (by rw [c0])]
    rw [runW_go (i := ⟨1, 0, 0, 2⟩) (d := 1) (acc2 := 0) rfl (by decide) (by decide +kernel), runW_go (i := ⟨2, 0, 1, 7⟩) (d := 2) (acc2 := 0) rfl (by decide) (by decide +kernel), runW_back (i := ⟨6, 0, 0, 0⟩) rfl rfl]
    rfl
  have b0 : bytesS p0 = ([1, 0, 0, 2, 0, 0, 0, 2, 0, 1, 7, 0, 0, 0, 6, 0, 0, 1, 0, 0, 0, 6, 0, 0, 0, 0, 0, 0], (0, 0)) := by decide +kernel
  have q0 : parseS [1, 0, 0, 2, 0, 0, 0, 2, 0, 1, 7, 0, 0, 0, 6, 0, 0, 1, 0, 0, 0, 6, 0, 0, 0, 0, 0, 0] = (p0, (0, 0)) := by decide +kernel
  refine run_ok p0 ⟨0, 0, 7, 0, 0, 0⟩ ?_
  rw [r1]
  refine run_ok p0 ⟨0, 0, 0, 0, 0, 0⟩ ?_
  rw [r2]
  refine bytes_ok p0 ?_
  rw [b0]
  refine parse_ok _ (by simp) ?_
  rw [q0]
  refine check_ok p0 ?_
  rw [c0]
  exact rfl
set_option maxRecDepth 100000 in
theorem alive2_ok {m : Mem} {K : CV → Mem → Prop} (h : K (vBool true) m) : ACall Try.prog 47 [] m K :=
  acall_val_g Try.func47 l47 rfl (Nat.zero_le _) alive2_body rfl rfl h
/-! it ends -/
theorem runW_ends {p : List Ins} (h : (checkS p).1 = 0) (r : Rec) : ∀ (n a : Nat) (acc : Int), p.length - a = n → a < p.length → ((runW p r a acc).1 = 1 ∨ (runW p r a acc).1 = 0) ∧ 1 ≤ (runW p r a acc).2 ∧ (runW p r a acc).2 ≤ ((p.length - a : Nat) : Int) := by
  intro n
  induction n using Nat.strongRecOn with
  | _ n ih =>
    intro a acc hn hlt
    have hi := List.getElem?_eq_getElem hlt
    generalize p[a] = i at hi
    obtain ⟨o, jt, jf, k⟩ := i
    have step : ∀ d acc2, nxt ⟨o, jt, jf, k⟩ acc r = (d, acc2) → o ≠ 6 → a + d < p.length → ((runW p r a acc).1 = 1 ∨ (runW p r a acc).1 = 0) ∧ 1 ≤ (runW p r a acc).2 ∧ (runW p r a acc).2 ≤ ((p.length - a : Nat) : Int) := by
      intro d acc2 hd ho hlt2
      have hp := nxt_pos ⟨o, jt, jf, k⟩ acc r
      rw [hd] at hp
      simp only at hp
      obtain ⟨h1, h2, h3⟩ := ih (p.length - (a + d)) (by omega) (a + d) acc2 rfl hlt2
      rw [runW_go hi ho hd]
      exact ⟨h1, by simp only; omega, by simp only; omega⟩
    rcases good_step h hi with ⟨rfl, k1, k2, k3⟩ | ⟨ho, j1, j2, j3, j4, j5, j6⟩ | ⟨rfl, k1, k2⟩ | ⟨rfl, k1⟩
    · exact step 1 _ (by simp [nxt]; rfl) (by decide) (by omega)
    · obtain ⟨x, rfl⟩ : ∃ n : Nat, jt = n := ⟨jt.toNat, by omega⟩
      obtain ⟨y, rfl⟩ : ∃ n : Nat, jf = n := ⟨jf.toNat, by omega⟩
      have : nxt ⟨o, x, y, k⟩ acc r = (1 + x, acc) ∨ nxt ⟨o, x, y, k⟩ acc r = (1 + y, acc) := by
        rcases ho with rfl | rfl | rfl
        · by_cases hy : acc = k
          · exact .inl ((nxt_2 x y k acc r).1 hy)
          · exact .inr ((nxt_2 x y k acc r).2 hy)
        · by_cases hy : acc ≥ k
          · exact .inl ((nxt_3 x y k acc r).1 hy)
          · exact .inr ((nxt_3 x y k acc r).2 hy)
        · by_cases hy : andV acc k ≠ 0
          · exact .inl ((nxt_4 x y k acc r).1 hy)
          · exact .inr ((nxt_4 x y k acc r).2 (by omega))
      rcases this with h | h
      · exact step _ _ h (by omega) (by simp at j3; omega)
      · exact step _ _ h (by omega) (by simp at j4; omega)
    · obtain ⟨x, rfl⟩ : ∃ n : Nat, k = n := ⟨k.toNat, by omega⟩
      exact step (1 + x) acc (by simp [nxt]) (by decide) (by simp at k2; omega)
    · rw [runW_back hi rfl]
      exact ⟨by simp only; omega, by simp, by simp only; omega⟩
theorem l8 : lowF Try.prog Try.f8 = some c8 := by kernel_rfl
set_option maxRecDepth 100000 in
set_option maxHeartbeats 4000000 in
theorem ends_body (p : List Ins) (r : Rec) : body Try.prog c8 [insV p, r.cv] [] (fun x m => x = vBool true) := by
  refine alive2_ok ?_
  refine run_ok p r ?_
  refine check_ok p ?_
  refine bB_bne (fun h => ?_) (fun h => ?_)
  · have e : runS p r = (0, 0) := by rw [runS, if_neg h]
    rw [e]
    exact rfl
  · have e : runS p r = runW p r 0 0 := by rw [runS, if_pos h]
    obtain ⟨g1, g2, _⟩ := check_all h
    obtain ⟨h1, h2, h3⟩ := runW_ends h r _ 0 0 rfl (by omega)
    rw [e]
    generalize runW p r 0 0 = x at h1 h2 h3
    obtain ⟨n, k⟩ := x
    simp only at h1 h2 h3
    have hl : (((p.map Ins.enc).length : Nat) : Int) = (p.length : Int) := by rw [List.length_map]
    rcases h1 with rfl | rfl
    · refine bB_yes (decide_eq_true h2) ?_
      show vBool _ = vBool _
      have : decide (k ≤ (((p.map Ins.enc).length : Nat) : Int)) = true := decide_eq_true (by rw [hl]; simpa using h3)
      rw [this]
    · refine bB_yes (decide_eq_true h2) ?_
      show vBool _ = vBool _
      have : decide (k ≤ (((p.map Ins.enc).length : Nat) : Int)) = true := decide_eq_true (by rw [hl]; simpa using h3)
      rw [this]
set_option maxRecDepth 100000 in
theorem ends_ok (p : List Ins) (r : Rec) : ACall Try.prog 8 [insV p, r.cv] [] (fun x m => x = vBool true) :=
  acall_body Try.func8 l8 rfl (Nat.le_of_ble_eq_true rfl) (ends_body p r)
end Go.Proofs.Ytflieebgiejjpaa
