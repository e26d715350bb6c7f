import Derived.Test.YtflieebgiejjpaaDvTab3
import Derived.Test.YtflieebgiejjpaaAmY
set_option linter.unusedVariables false
set_option linter.unusedSimpArgs false
namespace Go.Proofs.Ytflieebgiejjpaa
open Go.AM Go.ChangeShapes Go.WideShapes Go.ChangeAt Go.RowKit
def c5 : LF := ⟨201, [.tmp 8], (.seq (.reg [
    ⟨(some 7), .box (.t 3), none⟩,
    ⟨(some 8), .mov (.c (.rv (.one (.dat (.val (.bool false)))))), none⟩]) (.seq (.seq (.reg [
    ⟨(some 25), .mov (.t 0), none⟩,
    ⟨(some 26), .len 1 (.t 25), none⟩,
    ⟨(some 27), .mov (.c (.rv (.one (.dat (.val (.int .i64 (0))))))), none⟩]) (.block 0 (.loop (.seq (.reg [
    ⟨(some 28), .bin .lss (.t 27) (.t 26), none⟩]) (.seq (.cond (.t 28) .skip (.exit 0)) (.seq (.block 1 (.seq (.reg [
    ⟨(some 29), .idx 3 (.t 25) (.t 27), none⟩,
    ⟨(some 30), .load true 3 (.t 29), none⟩,
    ⟨(some 10), .alloc [(.dat (.val (.bool false))), (.dat (.val (.int .i64 (0)))), (.dat (.val (.int .i64 (0))))], none⟩,
    ⟨none, .store 3 (.t 10) (.t 30), none⟩]) (.seq (.reg [
    ⟨(some 31), .fadr 1 (.t 10), none⟩,
    ⟨(some 32), .fadr 1 (.t 31), none⟩,
    ⟨(some 33), .load false 1 (.t 32), none⟩,
    ⟨(some 34), .bin .lss (.t 33) (.c (.rv (.one (.dat (.val (.int .i64 (0))))))), none⟩,
    ⟨(some 35), .mov (.t 34), none⟩,
    ⟨(some 36), .fadr 1 (.t 10), (some (35, false))⟩,
    ⟨(some 37), .fadr 1 (.t 36), (some (35, false))⟩,
    ⟨(some 38), .load false 1 (.t 37), (some (35, false))⟩,
    ⟨(some 39), .bin .gtr (.t 38) (.c (.rv (.one (.dat (.val (.int .i64 (4095))))))), (some (35, false))⟩,
    ⟨(some 40), .pick (.t 35) (.c (.rv (.one (.dat (.val (.bool true)))))) (.t 39), none⟩]) (.cond (.t 40) (.seq (.reg [
    ⟨(some 8), .mov (.c (.rv (.one (.dat (.val (.bool true)))))), none⟩]) .ret) .skip)))) (.reg [
    ⟨(some 41), .bin .add (.t 27) (.c (.rv (.one (.dat (.val (.int .i64 (1))))))), none⟩,
    ⟨(some 27), .mov (.t 41), none⟩]))))))) (.seq (.reg [
    ⟨(some 43), .mov (.t 0), none⟩,
    ⟨(some 44), .mov (.t 1), none⟩,
    ⟨(some 45), .call (.c (.rv (.one (.fn 24 [])))) [(.t 43), (.t 44)], none⟩,
    ⟨(some 42), .mov (.t 45), none⟩,
    ⟨(some 46), .ext (.t 42) 0, none⟩,
    ⟨(some 47), .ext (.t 42) 1, none⟩,
    ⟨(some 11), .alloc [(.dat (.val (.int .i64 (0)))), (.dat (.val (.int .i64 (0))))], none⟩,
    ⟨none, .store 2 (.t 11) (.t 46), none⟩,
    ⟨(some 12), .mov (.t 47), none⟩]) (.seq (.reg [
    ⟨(some 49), .mov (.t 0), none⟩,
    ⟨(some 50), .mov (.t 1), none⟩,
    ⟨(some 51), .call (.c (.rv (.one (.fn 25 [])))) [(.t 49), (.t 50)], none⟩,
    ⟨(some 48), .mov (.t 51), none⟩,
    ⟨(some 52), .ext (.t 48) 0, none⟩,
    ⟨(some 53), .ext (.t 48) 1, none⟩,
    ⟨(some 13), .alloc [(.dat (.val (.int .i64 (0)))), (.dat (.val (.int .i64 (0))))], none⟩,
    ⟨none, .store 2 (.t 13) (.t 52), none⟩,
    ⟨(some 14), .mov (.t 53), none⟩]) (.seq (.seq (.reg [
    ⟨(some 54), .mov (.t 12), none⟩,
    ⟨(some 55), .mov (.t 14), none⟩,
    ⟨(some 56), .bin .neq (.t 54) (.t 55), none⟩,
    ⟨(some 57), .mov (.t 56), none⟩,
    ⟨(some 58), .load true 2 (.t 11), (some (57, false))⟩,
    ⟨(some 59), .load true 2 (.t 13), (some (57, false))⟩,
    ⟨(some 60), .eqa true [.i, .i] (.t 58) (.t 59), (some (57, false))⟩,
    ⟨(some 61), .pick (.t 57) (.c (.rv (.one (.dat (.val (.bool true)))))) (.t 60), none⟩]) (.cond (.t 61) (.seq (.reg [
    ⟨(some 8), .mov (.c (.rv (.one (.dat (.val (.bool false)))))), none⟩]) .ret) .skip)) (.seq (.reg [
    ⟨(some 63), .mov (.t 0), none⟩,
    ⟨(some 64), .load true 2 (.t 7), none⟩,
    ⟨(some 65), .call (.c (.rv (.one (.fn 26 [])))) [(.t 63), (.t 64)], none⟩,
    ⟨(some 62), .mov (.t 65), none⟩,
    ⟨(some 66), .ext (.t 62) 0, none⟩,
    ⟨(some 67), .ext (.t 62) 1, none⟩,
    ⟨(some 68), .ext (.t 62) 2, none⟩,
    ⟨(some 15), .mov (.t 66), none⟩,
    ⟨(some 16), .mov (.t 67), none⟩,
    ⟨(some 12), .mov (.t 68), none⟩]) (.seq (.reg [
    ⟨(some 70), .mov (.t 0), none⟩,
    ⟨(some 71), .load true 2 (.t 7), none⟩,
    ⟨(some 72), .call (.c (.rv (.one (.fn 27 [])))) [(.t 70), (.t 71)], none⟩,
    ⟨(some 69), .mov (.t 72), none⟩,
    ⟨(some 73), .ext (.t 69) 0, none⟩,
    ⟨(some 74), .ext (.t 69) 1, none⟩,
    ⟨(some 75), .ext (.t 69) 2, none⟩,
    ⟨(some 17), .mov (.t 73), none⟩,
    ⟨(some 18), .mov (.t 74), none⟩,
    ⟨(some 14), .mov (.t 75), none⟩]) (.seq (.seq (.reg [
    ⟨(some 76), .mov (.t 12), none⟩,
    ⟨(some 77), .mov (.t 14), none⟩,
    ⟨(some 78), .bin .neq (.t 76) (.t 77), none⟩,
    ⟨(some 79), .mov (.t 78), none⟩,
    ⟨(some 80), .mov (.t 16), (some (79, false))⟩,
    ⟨(some 81), .mov (.t 18), (some (79, false))⟩,
    ⟨(some 82), .bin .neq (.t 80) (.t 81), (some (79, false))⟩,
    ⟨(some 83), .pick (.t 79) (.c (.rv (.one (.dat (.val (.bool true)))))) (.t 82), none⟩,
    ⟨(some 84), .mov (.t 83), none⟩,
    ⟨(some 85), .mov (.t 15), (some (84, false))⟩,
    ⟨(some 86), .mov (.t 17), (some (84, false))⟩,
    ⟨(some 87), .call (.c (.rv (.one (.fn 28 [])))) [(.t 85), (.t 86)], (some (84, false))⟩,
    ⟨(some 88), .un .not (.t 87), (some (84, false))⟩,
    ⟨(some 89), .pick (.t 84) (.c (.rv (.one (.dat (.val (.bool true)))))) (.t 88), none⟩]) (.cond (.t 89) (.seq (.reg [
    ⟨(some 8), .mov (.c (.rv (.one (.dat (.val (.bool false)))))), none⟩]) .ret) .skip)) (.seq (.reg [
    ⟨(some 91), .mov (.t 0), none⟩,
    ⟨(some 92), .mov (.t 1), none⟩,
    ⟨(some 93), .call (.c (.rv (.one (.fn 29 [])))) [(.t 91), (.t 92)], none⟩,
    ⟨(some 90), .mov (.t 93), none⟩,
    ⟨(some 94), .ext (.t 90) 0, none⟩,
    ⟨(some 95), .ext (.t 90) 1, none⟩,
    ⟨(some 15), .mov (.t 94), none⟩,
    ⟨(some 12), .mov (.t 95), none⟩]) (.seq (.reg [
    ⟨(some 97), .mov (.t 0), none⟩,
    ⟨(some 98), .mov (.t 1), none⟩,
    ⟨(some 99), .call (.c (.rv (.one (.fn 30 [])))) [(.t 97), (.t 98)], none⟩,
    ⟨(some 96), .mov (.t 99), none⟩,
    ⟨(some 100), .ext (.t 96) 0, none⟩,
    ⟨(some 101), .ext (.t 96) 1, none⟩,
    ⟨(some 17), .mov (.t 100), none⟩,
    ⟨(some 14), .mov (.t 101), none⟩]) (.seq (.seq (.reg [
    ⟨(some 102), .mov (.t 12), none⟩,
    ⟨(some 103), .mov (.t 14), none⟩,
    ⟨(some 104), .bin .neq (.t 102) (.t 103), none⟩,
    ⟨(some 105), .mov (.t 104), none⟩,
    ⟨(some 106), .mov (.t 15), (some (105, false))⟩,
    ⟨(some 107), .mov (.t 17), (some (105, false))⟩,
    ⟨(some 108), .call (.c (.rv (.one (.fn 28 [])))) [(.t 106), (.t 107)], (some (105, false))⟩,
    ⟨(some 109), .un .not (.t 108), (some (105, false))⟩,
    ⟨(some 110), .pick (.t 105) (.c (.rv (.one (.dat (.val (.bool true)))))) (.t 109), none⟩]) (.cond (.t 110) (.seq (.reg [
    ⟨(some 8), .mov (.c (.rv (.one (.dat (.val (.bool false)))))), none⟩]) .ret) .skip)) (.seq (.reg [
    ⟨(some 112), .mov (.t 0), none⟩,
    ⟨(some 113), .mov (.t 1), none⟩,
    ⟨(some 114), .mov (.t 2), none⟩,
    ⟨(some 115), .call (.c (.rv (.one (.fn 31 [])))) [(.t 112), (.t 113), (.t 114)], none⟩,
    ⟨(some 111), .mov (.t 115), none⟩,
    ⟨(some 116), .ext (.t 111) 0, none⟩,
    ⟨(some 117), .ext (.t 111) 1, none⟩,
    ⟨(some 15), .mov (.t 116), none⟩,
    ⟨(some 12), .mov (.t 117), none⟩]) (.seq (.reg [
    ⟨(some 119), .mov (.t 0), none⟩,
    ⟨(some 120), .mov (.t 1), none⟩,
    ⟨(some 121), .mov (.t 2), none⟩,
    ⟨(some 122), .call (.c (.rv (.one (.fn 32 [])))) [(.t 119), (.t 120), (.t 121)], none⟩,
    ⟨(some 118), .mov (.t 122), none⟩,
    ⟨(some 123), .ext (.t 118) 0, none⟩,
    ⟨(some 124), .ext (.t 118) 1, none⟩,
    ⟨(some 17), .mov (.t 123), none⟩,
    ⟨(some 14), .mov (.t 124), none⟩]) (.seq (.seq (.reg [
    ⟨(some 125), .mov (.t 12), none⟩,
    ⟨(some 126), .mov (.t 14), none⟩,
    ⟨(some 127), .bin .neq (.t 125) (.t 126), none⟩,
    ⟨(some 128), .mov (.t 127), none⟩,
    ⟨(some 129), .mov (.t 15), (some (128, false))⟩,
    ⟨(some 130), .mov (.t 17), (some (128, false))⟩,
    ⟨(some 131), .call (.c (.rv (.one (.fn 28 [])))) [(.t 129), (.t 130)], (some (128, false))⟩,
    ⟨(some 132), .un .not (.t 131), (some (128, false))⟩,
    ⟨(some 133), .pick (.t 128) (.c (.rv (.one (.dat (.val (.bool true)))))) (.t 132), none⟩]) (.cond (.t 133) (.seq (.reg [
    ⟨(some 8), .mov (.c (.rv (.one (.dat (.val (.bool false)))))), none⟩]) .ret) .skip)) (.seq (.reg [
    ⟨(some 19), .mov (.c (.rv (.one (.dat (.val (.int .i64 (0))))))), none⟩]) (.seq (.reg [
    ⟨(some 134), .mov (.t 0), none⟩,
    ⟨(some 135), .call (.c (.rv (.one (.fn 33 [])))) [(.t 134)], none⟩,
    ⟨(some 20), .mov (.t 135), none⟩]) (.seq (.seq (.reg [
    ⟨(some 136), .mov (.t 0), none⟩,
    ⟨(some 137), .len 1 (.t 136), none⟩,
    ⟨(some 138), .mov (.c (.rv (.one (.dat (.val (.int .i64 (0))))))), none⟩]) (.block 2 (.loop (.seq (.reg [
    ⟨(some 139), .bin .lss (.t 138) (.t 137), none⟩]) (.seq (.cond (.t 139) .skip (.exit 2)) (.seq (.block 3 (.seq (.reg [
    ⟨(some 140), .mov (.t 138), none⟩,
    ⟨(some 141), .idx 3 (.t 136) (.t 138), none⟩,
    ⟨(some 142), .load true 3 (.t 141), none⟩,
    ⟨(some 22), .alloc [(.dat (.val (.bool false))), (.dat (.val (.int .i64 (0)))), (.dat (.val (.int .i64 (0))))], none⟩,
    ⟨(some 21), .mov (.t 140), none⟩,
    ⟨none, .store 3 (.t 22) (.t 142), none⟩]) (.seq (.reg [
    ⟨(some 143), .fadr 0 (.t 22), none⟩,
    ⟨(some 144), .load false 1 (.t 143), none⟩]) (.cond (.t 144) (.seq (.seq (.reg [
    ⟨(some 145), .mov (.t 19), none⟩,
    ⟨(some 146), .mov (.t 20), none⟩,
    ⟨(some 147), .len 1 (.t 146), none⟩,
    ⟨(some 148), .bin .geq (.t 145) (.t 147), none⟩,
    ⟨(some 149), .mov (.t 148), none⟩,
    ⟨(some 150), .mov (.t 20), (some (149, false))⟩,
    ⟨(some 151), .mov (.t 19), (some (149, false))⟩,
    ⟨(some 152), .idx 1 (.t 150) (.t 151), (some (149, false))⟩,
    ⟨(some 153), .load false 1 (.t 152), (some (149, false))⟩,
    ⟨(some 154), .mov (.t 21), (some (149, false))⟩,
    ⟨(some 155), .bin .neq (.t 153) (.t 154), (some (149, false))⟩,
    ⟨(some 156), .pick (.t 149) (.c (.rv (.one (.dat (.val (.bool true)))))) (.t 155), none⟩]) (.cond (.t 156) (.seq (.reg [
    ⟨(some 8), .mov (.c (.rv (.one (.dat (.val (.bool false)))))), none⟩]) .ret) .skip)) (.reg [
    ⟨(some 157), .mov (.t 19), none⟩,
    ⟨(some 158), .bin .add (.t 157) (.c (.rv (.one (.dat (.val (.int .i64 (1))))))), none⟩,
    ⟨(some 19), .mov (.t 158), none⟩])) .skip)))) (.reg [
    ⟨(some 159), .bin .add (.t 138) (.c (.rv (.one (.dat (.val (.int .i64 (1))))))), none⟩,
    ⟨(some 138), .mov (.t 159), none⟩]))))))) (.seq (.reg [
    ⟨(some 161), .mov (.t 0), none⟩,
    ⟨(some 162), .mov (.t 1), none⟩,
    ⟨(some 163), .call (.c (.rv (.one (.fn 34 [])))) [(.t 161), (.t 162)], none⟩,
    ⟨(some 160), .mov (.t 163), none⟩,
    ⟨(some 164), .ext (.t 160) 0, none⟩,
    ⟨(some 165), .ext (.t 160) 1, none⟩,
    ⟨(some 166), .ext (.t 160) 2, none⟩,
    ⟨(some 15), .mov (.t 164), none⟩,
    ⟨(some 16), .mov (.t 165), none⟩,
    ⟨(some 12), .mov (.t 166), none⟩]) (.seq (.reg [
    ⟨(some 17), .mov (.c (.rv (.one .esl))), none⟩,
    ⟨(some 18), .mov (.c (.rv (.one (.dat (.val (.int .i64 (0))))))), none⟩,
    ⟨(some 14), .mov (.c (.rv (.one (.dat (.val (.int .i64 (6))))))), none⟩]) (.seq (.seq (.reg [
    ⟨(some 168), .mov (.t 0), none⟩,
    ⟨(some 169), .mov (.t 1), none⟩,
    ⟨(some 170), .call (.c (.rv (.one (.fn 25 [])))) [(.t 168), (.t 169)], none⟩,
    ⟨(some 167), .mov (.t 170), none⟩,
    ⟨(some 171), .ext (.t 167) 0, none⟩,
    ⟨(some 172), .ext (.t 167) 1, none⟩,
    ⟨(some 23), .alloc [(.dat (.val (.int .i64 (0)))), (.dat (.val (.int .i64 (0))))], none⟩,
    ⟨none, .store 2 (.t 23) (.t 171), none⟩,
    ⟨(some 24), .mov (.t 172), none⟩]) (.seq (.reg [
    ⟨(some 173), .mov (.t 24), none⟩,
    ⟨(some 174), .bin .eql (.t 173) (.c (.rv (.one (.dat (.val (.int .i64 (0))))))), none⟩]) (.cond (.t 174) (.reg [
    ⟨(some 176), .mov (.t 0), none⟩,
    ⟨(some 177), .load true 2 (.t 23), none⟩,
    ⟨(some 178), .call (.c (.rv (.one (.fn 27 [])))) [(.t 176), (.t 177)], none⟩,
    ⟨(some 175), .mov (.t 178), none⟩,
    ⟨(some 179), .ext (.t 175) 0, none⟩,
    ⟨(some 180), .ext (.t 175) 1, none⟩,
    ⟨(some 181), .ext (.t 175) 2, none⟩,
    ⟨(some 17), .mov (.t 179), none⟩,
    ⟨(some 18), .mov (.t 180), none⟩,
    ⟨(some 14), .mov (.t 181), none⟩]) .skip))) (.seq (.reg [
    ⟨(some 182), .mov (.t 19), none⟩,
    ⟨(some 183), .mov (.t 20), none⟩,
    ⟨(some 184), .len 1 (.t 183), none⟩,
    ⟨(some 185), .bin .eql (.t 182) (.t 184), none⟩,
    ⟨(some 186), .mov (.t 185), none⟩,
    ⟨(some 187), .mov (.t 12), (some (186, true))⟩,
    ⟨(some 188), .mov (.t 14), (some (186, true))⟩,
    ⟨(some 189), .bin .eql (.t 187) (.t 188), (some (186, true))⟩,
    ⟨(some 190), .pick (.t 186) (.t 189) (.c (.rv (.one (.dat (.val (.bool false)))))), none⟩,
    ⟨(some 191), .mov (.t 190), none⟩,
    ⟨(some 192), .mov (.t 16), (some (191, true))⟩,
    ⟨(some 193), .mov (.t 18), (some (191, true))⟩,
    ⟨(some 194), .bin .eql (.t 192) (.t 193), (some (191, true))⟩,
    ⟨(some 195), .pick (.t 191) (.t 194) (.c (.rv (.one (.dat (.val (.bool false)))))), none⟩,
    ⟨(some 196), .mov (.t 195), none⟩,
    ⟨(some 197), .mov (.t 15), (some (196, true))⟩,
    ⟨(some 198), .mov (.t 17), (some (196, true))⟩,
    ⟨(some 199), .call (.c (.rv (.one (.fn 28 [])))) [(.t 197), (.t 198)], (some (196, true))⟩,
    ⟨(some 200), .pick (.t 196) (.t 199) (.c (.rv (.one (.dat (.val (.bool false)))))), none⟩,
    ⟨(some 8), .mov (.t 200), none⟩]) .ret)))))))))))))))))))))⟩
theorem putS_len (l : List Slot) (c : Cap) : (putS l c).1.length ≤ l.length + 1 := by
  unfold putS
  split
  · simp
  · split
    · simp
    · split <;> simp
theorem closeS_len (l : List Slot) (fd : Int) : (closeS l fd).1.length ≤ l.length := by
  unfold closeS
  split
  · simp; omega
  · simp
theorem limS_len (l : List Slot) (fd n : Int) : (limS l fd n).1.length ≤ l.length := by
  unfold limS
  split
  · split
    · simp
    · split <;> simp
  · simp
theorem getS_err (l : List Slot) (fd : Int) : (getS l fd).2 = 0 ∨ getS l fd = (⟨0, 0⟩, 6) := by
  unfold getS
  split
  · split <;> simp
  · simp
theorem allS_split (l : List Slot) (k i : Nat) : allS k l = allS k (l.take i) ++ allS (k + i) (l.drop i) := by
  induction l generalizing k i with
  | nil => simp [allS]
  | cons s r ih =>
    cases i with
    | zero => simp [allS]
    | succ i =>
      simp only [List.take_succ_cons, List.drop_succ_cons, allS]
      rw [ih (k + 1) i, show k + 1 + i = k + (i + 1) by omega]
      split <;> simp
theorem allS_at {l : List Slot} {i : Nat} {s : Slot} (h : l[i]? = some s) (hs : s.has = true) : (allS 0 l)[(allS 0 (l.take i)).length]? = some (i : Int) := by
  obtain ⟨hi, rfl⟩ := List.getElem?_eq_some_iff.1 h
  rw [allS_split l 0 i, List.getElem?_append_right (Nat.le_refl _), Nat.sub_self, List.drop_eq_getElem_cons hi]
  simp [allS, hs]
theorem allS_take' {l : List Slot} {i : Nat} {s : Slot} (h : l[i]? = some s) : (allS 0 (l.take (i + 1))).length = if s.has then (allS 0 (l.take i)).length + 1 else (allS 0 (l.take i)).length := by
  obtain ⟨hi, rfl⟩ := List.getElem?_eq_some_iff.1 h
  rw [allS_take l 0 i hi]
  split <;> simp
theorem intsD_get (l : List Int) (k : Nat) (x : Int) (h : l[k]? = some x) : getZ (intsD l) (k : Int) = some [.val (.int .i64 x)] := by
  rw [getZ_nat, intsD, List.getElem?_map, h]; rfl
theorem l5 : lowF Try.prog Try.f5 = some c5 := by kernel_rfl
set_option maxRecDepth 100000 in
set_option maxHeartbeats 8000000 in
theorem tells_body (l : List Slot) (hb : l.length ≤ 2097152) (fd n : Int) (c : Cap) : body Try.prog c5 [slotsV l, vInt .i64 fd, vInt .i64 n, .rv c.rv] [] (fun r m => r = vBool true) := by
  refine loop_mem (fun k => k ≤ l.length ∧ ∀ (i : Nat) s, i < k → l[i]? = some s → 0 ≤ s.cap.rts ∧ s.cap.rts ≤ 4095) (fun k => [(27, vInt .i64 (k : Nat)), (10, .junk), (28, .junk), (29, .junk), (30, .junk), (31, .junk), (32, .junk), (33, .junk), (34, .junk), (35, .junk), (36, .junk), (37, .junk), (38, .junk), (39, .junk), (40, .junk), (41, .junk)])
    (fun k => [.var [.dat (.val (.int .i64 c.opn)), .dat (.val (.int .i64 c.rts))]]) (fun k => l.length - k) 0 ⟨Nat.zero_le _, fun i s h => absurd h (Nat.not_lt_zero i)⟩ ?_ (fun k hk => ?_)
  · refine View.of 1 [0] [] rfl rfl rfl rfl rfl rfl ?_ ?_
    · repeat (first | exact .nil | refine .junk ?_ | refine .eq rfl ?_)
    · exact .put (by simp [memN]) rfl (.eq rfl (by simp)) (.nil _)
  · refine bB_split (fun h => ?_) (fun h => ?_)
    · have hlt : k < l.length := by
        have h : (k : Int) < ((l.map Slot.enc).length : Int) := of_decide_eq_true h
        simp at h
        omega
      have hg : getZ (l.map Slot.enc) (k : Nat) = some (l[k].enc) := by
        rw [getZ_nat, List.getElem?_map, List.getElem?_eq_getElem hlt]; rfl
      refine ok_some hg ?_
      refine bB_split (fun h1 => ?_) (fun h1 => ?_)
      · exact rfl
      · refine bB_split (fun h2 => ?_) (fun h2 => ?_)
        · exact rfl
        · have h1 : ¬ l[k].cap.rts < 0 := of_decide_eq_false h1
          have h2 : ¬ l[k].cap.rts > 4095 := of_decide_eq_false h2
          refine ⟨k + 1, ⟨hlt, fun i s hi hs => ?_⟩, ?_, View.of 2 [0] [] rfl rfl rfl rfl rfl rfl ?_ ?_⟩
          · rcases Nat.lt_or_ge i k with h5 | h5
            · exact hk.2 i s h5 hs
            · have : i = k := by omega
              subst this
              rw [List.getElem?_eq_getElem hlt] at hs
              cases hs
              omega
          · show l.length - (k + 1) < l.length - k
            omega
          · repeat (first | exact .nil | refine .junk ?_ | refine .put (.ren (next_i64 (by omega)).symm) ?_ | refine .eq rfl ?_)
          · exact .put (by simp [memN]) rfl (.eq rfl (by simp)) (.nil _)
    · have hge : ¬ (k : Int) < ((l.map Slot.enc).length : Int) := of_decide_eq_false h
      simp at hge
      have hr : ∀ s, s ∈ l → 0 ≤ s.cap.rts ∧ s.cap.rts ≤ 4095 := by
        intro s hs
        obtain ⟨i, hi⟩ := List.getElem?_of_mem hs
        have := (List.getElem?_eq_some_iff.1 hi).1
        exact hk.2 i s (by omega) hi
      clear hk h hge
      refine get_ok l fd ?_
      refine rget_ok l fd ?_
      refine bB_no (by simp) ?_
      refine bB_no (by simp) ?_
      refine put_ok l hb c ?_
      refine rput_ok l hb c ?_
      refine bB_no (by simp) ?_
      refine bB_no (by simp) ?_
      refine same_ok _ _ (by have := putS_len l c; omega) ?_
      refine bB_no (by rw [sameS_refl]; rfl) ?_
      refine close_ok l hb fd ?_
      refine rclose_ok l hb fd ?_
      refine bB_no (by simp) ?_
      refine same_ok _ _ (by have := closeS_len l fd; omega) ?_
      refine bB_no (by rw [sameS_refl]; rfl) ?_
      refine limit_ok l hb fd n ?_
      refine rlimit_ok l hb fd n hr ?_
      refine bB_no (by simp) ?_
      refine same_ok _ _ (by have := limS_len l fd n; omega) ?_
      refine bB_no (by rw [sameS_refl]; rfl) ?_
      refine all_ok l hb ?_
      clear hr
      have hal : (allS 0 l).length ≤ 2097152 := by
        have := allS_len l 0
        omega
      refine loop_mem (fun k => k ≤ l.length) (fun k => [(138, vInt .i64 (k : Nat)), (19, vInt .i64 ((allS 0 (l.take k)).length : Nat)), (7, .junk), (11, .junk), (13, .junk), (21, .junk), (22, .junk), (139, .junk), (140, .junk), (141, .junk), (142, .junk), (143, .junk), (144, .junk), (145, .junk), (146, .junk), (147, .junk), (148, .junk), (149, .junk), (150, .junk), (151, .junk), (152, .junk), (153, .junk), (154, .junk), (155, .junk), (156, .junk), (157, .junk), (158, .junk), (159, .junk)])
        (fun k => []) (fun k => l.length - k) 0 (Nat.zero_le _) ?_ (fun k hk => ?_)
      · refine View.of 3 [] [] rfl rfl rfl rfl rfl rfl ?_ (.nil _)
        · repeat (first | exact .nil | refine .junk ?_ | refine .eq rfl ?_)
      · refine bB_split (fun h => ?_) (fun h => ?_)
        · have hlt : k < l.length := by
            have h : (k : Int) < ((l.map Slot.enc).length : Int) := of_decide_eq_true h
            simp at h
            omega
          have hg : getZ (l.map Slot.enc) (k : Nat) = some (l[k].enc) := by
            rw [getZ_nat, List.getElem?_map, List.getElem?_eq_getElem hlt]; rfl
          have hs := allS_take' (List.getElem?_eq_getElem hlt)
          refine ok_some hg ?_
          refine bB_split (fun h1 => ?_) (fun h1 => ?_)
          · have hat := allS_at (List.getElem?_eq_getElem hlt) h1
            have hlt2 := (List.getElem?_eq_some_iff.1 hat).1
            rw [if_pos h1] at hs
            refine bB_no (decide_eq_false (by simp [intsD]; omega)) ?_
            refine ok_some (intsD_get _ _ _ hat) ?_
            refine bB_no (by simp) ?_
            refine ⟨k + 1, hlt, ?_, View.of 1 [] [] rfl rfl rfl rfl rfl rfl ?_ (.nil _)⟩
            · show l.length - (k + 1) < l.length - k
              omega
            · repeat (first | exact .nil | refine .junk ?_ | refine .put (.ren (next_i64 (by omega)).symm) ?_ | refine .eq rfl ?_ | refine .eq ((congrArg (fun x : Nat => vInt .i64 (x : Int)) hs).trans (next_i64 (by omega)).symm) ?_)
          · rw [if_neg (by simp [h1])] at hs
            refine ⟨k + 1, hlt, ?_, View.of 1 [] [] rfl rfl rfl rfl rfl rfl ?_ (.nil _)⟩
            · show l.length - (k + 1) < l.length - k
              omega
            · repeat (first | exact .nil | refine .junk ?_ | refine .put (.ren (next_i64 (by omega)).symm) ?_ | refine .eq rfl ?_ | refine .eq (congrArg (fun x : Nat => vInt .i64 (x : Int)) hs) ?_)
        · have hge : ¬ (k : Int) < ((l.map Slot.enc).length : Int) := of_decide_eq_false h
          simp at hge
          have hall : (allS 0 (l.take k)).length = (allS 0 l).length := by rw [List.take_of_length_le hge]
          clear h hge hk
          refine dup_ok l hb fd ?_
          refine rget_ok l fd ?_
          refine bB_split (fun h => ?_) (fun h => ?_)
          · have h : (getS l fd).2 = 0 := by simpa using h
            have hd : dupS l fd = putS l (getS l fd).1 := by rw [dupS, if_pos h]
            rw [hd]
            refine rput_ok l hb _ ?_
            refine bB_yes (by simp [hall, intsD]) ?_
            refine bB_yes (by simp) ?_
            refine bB_yes (by simp) ?_
            refine same_ok _ _ (by have := putS_len l (getS l fd).1; omega) ?_
            show vBool _ = vBool _
            rw [sameS_refl]
          · have h : ¬ (getS l fd).2 = 0 := by simpa using h
            have he : getS l fd = (⟨0, 0⟩, 6) := (getS_err l fd).resolve_left h
            have hd : dupS l fd = ([], 0, 6) := by rw [dupS, if_neg h, he]
            rw [hd]
            refine bB_yes (by simp [hall, intsD]) ?_
            refine acall_sub (.same (.esl 3 .nil)) (same_ok [] [] (by simp) ?_)
            exact rfl
end Go.Proofs.Ytflieebgiejjpaa
