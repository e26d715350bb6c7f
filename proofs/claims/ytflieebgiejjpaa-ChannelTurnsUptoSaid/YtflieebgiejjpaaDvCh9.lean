import Derived.Test.YtflieebgiejjpaaAmZ2
import Derived.Test.YtflieebgiejjpaaDvCh8
import Derived.Test.YtflieebgiejjpaaAmY
set_option linter.unusedVariables false
set_option linter.unusedSimpArgs false
namespace Go.Proofs.Ytflieebgiejjpaa
open Go.AM Go.ChangeShapes Go.WideShapes Go.ChangeAt Go.RowKit
def c12 : LF := ⟨160, [.tmp 4], (.seq (.reg [
    ⟨(some 4), .mov (.c (.rv (.one (.dat (.val (.bool false)))))), none⟩]) (.seq (.seq (.reg [
    ⟨(some 23), .call (.c (.rv (.one (.fn 55 [])))) [], none⟩,
    ⟨(some 24), .un .not (.t 23), none⟩]) (.cond (.t 24) (.seq (.reg [
    ⟨(some 4), .mov (.c (.rv (.one (.dat (.val (.bool false)))))), none⟩]) .ret) .skip)) (.seq (.seq (.reg [
    ⟨(some 25), .mov (.t 0), none⟩,
    ⟨(some 26), .len 1 (.t 25), none⟩,
    ⟨(some 27), .bin .gtr (.t 26) (.c (.rv (.one (.dat (.val (.int .i64 (4))))))), none⟩,
    ⟨(some 28), .mov (.t 27), none⟩,
    ⟨(some 29), .mov (.t 1), (some (28, false))⟩,
    ⟨(some 30), .len 1 (.t 29), (some (28, false))⟩,
    ⟨(some 31), .bin .gtr (.t 30) (.c (.rv (.one (.dat (.val (.int .i64 (4))))))), (some (28, false))⟩,
    ⟨(some 32), .pick (.t 28) (.c (.rv (.one (.dat (.val (.bool true)))))) (.t 31), none⟩]) (.cond (.t 32) (.seq (.reg [
    ⟨(some 4), .mov (.c (.rv (.one (.dat (.val (.bool true)))))), none⟩]) .ret) .skip)) (.seq (.reg [
    ⟨(some 34), .build [(.dat (.val (.int .i64 (0)))), .esl, .esl, (.dat (.val (.string ⟨#[]⟩))), (.dat (.val (.int .i64 (0)))), .esl, (.dat (.val (.int .i64 (0)))), (.dat (.val (.int .i64 (0)))), (.dat (.val (.int .i64 (0))))] [(0, 1, (.c (.rv (.one (.dat (.val (.int .i64 (2)))))))), (7, 1, (.c (.rv (.one (.dat (.val (.int .i64 (1))))))))], none⟩,
    ⟨(some 35), .bsl 9 [(.dat (.val (.int .i64 (0)))), .esl, .esl, (.dat (.val (.string ⟨#[]⟩))), (.dat (.val (.int .i64 (0)))), .esl, (.dat (.val (.int .i64 (0)))), (.dat (.val (.int .i64 (0)))), (.dat (.val (.int .i64 (0))))] 1 [(0, (.t 34))], none⟩,
    ⟨(some 36), .call (.c (.rv (.one (.fn 48 [])))) [(.t 35)], none⟩,
    ⟨(some 33), .mov (.t 36), none⟩,
    ⟨(some 37), .ext (.t 33) 0, none⟩,
    ⟨(some 38), .ext (.t 33) 1, none⟩,
    ⟨(some 39), .ext (.t 33) 2, none⟩,
    ⟨(some 6), .alloc [(.dat (.val (.int .i64 (0)))), (.dat (.val (.int .i64 (0))))], none⟩,
    ⟨(some 5), .mov (.t 37), none⟩,
    ⟨none, .store 2 (.t 6) (.t 38), none⟩,
    ⟨(some 7), .mov (.t 39), none⟩]) (.seq (.seq (.reg [
    ⟨(some 40), .mov (.t 7), none⟩,
    ⟨(some 41), .bin .neq (.t 40) (.c (.rv (.one (.dat (.val (.int .i64 (0))))))), none⟩]) (.cond (.t 41) (.seq (.reg [
    ⟨(some 4), .mov (.c (.rv (.one (.dat (.val (.bool false)))))), none⟩]) .ret) .skip)) (.seq (.seq (.reg [
    ⟨(some 42), .mov (.t 0), none⟩,
    ⟨(some 43), .len 1 (.t 42), none⟩,
    ⟨(some 44), .mov (.t 1), none⟩,
    ⟨(some 45), .len 1 (.t 44), none⟩,
    ⟨(some 46), .minmax true [(.t 43), (.t 45)], none⟩,
    ⟨(some 47), .mov (.c (.rv (.one (.dat (.val (.int .i64 (0))))))), none⟩]) (.block 0 (.loop (.seq (.reg [
    ⟨(some 48), .bin .lss (.t 47) (.t 46), none⟩]) (.seq (.cond (.t 48) .skip (.exit 0)) (.seq (.block 1 (.seq (.reg [
    ⟨(some 49), .mov (.t 47), none⟩,
    ⟨(some 8), .mov (.t 49), none⟩]) (.seq (.seq (.reg [
    ⟨(some 50), .mov (.t 8), none⟩,
    ⟨(some 51), .mov (.t 0), none⟩,
    ⟨(some 52), .len 1 (.t 51), none⟩,
    ⟨(some 53), .bin .lss (.t 50) (.t 52), none⟩]) (.cond (.t 53) (.seq (.draw [
    ⟨(some 55), .mov (.t 5), none⟩,
    ⟨(some 56), .idxa 2 1 (.t 6) (.c (.rv (.one (.dat (.val (.int .i64 (0))))))), none⟩,
    ⟨(some 57), .load false 1 (.t 56), none⟩,
    ⟨(some 58), .mov (.t 0), none⟩,
    ⟨(some 59), .mov (.t 8), none⟩,
    ⟨(some 60), .idx 1 (.t 58) (.t 59), none⟩,
    ⟨(some 61), .load false 1 (.t 60), none⟩,
    ⟨(some 62), .s2b (.t 61), none⟩,
    ⟨(some 63), .build [.esl, (.dat (.val (.bool false))), (.dat (.val (.int .i64 (0)))), (.dat (.val (.int .i64 (0))))] [(0, 1, (.t 62))], none⟩,
    ⟨(some 64), .call (.c (.rv (.one (.fn 51 [])))) [(.t 55), (.t 57), (.t 63)], none⟩,
    ⟨(some 54), .mov (.t 64), none⟩,
    ⟨(some 65), .ext (.t 54) 0, none⟩,
    ⟨(some 66), .ext (.t 54) 1, none⟩,
    ⟨(some 9), .mov (.t 65), none⟩,
    ⟨(some 10), .mov (.t 66), none⟩]
    [[(0, none), (1, none), (2, none), (3, none), (4, none), (5, none), (6, none), (7, (some [2])), (8, none), (9, (some [])), (10, none), (11, none), (12, none), (13, none), (14, none)]]) (.seq (.seq (.reg [
    ⟨(some 67), .mov (.t 10), none⟩,
    ⟨(some 68), .bin .neq (.t 67) (.c (.rv (.one (.dat (.val (.int .i64 (0))))))), none⟩]) (.cond (.t 68) (.seq (.reg [
    ⟨(some 69), .mov (.t 0), none⟩,
    ⟨(some 70), .mov (.t 8), none⟩,
    ⟨(some 71), .idx 1 (.t 69) (.t 70), none⟩,
    ⟨(some 72), .load false 1 (.t 71), none⟩,
    ⟨(some 73), .len 0 (.t 72), none⟩,
    ⟨(some 74), .bin .gtr (.t 73) (.c (.rv (.one (.dat (.val (.int .i64 (60))))))), none⟩,
    ⟨(some 75), .mov (.t 74), none⟩,
    ⟨(some 76), .mov (.t 10), (some (75, true))⟩,
    ⟨(some 77), .bin .eql (.t 76) (.c (.rv (.one (.dat (.val (.int .i64 (4))))))), (some (75, true))⟩,
    ⟨(some 78), .pick (.t 75) (.t 77) (.c (.rv (.one (.dat (.val (.bool false)))))), none⟩,
    ⟨(some 4), .mov (.t 78), none⟩]) .ret) .skip)) (.reg [
    ⟨(some 79), .mov (.t 9), none⟩,
    ⟨(some 5), .mov (.t 79), none⟩]))) .skip)) (.ghost (.seq (.reg [
    ⟨(some 80), .mov (.t 8), none⟩,
    ⟨(some 81), .mov (.t 1), none⟩,
    ⟨(some 82), .len 1 (.t 81), none⟩,
    ⟨(some 83), .bin .lss (.t 80) (.t 82), none⟩]) (.cond (.t 83) (.seq (.draw [
    ⟨(some 85), .mov (.t 5), none⟩,
    ⟨(some 86), .idxa 2 1 (.t 6) (.c (.rv (.one (.dat (.val (.int .i64 (1))))))), none⟩,
    ⟨(some 87), .load false 1 (.t 86), none⟩,
    ⟨(some 88), .mov (.t 1), none⟩,
    ⟨(some 89), .mov (.t 8), none⟩,
    ⟨(some 90), .idx 1 (.t 88) (.t 89), none⟩,
    ⟨(some 91), .load false 1 (.t 90), none⟩,
    ⟨(some 92), .s2b (.t 91), none⟩,
    ⟨(some 93), .build [.esl, (.dat (.val (.bool false))), (.dat (.val (.int .i64 (0)))), (.dat (.val (.int .i64 (0))))] [(0, 1, (.t 92))], none⟩,
    ⟨(some 94), .call (.c (.rv (.one (.fn 51 [])))) [(.t 85), (.t 87), (.t 93)], none⟩,
    ⟨(some 84), .mov (.t 94), none⟩,
    ⟨(some 95), .ext (.t 84) 0, none⟩,
    ⟨(some 96), .ext (.t 84) 1, none⟩,
    ⟨(some 11), .mov (.t 95), none⟩,
    ⟨(some 12), .mov (.t 96), none⟩]
    [[(0, none), (1, none), (2, none), (3, none), (4, none), (5, none), (6, none), (7, (some [2])), (8, none), (9, (some [])), (10, none), (11, none), (12, none), (13, none), (14, none)]]) (.seq (.seq (.reg [
    ⟨(some 97), .mov (.t 12), none⟩,
    ⟨(some 98), .bin .neq (.t 97) (.c (.rv (.one (.dat (.val (.int .i64 (0))))))), none⟩]) (.cond (.t 98) (.seq (.reg [
    ⟨(some 99), .mov (.t 1), none⟩,
    ⟨(some 100), .mov (.t 8), none⟩,
    ⟨(some 101), .idx 1 (.t 99) (.t 100), none⟩,
    ⟨(some 102), .load false 1 (.t 101), none⟩,
    ⟨(some 103), .len 0 (.t 102), none⟩,
    ⟨(some 104), .bin .gtr (.t 103) (.c (.rv (.one (.dat (.val (.int .i64 (60))))))), none⟩,
    ⟨(some 105), .mov (.t 104), none⟩,
    ⟨(some 106), .mov (.t 12), (some (105, true))⟩,
    ⟨(some 107), .bin .eql (.t 106) (.c (.rv (.one (.dat (.val (.int .i64 (4))))))), (some (105, true))⟩,
    ⟨(some 108), .pick (.t 105) (.t 107) (.c (.rv (.one (.dat (.val (.bool false)))))), none⟩,
    ⟨(some 4), .mov (.t 108), none⟩]) .ret) .skip)) (.reg [
    ⟨(some 109), .mov (.t 11), none⟩,
    ⟨(some 5), .mov (.t 109), none⟩]))) .skip)))))) (.reg [
    ⟨(some 110), .bin .add (.t 47) (.c (.rv (.one (.dat (.val (.int .i64 (1))))))), none⟩,
    ⟨(some 47), .mov (.t 110), none⟩]))))))) (.seq (.seq (.reg [
    ⟨(some 111), .mov (.t 1), none⟩,
    ⟨(some 112), .mov (.t 0), none⟩,
    ⟨(some 113), .build [.esl, .esl] [(0, 1, (.t 111)), (1, 1, (.t 112))], none⟩,
    ⟨(some 114), .mov (.c (.rv (.one (.dat (.val (.int .i64 (0))))))), none⟩]) (.block 2 (.loop (.seq (.reg [
    ⟨(some 115), .bin .lss (.t 114) (.c (.rv (.one (.dat (.val (.int .i64 (2))))))), none⟩]) (.seq (.cond (.t 115) .skip (.exit 2)) (.seq (.block 3 (.seq (.reg [
    ⟨(some 116), .mov (.t 114), none⟩,
    ⟨(some 117), .fldx false 2 1 (.t 113) (.t 114), none⟩,
    ⟨(some 13), .mov (.t 116), none⟩,
    ⟨(some 14), .mov (.t 117), none⟩]) (.seq (.seq (.reg [
    ⟨(some 118), .mov (.t 14), none⟩,
    ⟨(some 119), .len 1 (.t 118), none⟩,
    ⟨(some 120), .mov (.c (.rv (.one (.dat (.val (.int .i64 (0))))))), none⟩]) (.block 4 (.loop (.seq (.reg [
    ⟨(some 121), .bin .lss (.t 120) (.t 119), none⟩]) (.seq (.cond (.t 121) .skip (.exit 4)) (.seq (.block 5 (.seq (.reg [
    ⟨(some 122), .idx 1 (.t 118) (.t 120), none⟩,
    ⟨(some 123), .load false 1 (.t 122), none⟩,
    ⟨(some 16), .mov (.t 123), none⟩]) (.seq (.reg [
    ⟨(some 125), .mov (.t 5), none⟩,
    ⟨(some 126), .mov (.t 13), none⟩,
    ⟨(some 127), .idxa 2 1 (.t 6) (.t 126), none⟩,
    ⟨(some 128), .load false 1 (.t 127), none⟩,
    ⟨(some 129), .call (.c (.rv (.one (.fn 53 [])))) [(.t 125), (.t 128)], none⟩,
    ⟨(some 124), .mov (.t 129), none⟩,
    ⟨(some 130), .ext (.t 124) 0, none⟩,
    ⟨(some 131), .ext (.t 124) 1, none⟩,
    ⟨(some 132), .ext (.t 124) 2, none⟩,
    ⟨(some 18), .alloc [.esl, (.dat (.val (.bool false))), (.dat (.val (.int .i64 (0)))), (.dat (.val (.int .i64 (0))))], none⟩,
    ⟨(some 17), .mov (.t 130), none⟩,
    ⟨none, .store 4 (.t 18) (.t 131), none⟩,
    ⟨(some 19), .mov (.t 132), none⟩]) (.seq (.seq (.reg [
    ⟨(some 133), .mov (.t 19), none⟩,
    ⟨(some 134), .bin .neq (.t 133) (.c (.rv (.one (.dat (.val (.int .i64 (0))))))), none⟩,
    ⟨(some 135), .mov (.t 134), none⟩,
    ⟨(some 136), .fadr 0 (.t 18), (some (135, false))⟩,
    ⟨(some 137), .load false 1 (.t 136), (some (135, false))⟩,
    ⟨(some 138), .b2s (.t 137), (some (135, false))⟩,
    ⟨(some 139), .mov (.t 16), (some (135, false))⟩,
    ⟨(some 140), .bin .neq (.t 138) (.t 139), (some (135, false))⟩,
    ⟨(some 141), .pick (.t 135) (.c (.rv (.one (.dat (.val (.bool true)))))) (.t 140), none⟩,
    ⟨(some 142), .mov (.t 141), none⟩,
    ⟨(some 143), .fadr 1 (.t 18), (some (142, false))⟩,
    ⟨(some 144), .load false 1 (.t 143), (some (142, false))⟩,
    ⟨(some 145), .pick (.t 142) (.c (.rv (.one (.dat (.val (.bool true)))))) (.t 144), none⟩]) (.cond (.t 145) (.seq (.reg [
    ⟨(some 4), .mov (.c (.rv (.one (.dat (.val (.bool false)))))), none⟩]) .ret) .skip)) (.reg [
    ⟨(some 146), .mov (.t 17), none⟩,
    ⟨(some 5), .mov (.t 146), none⟩]))))) (.reg [
    ⟨(some 147), .bin .add (.t 120) (.c (.rv (.one (.dat (.val (.int .i64 (1))))))), none⟩,
    ⟨(some 120), .mov (.t 147), none⟩]))))))) (.seq (.reg [
    ⟨(some 149), .mov (.t 5), none⟩,
    ⟨(some 150), .mov (.t 13), none⟩,
    ⟨(some 151), .idxa 2 1 (.t 6) (.t 150), none⟩,
    ⟨(some 152), .load false 1 (.t 151), none⟩,
    ⟨(some 153), .call (.c (.rv (.one (.fn 53 [])))) [(.t 149), (.t 152)], none⟩,
    ⟨(some 148), .mov (.t 153), none⟩,
    ⟨(some 154), .ext (.t 148) 0, none⟩,
    ⟨(some 155), .ext (.t 148) 1, none⟩,
    ⟨(some 156), .ext (.t 148) 2, none⟩,
    ⟨(some 21), .alloc [.esl, (.dat (.val (.bool false))), (.dat (.val (.int .i64 (0)))), (.dat (.val (.int .i64 (0))))], none⟩,
    ⟨(some 20), .mov (.t 154), none⟩,
    ⟨none, .store 4 (.t 21) (.t 155), none⟩,
    ⟨(some 22), .mov (.t 156), none⟩]) (.seq (.reg [
    ⟨(some 157), .mov (.t 22), none⟩,
    ⟨(some 158), .bin .neq (.t 157) (.c (.rv (.one (.dat (.val (.int .i64 (16))))))), none⟩]) (.cond (.t 158) (.seq (.reg [
    ⟨(some 4), .mov (.c (.rv (.one (.dat (.val (.bool false)))))), none⟩]) .ret) .skip)))))) (.reg [
    ⟨(some 159), .bin .add (.t 114) (.c (.rv (.one (.dat (.val (.int .i64 (1))))))), none⟩,
    ⟨(some 114), .mov (.t 159), none⟩]))))))) (.seq (.reg [
    ⟨(some 4), .mov (.c (.rv (.one (.dat (.val (.bool true)))))), none⟩]) .ret))))))))⟩
/-! what is sent comes, in turn -/
def strD (s : ByteArray) : List (List Dt) := s.data.toList.map fun b => [.val (.int .u8 b.toNat)]
theorem bytesR_eq (s : ByteArray) : bytesR s = dRows (strD s) := by
  simp [bytesR, dRows, strD]
theorem strD_len (s : ByteArray) : (strD s).length = s.size := by simp [strD]
theorem numsC_str (s : ByteArray) : numsC ((strD s).map fun ds => ds.map .dat) = some (s.data.toList.map fun b => (b.toNat : Int)) := by
  simp only [strD]
  induction s.data.toList with
  | nil => rfl
  | cons b r ih =>
    simp only [List.map_cons, List.map_nil, numsC]
    rw [ih]
theorem strOf_str (s : ByteArray) : strOfNums (s.data.toList.map fun b => (b.toNat : Int)) = s := by
  have h : ∀ l : List UInt8, (l.map fun b => (b.toNat : Int)).map (fun n => UInt8.ofNat n.toNat) = l := by
    intro l
    induction l with
    | nil => rfl
    | cons b r ih => simp only [List.map_cons, ih]; simp
  cases s with
  | mk d =>
    simp only [strOfNums, h]
def strM (s : ByteArray) : Msg := ⟨strD s, false, 0, 0⟩
def strRow (s : ByteArray) : List Dt := [.val (.string s)]
def strsV (l : List ByteArray) : CV := .rv (.one (.dat (.sl 1 (l.map strRow))))
def dir1 : Obj := { dirO with links := 1 }
def L4 (a b : List Msg) : List Obj := [dir1, { endO 2 with queue := a }, { endO 1 with queue := b }]
theorem fit_L4 {a b : List Msg} (ha : a.length ≤ 4194304) (hb : b.length ≤ 4194304) (ha2 : ∀ q, q ∈ a → q.data.length ≤ 4194304) (hb2 : ∀ q, q ∈ b → q.data.length ≤ 4194304) : fitL (L4 a b) := by
  refine ⟨by simp [L4], fun o ho => ?_⟩
  simp only [L4, List.mem_cons, List.not_mem_nil, or_false] at ho
  rcases ho with rfl | rfl | rfl
  · simp [Obj.fit, dirO, dir1]
  · exact ⟨by simp [endO], by simp [endO], ha, ha2⟩
  · exact ⟨by simp [endO], by simp [endO], hb, hb2⟩
theorem fit_S {a b : List ByteArray} (ha : a.length ≤ 4) (hb : b.length ≤ 4) (ha2 : ∀ s, s ∈ a → s.size ≤ 4194304) (hb2 : ∀ s, s ∈ b → s.size ≤ 4194304) : fitL (L4 (a.map strM) (b.map strM)) := by
  refine fit_L4 (by simp; omega) (by simp; omega) (fun q hq => ?_) (fun q hq => ?_)
  · obtain ⟨s, hs, rfl⟩ := List.mem_map.1 hq
    show (strD s).length ≤ _
    rw [strD_len]; exact ha2 s hs
  · obtain ⟨s, hs, rfl⟩ := List.mem_map.1 hq
    show (strD s).length ≤ _
    rw [strD_len]; exact hb2 s hs
theorem fit_dir1 : fitL [dir1] := by
  refine ⟨by simp, fun o ho => ?_⟩
  simp at ho
  subst ho
  simp [Obj.fit, dirO, dir1]
theorem pair_dir1 : pairS [dir1] = (L4 [] [], (1, 2), 0) := rfl
theorem send_L4b (a b : List Msg) (m : Msg) : sendS (L4 a b) 1 m = if m.data.length > 60 then ([], 4) else if b.length ≥ 4 then ([], 15) else (L4 a (b ++ [m]), 0) := rfl
theorem send_L4a (a b : List Msg) (m : Msg) : sendS (L4 a b) 2 m = if m.data.length > 60 then ([], 4) else if a.length ≥ 4 then ([], 15) else (L4 (a ++ [m]) b, 0) := rfl
theorem recv_L4a (x : Msg) (a b : List Msg) : recvS (L4 (x :: a) b) 1 = (L4 a b, x, 0) := rfl
theorem recv_L4a0 (b : List Msg) : recvS (L4 [] b) 1 = ([], msgZ, 16) := rfl
theorem recv_L4b (x : Msg) (a b : List Msg) : recvS (L4 a (x :: b)) 2 = (L4 a b, x, 0) := rfl
theorem recv_L4b0 (a : List Msg) : recvS (L4 a []) 2 = ([], msgZ, 16) := rfl
end Go.Proofs.Ytflieebgiejjpaa
