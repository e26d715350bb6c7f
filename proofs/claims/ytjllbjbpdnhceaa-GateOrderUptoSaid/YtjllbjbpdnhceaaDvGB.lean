import Derived.Test.YtjllbjbpdnhceaaAmZ2
import Derived.Test.YtjllbjbpdnhceaaDvGA
import Derived.Test.YtjllbjbpdnhceaaAmY
set_option linter.unusedVariables false
set_option linter.unusedSimpArgs false
namespace Go.Proofs.Ytjllbjbpdnhceaa
open Go.AM Go.ChangeShapes Go.WideShapes Go.ChangeAt Go.RowKit
def c8 : LF := ⟨165, [.cell true 2 2], (.seq (.reg [
    ⟨(some 2), .alloc [(.dat (.val (.int .i64 (0)))), (.dat (.val (.int .i64 (0))))], none⟩]) (.seq (.reg [
    ⟨(some 9), .mov (.t 0), none⟩,
    ⟨(some 10), .len 1 (.t 9), none⟩,
    ⟨(some 3), .mov (.t 10), none⟩]) (.seq (.seq (.reg [
    ⟨(some 11), .mov (.t 3), none⟩,
    ⟨(some 12), .bin .lss (.t 11) (.c (.rv (.one (.dat (.val (.int .i64 (1))))))), none⟩,
    ⟨(some 13), .mov (.t 12), none⟩,
    ⟨(some 14), .mov (.t 3), (some (13, false))⟩,
    ⟨(some 15), .bin .gtr (.t 14) (.c (.rv (.one (.dat (.val (.int .i64 (400))))))), (some (13, false))⟩,
    ⟨(some 16), .pick (.t 13) (.c (.rv (.one (.dat (.val (.bool true)))))) (.t 15), none⟩]) (.cond (.t 16) (.seq (.reg [
    ⟨(some 17), .build [(.dat (.val (.int .i64 (0)))), (.dat (.val (.int .i64 (0))))] [(0, 1, (.c (.rv (.one (.dat (.val (.int .i64 (5))))))))], none⟩,
    ⟨none, .store 2 (.t 2) (.t 17), none⟩]) .ret) .skip)) (.seq (.seq (.reg [
    ⟨(some 18), .mov (.t 0), none⟩,
    ⟨(some 19), .len 1 (.t 18), none⟩,
    ⟨(some 20), .mov (.c (.rv (.one (.dat (.val (.int .i64 (0))))))), none⟩]) (.block 0 (.loop (.seq (.reg [
    ⟨(some 21), .bin .lss (.t 20) (.t 19), none⟩]) (.seq (.cond (.t 21) .skip (.exit 0)) (.seq (.block 1 (.seq (.reg [
    ⟨(some 22), .mov (.t 20), none⟩,
    ⟨(some 23), .idx 4 (.t 18) (.t 20), none⟩,
    ⟨(some 24), .load true 4 (.t 23), none⟩,
    ⟨(some 5), .alloc [(.dat (.val (.int .i64 (0)))), (.dat (.val (.int .i64 (0)))), (.dat (.val (.int .i64 (0)))), (.dat (.val (.int .i64 (0))))], none⟩,
    ⟨(some 4), .mov (.t 22), none⟩,
    ⟨none, .store 4 (.t 5) (.t 24), none⟩]) (.seq (.reg [
    ⟨(some 25), .mov (.t 3), none⟩,
    ⟨(some 26), .mov (.t 4), none⟩,
    ⟨(some 27), .bin .sub (.t 25) (.t 26), none⟩,
    ⟨(some 28), .bin .sub (.t 27) (.c (.rv (.one (.dat (.val (.int .i64 (2))))))), none⟩,
    ⟨(some 6), .mov (.t 28), none⟩]) (.ghost (.seq (.reg [
    ⟨(some 7), .mov (.c (.rv (.one (.dat (.val (.int .i64 (0))))))), none⟩]) (.seq (.reg [
    ⟨(some 29), .fadr 0 (.t 5), none⟩,
    ⟨(some 30), .load false 1 (.t 29), none⟩,
    ⟨(some 31), .bin .eql (.t 30) (.c (.rv (.one (.dat (.val (.int .i64 (2))))))), none⟩,
    ⟨(some 32), .mov (.t 31), none⟩,
    ⟨(some 33), .fadr 0 (.t 5), (some (32, false))⟩,
    ⟨(some 34), .load false 1 (.t 33), (some (32, false))⟩,
    ⟨(some 35), .bin .eql (.t 34) (.c (.rv (.one (.dat (.val (.int .i64 (3))))))), (some (32, false))⟩,
    ⟨(some 36), .pick (.t 32) (.c (.rv (.one (.dat (.val (.bool true)))))) (.t 35), none⟩,
    ⟨(some 37), .mov (.t 36), none⟩,
    ⟨(some 38), .fadr 0 (.t 5), (some (37, false))⟩,
    ⟨(some 39), .load false 1 (.t 38), (some (37, false))⟩,
    ⟨(some 40), .bin .eql (.t 39) (.c (.rv (.one (.dat (.val (.int .i64 (4))))))), (some (37, false))⟩,
    ⟨(some 41), .pick (.t 37) (.c (.rv (.one (.dat (.val (.bool true)))))) (.t 40), none⟩,
    ⟨(some 8), .mov (.t 41), none⟩]) (.seq (.block 2 (.seq (.reg [
    ⟨(some 43), .fadr 0 (.t 5), none⟩,
    ⟨(some 44), .load false 1 (.t 43), none⟩,
    ⟨(some 45), .bin .lss (.t 44) (.c (.rv (.one (.dat (.val (.int .i64 (1))))))), none⟩,
    ⟨(some 46), .mov (.t 45), none⟩,
    ⟨(some 47), .fadr 0 (.t 5), (some (46, false))⟩,
    ⟨(some 48), .load false 1 (.t 47), (some (46, false))⟩,
    ⟨(some 49), .bin .gtr (.t 48) (.c (.rv (.one (.dat (.val (.int .i64 (6))))))), (some (46, false))⟩,
    ⟨(some 50), .pick (.t 46) (.c (.rv (.one (.dat (.val (.bool true)))))) (.t 49), none⟩,
    ⟨(some 42), .mov (.t 50), none⟩]) (.cond (.t 42) (.reg [
    ⟨(some 7), .mov (.c (.rv (.one (.dat (.val (.int .i64 (1))))))), none⟩]) (.seq (.seq (.reg [
    ⟨(some 52), .fadr 0 (.t 5), none⟩,
    ⟨(some 53), .load false 1 (.t 52), none⟩,
    ⟨(some 54), .bin .eql (.t 53) (.c (.rv (.one (.dat (.val (.int .i64 (1))))))), none⟩,
    ⟨(some 55), .mov (.t 54), none⟩,
    ⟨(some 56), .fadr 3 (.t 5), (some (55, true))⟩,
    ⟨(some 57), .load false 1 (.t 56), (some (55, true))⟩,
    ⟨(some 58), .bin .lss (.t 57) (.c (.rv (.one (.dat (.val (.int .i64 (0))))))), (some (55, true))⟩,
    ⟨(some 59), .mov (.t 58), (some (55, true))⟩,
    ⟨(some 60), .fadr 3 (.t 5), (some (59, false))⟩,
    ⟨(some 61), .load false 1 (.t 60), (some (59, false))⟩,
    ⟨(some 62), .bin .gtr (.t 61) (.c (.rv (.one (.dat (.val (.int .i64 (5))))))), (some (59, false))⟩,
    ⟨(some 63), .pick (.t 59) (.c (.rv (.one (.dat (.val (.bool true)))))) (.t 62), (some (55, true))⟩,
    ⟨(some 64), .pick (.t 55) (.t 63) (.c (.rv (.one (.dat (.val (.bool false)))))), none⟩,
    ⟨(some 51), .mov (.t 64), none⟩]) (.cond (.t 51) .skip (.seq (.reg [
    ⟨(some 65), .mov (.t 8), none⟩,
    ⟨(some 66), .mov (.t 65), none⟩,
    ⟨(some 67), .fadr 3 (.t 5), (some (66, true))⟩,
    ⟨(some 68), .load false 1 (.t 67), (some (66, true))⟩,
    ⟨(some 69), .bin .lss (.t 68) (.c (.rv (.one (.dat (.val (.int .i64 (0))))))), (some (66, true))⟩,
    ⟨(some 70), .mov (.t 69), (some (66, true))⟩,
    ⟨(some 71), .fadr 3 (.t 5), (some (70, false))⟩,
    ⟨(some 72), .load false 1 (.t 71), (some (70, false))⟩,
    ⟨(some 73), .bin .geq (.t 72) (.c (.rv (.one (.dat (.val (.int .i64 (2147483648))))))), (some (70, false))⟩,
    ⟨(some 74), .pick (.t 70) (.c (.rv (.one (.dat (.val (.bool true)))))) (.t 73), (some (66, true))⟩,
    ⟨(some 75), .mov (.t 74), (some (66, true))⟩,
    ⟨(some 76), .fadr 1 (.t 5), (some (75, false))⟩,
    ⟨(some 77), .load false 1 (.t 76), (some (75, false))⟩,
    ⟨(some 78), .bin .lss (.t 77) (.c (.rv (.one (.dat (.val (.int .i64 (0))))))), (some (75, false))⟩,
    ⟨(some 79), .pick (.t 75) (.c (.rv (.one (.dat (.val (.bool true)))))) (.t 78), (some (66, true))⟩,
    ⟨(some 80), .mov (.t 79), (some (66, true))⟩,
    ⟨(some 81), .fadr 2 (.t 5), (some (80, false))⟩,
    ⟨(some 82), .load false 1 (.t 81), (some (80, false))⟩,
    ⟨(some 83), .bin .lss (.t 82) (.c (.rv (.one (.dat (.val (.int .i64 (0))))))), (some (80, false))⟩,
    ⟨(some 84), .pick (.t 80) (.c (.rv (.one (.dat (.val (.bool true)))))) (.t 83), (some (66, true))⟩,
    ⟨(some 85), .mov (.t 84), (some (66, true))⟩,
    ⟨(some 86), .fadr 1 (.t 5), (some (85, false))⟩,
    ⟨(some 87), .load false 1 (.t 86), (some (85, false))⟩,
    ⟨(some 88), .bin .gtr (.t 87) (.c (.rv (.one (.dat (.val (.int .i64 (40))))))), (some (85, false))⟩,
    ⟨(some 89), .pick (.t 85) (.c (.rv (.one (.dat (.val (.bool true)))))) (.t 88), (some (66, true))⟩,
    ⟨(some 90), .mov (.t 89), (some (66, true))⟩,
    ⟨(some 91), .fadr 2 (.t 5), (some (90, false))⟩,
    ⟨(some 92), .load false 1 (.t 91), (some (90, false))⟩,
    ⟨(some 93), .bin .gtr (.t 92) (.c (.rv (.one (.dat (.val (.int .i64 (40))))))), (some (90, false))⟩,
    ⟨(some 94), .pick (.t 90) (.c (.rv (.one (.dat (.val (.bool true)))))) (.t 93), (some (66, true))⟩,
    ⟨(some 95), .mov (.t 94), (some (66, true))⟩,
    ⟨(some 96), .fadr 1 (.t 5), (some (95, false))⟩,
    ⟨(some 97), .load false 1 (.t 96), (some (95, false))⟩,
    ⟨(some 98), .mov (.t 6), (some (95, false))⟩,
    ⟨(some 99), .bin .gtr (.t 97) (.t 98), (some (95, false))⟩,
    ⟨(some 100), .pick (.t 95) (.c (.rv (.one (.dat (.val (.bool true)))))) (.t 99), (some (66, true))⟩,
    ⟨(some 101), .mov (.t 100), (some (66, true))⟩,
    ⟨(some 102), .fadr 2 (.t 5), (some (101, false))⟩,
    ⟨(some 103), .load false 1 (.t 102), (some (101, false))⟩,
    ⟨(some 104), .mov (.t 6), (some (101, false))⟩,
    ⟨(some 105), .bin .gtr (.t 103) (.t 104), (some (101, false))⟩,
    ⟨(some 106), .pick (.t 101) (.c (.rv (.one (.dat (.val (.bool true)))))) (.t 105), (some (66, true))⟩,
    ⟨(some 107), .pick (.t 66) (.t 106) (.c (.rv (.one (.dat (.val (.bool false)))))), none⟩,
    ⟨(some 51), .mov (.t 107), none⟩]) (.cond (.t 51) .skip (.seq (.reg [
    ⟨(some 108), .fadr 0 (.t 5), none⟩,
    ⟨(some 109), .load false 1 (.t 108), none⟩,
    ⟨(some 110), .bin .eql (.t 109) (.c (.rv (.one (.dat (.val (.int .i64 (5))))))), none⟩,
    ⟨(some 111), .mov (.t 110), none⟩,
    ⟨(some 112), .fadr 3 (.t 5), (some (111, true))⟩,
    ⟨(some 113), .load false 1 (.t 112), (some (111, true))⟩,
    ⟨(some 114), .bin .lss (.t 113) (.c (.rv (.one (.dat (.val (.int .i64 (0))))))), (some (111, true))⟩,
    ⟨(some 115), .mov (.t 114), (some (111, true))⟩,
    ⟨(some 116), .fadr 3 (.t 5), (some (115, false))⟩,
    ⟨(some 117), .load false 1 (.t 116), (some (115, false))⟩,
    ⟨(some 118), .mov (.t 6), (some (115, false))⟩,
    ⟨(some 119), .bin .gtr (.t 117) (.t 118), (some (115, false))⟩,
    ⟨(some 120), .pick (.t 115) (.c (.rv (.one (.dat (.val (.bool true)))))) (.t 119), (some (111, true))⟩,
    ⟨(some 121), .pick (.t 111) (.t 120) (.c (.rv (.one (.dat (.val (.bool false)))))), none⟩,
    ⟨(some 51), .mov (.t 121), none⟩]) (.cond (.t 51) .skip (.reg [
    ⟨(some 122), .fadr 0 (.t 5), none⟩,
    ⟨(some 123), .load false 1 (.t 122), none⟩,
    ⟨(some 124), .bin .eql (.t 123) (.c (.rv (.one (.dat (.val (.int .i64 (6))))))), none⟩,
    ⟨(some 125), .mov (.t 124), none⟩,
    ⟨(some 126), .fadr 3 (.t 5), (some (125, true))⟩,
    ⟨(some 127), .load false 1 (.t 126), (some (125, true))⟩,
    ⟨(some 128), .bin .neq (.t 127) (.c (.rv (.one (.dat (.val (.int .i64 (0))))))), (some (125, true))⟩,
    ⟨(some 129), .pick (.t 125) (.t 128) (.c (.rv (.one (.dat (.val (.bool false)))))), none⟩,
    ⟨(some 130), .mov (.t 129), none⟩,
    ⟨(some 131), .fadr 3 (.t 5), (some (130, true))⟩,
    ⟨(some 132), .load false 1 (.t 131), (some (130, true))⟩,
    ⟨(some 133), .bin .neq (.t 132) (.c (.rv (.one (.dat (.val (.int .i64 (1))))))), (some (130, true))⟩,
    ⟨(some 134), .pick (.t 130) (.t 133) (.c (.rv (.one (.dat (.val (.bool false)))))), none⟩,
    ⟨(some 51), .mov (.t 134), none⟩]))))))) (.cond (.t 51) (.reg [
    ⟨(some 7), .mov (.c (.rv (.one (.dat (.val (.int .i64 (3))))))), none⟩]) (.seq (.reg [
    ⟨(some 136), .mov (.t 8), none⟩,
    ⟨(some 137), .un .not (.t 136), none⟩,
    ⟨(some 138), .mov (.t 137), none⟩,
    ⟨(some 139), .fadr 1 (.t 5), (some (138, true))⟩,
    ⟨(some 140), .load false 1 (.t 139), (some (138, true))⟩,
    ⟨(some 141), .bin .neq (.t 140) (.c (.rv (.one (.dat (.val (.int .i64 (0))))))), (some (138, true))⟩,
    ⟨(some 142), .mov (.t 141), (some (138, true))⟩,
    ⟨(some 143), .fadr 2 (.t 5), (some (142, false))⟩,
    ⟨(some 144), .load false 1 (.t 143), (some (142, false))⟩,
    ⟨(some 145), .bin .neq (.t 144) (.c (.rv (.one (.dat (.val (.int .i64 (0))))))), (some (142, false))⟩,
    ⟨(some 146), .pick (.t 142) (.c (.rv (.one (.dat (.val (.bool true)))))) (.t 145), (some (138, true))⟩,
    ⟨(some 147), .pick (.t 138) (.t 146) (.c (.rv (.one (.dat (.val (.bool false)))))), none⟩,
    ⟨(some 135), .mov (.t 147), none⟩]) (.cond (.t 135) (.reg [
    ⟨(some 7), .mov (.c (.rv (.one (.dat (.val (.int .i64 (2))))))), none⟩]) .skip))))))) (.seq (.reg [
    ⟨(some 148), .mov (.t 7), none⟩,
    ⟨(some 149), .bin .neq (.t 148) (.c (.rv (.one (.dat (.val (.int .i64 (0))))))), none⟩]) (.cond (.t 149) (.seq (.reg [
    ⟨(some 150), .mov (.t 7), none⟩,
    ⟨(some 151), .mov (.t 4), none⟩,
    ⟨(some 152), .build [(.dat (.val (.int .i64 (0)))), (.dat (.val (.int .i64 (0))))] [(0, 1, (.t 150)), (1, 1, (.t 151))], none⟩,
    ⟨none, .store 2 (.t 2) (.t 152), none⟩]) .ret) .skip))))))))) (.reg [
    ⟨(some 153), .bin .add (.t 20) (.c (.rv (.one (.dat (.val (.int .i64 (1))))))), none⟩,
    ⟨(some 20), .mov (.t 153), none⟩]))))))) (.seq (.seq (.reg [
    ⟨(some 154), .mov (.t 0), none⟩,
    ⟨(some 155), .mov (.t 3), none⟩,
    ⟨(some 156), .bin .sub (.t 155) (.c (.rv (.one (.dat (.val (.int .i64 (1))))))), none⟩,
    ⟨(some 157), .idx 4 (.t 154) (.t 156), none⟩,
    ⟨(some 158), .fadr 0 (.t 157), none⟩,
    ⟨(some 159), .load false 1 (.t 158), none⟩,
    ⟨(some 160), .bin .neq (.t 159) (.c (.rv (.one (.dat (.val (.int .i64 (6))))))), none⟩]) (.cond (.t 160) (.seq (.reg [
    ⟨(some 161), .mov (.t 3), none⟩,
    ⟨(some 162), .bin .sub (.t 161) (.c (.rv (.one (.dat (.val (.int .i64 (1))))))), none⟩,
    ⟨(some 163), .build [(.dat (.val (.int .i64 (0)))), (.dat (.val (.int .i64 (0))))] [(0, 1, (.c (.rv (.one (.dat (.val (.int .i64 (2)))))))), (1, 1, (.t 162))], none⟩,
    ⟨none, .store 2 (.t 2) (.t 163), none⟩]) .ret) .skip)) (.seq (.reg [
    ⟨(some 164), .build [(.dat (.val (.int .i64 (0)))), (.dat (.val (.int .i64 (0))))] [], none⟩,
    ⟨none, .store 2 (.t 2) (.t 164), none⟩]) .ret))))))⟩
theorem l8 : lowF Try.prog Try.f8 = some c8.er := by kernel_rfl
def b39 : LC := match c8.code with
  | .seq _ (.seq _ (.seq _ (.seq (.seq _ (.block _ (.loop b))) _))) => b
  | _ => .skip
def t39 : LC := match c8.code with
  | .seq _ (.seq _ (.seq _ (.seq _ t))) => t
  | _ => .skip
def K39 (p : List Ins) : Ex → St → Prop := blockK 0 (seqK (aw Try.prog 0 t39) (endK Try.prog c8.res fun r m => r = fltV (checkS p)))
def S39 (p : List Ins) (k : Nat) : St := ⟨[insV p, .junk, .rv (.one (.ptr 0 0)), vInt .i64 (((p.map Ins.enc).length : Nat) : Int), .junk, .junk, .junk, .junk, .junk, .junk, .junk, .junk, .junk, .junk, .junk, .junk, .junk, .junk, insV p, vInt .i64 (((p.map Ins.enc).length : Nat) : Int), vInt .i64 (k : Nat), .junk, .junk, .junk, .junk, .junk, .junk, .junk, .junk, .junk, .junk, .junk, .junk, .junk, .junk, .junk, .junk, .junk, .junk, .junk, .junk, .junk, .junk, .junk, .junk, .junk, .junk, .junk, .junk, .junk, .junk, .junk, .junk, .junk, .junk, .junk, .junk, .junk, .junk, .junk, .junk, .junk, .junk, .junk, .junk, .junk, .junk, .junk, .junk, .junk, .junk, .junk, .junk, .junk, .junk, .junk, .junk, .junk, .junk, .junk, .junk, .junk, .junk, .junk, .junk, .junk, .junk, .junk, .junk, .junk, .junk, .junk, .junk, .junk, .junk, .junk, .junk, .junk, .junk, .junk, .junk, .junk, .junk, .junk, .junk, .junk, .junk, .junk, .junk, .junk, .junk, .junk, .junk, .junk, .junk, .junk, .junk, .junk, .junk, .junk, .junk, .junk, .junk, .junk, .junk, .junk, .junk, .junk, .junk, .junk, .junk, .junk, .junk, .junk, .junk, .junk, .junk, .junk, .junk, .junk, .junk, .junk, .junk, .junk, .junk, .junk, .junk, .junk, .junk, .junk, .junk, .junk, .junk, .junk, .junk, .junk, .junk, .junk, .junk, .junk, .junk, .junk, .junk, .junk, .junk], [.var [.dat (.val (.int .i64 0)), .dat (.val (.int .i64 0))]]⟩
def J39 (p : List Ins) (k : Nat) : Prop := k ≤ p.length ∧ ∀ (j : Nat) i, j < k → p[j]? = some i → insE i (j : Int) p.length = 0
def Round39 (p : List Ins) (k : Nat) : Prop := aw Try.prog 0 b39 (loopK 0 (J39 p) (S39 p) (fun k => p.length - k) (p.length - k) (K39 p)) (S39 p k)
theorem left39 {p : List Ins} {k : Nat} (h1 : p.length ≤ 400) (hlt : k < p.length) : IntKind.i64.wrap (IntKind.i64.wrap ((((p.map Ins.enc).length : Nat) : Int) - (k : Int)) - 2) = (p.length : Int) - (k : Int) - 2 := by
  rw [List.length_map, wrapI (n := (p.length : Int) - k) (by omega) (by omega), wrapI (by omega) (by omega)]
theorem lt39 {p : List Ins} {k : Nat} (hlt : k < p.length) : decide ((k : Int) < (((p.map Ins.enc).length : Nat) : Int)) = true := decide_eq_true (by rw [List.length_map]; omega)

set_option maxRecDepth 100000 in
set_option maxHeartbeats 16000000 in
theorem r39_1 {p : List Ins} {k : Nat} (hlt : k < p.length) (h400 : p.length ≤ 400) {jt jf ik : Int} (hg : getZ (p.map Ins.enc) (k : Nat) = some [.val (.int .i64 1), .val (.int .i64 jt), .val (.int .i64 jf), .val (.int .i64 ik)])
    (bad : ∀ e, insE ⟨1, jt, jf, ik⟩ k p.length = e → e ≠ 0 → fltV (e, (k : Int)) = fltV (checkS p)) (good : insE ⟨1, jt, jf, ik⟩ k p.length = 0 → J39 p (k + 1)) : Round39 p k := by
  obtain ⟨L, hL⟩ : ∃ L : Int, L = (p.length : Int) - (k : Int) - 2 := ⟨_, rfl⟩
  have hleft := left39 h400 hlt
  rw [← hL] at hleft
  refine bB_yes (lt39 hlt) ?_
  refine ok_some hg ?_
  refine ghost_keep [2, 3, 4, 5, 18, 19, 20] [(6, vInt .i64 L), (0, insV p)] [.var [.dat (.val (.int .i64 0)), .dat (.val (.int .i64 0))], .var [.dat (.val (.int .i64 1)), .dat (.val (.int .i64 jt)), .dat (.val (.int .i64 jf)), .dat (.val (.int .i64 ik))]] (View.of 2 [0, 1] [] rfl rfl rfl rfl rfl rfl ?_ ?_) ?_
  · repeat (first | exact .nil | refine .junk ?_ | refine .eq (congrArg (fun x => vInt .i64 x) hleft.symm) ?_ | refine .eq rfl ?_)
  · exact .put (by simp [memN]) rfl (.eq rfl (by simp)) (.put (by simp [memN]) rfl (.eq rfl (by simp)) (.nil _))
  clear hleft
  refine bB_dec (fun h => ?_) (fun h10 => ?_)
  · exact bad 3 (by rw [insE_1]; rw [if_pos (by omega)]) (by decide)
  refine bB_dec (fun h => ?_) (fun h11 => ?_)
  · exact bad 3 (by rw [insE_1]; rw [if_pos (by omega)]) (by decide)
  refine bB_bne (fun h => ?_) (fun h12 => ?_)
  · exact bad 2 (by rw [insE_1]; rw [if_neg (by omega), if_pos (by omega)]) (by decide)
  refine bB_bne (fun h => ?_) (fun h13 => ?_)
  · exact bad 2 (by rw [insE_1]; rw [if_neg (by omega), if_pos (by omega)]) (by decide)
  refine ⟨k + 1, good (by rw [insE_1]; rw [if_neg (by omega), if_neg (by omega)]), (show p.length - (k + 1) < p.length - k by omega), View.of 2 [0] [] rfl rfl rfl rfl rfl rfl ?_ ?_⟩
  · repeat (first | exact .nil | refine .junk ?_ | refine .put (.ren (next_i64 (by omega)).symm) ?_ | refine .eq rfl ?_)
  · exact .put (by simp [memN]) rfl (.eq rfl (by simp)) (.nil _)

set_option maxRecDepth 100000 in
set_option maxHeartbeats 16000000 in
theorem r39_2 {p : List Ins} {k : Nat} (hlt : k < p.length) (h400 : p.length ≤ 400) {jt jf ik : Int} (hg : getZ (p.map Ins.enc) (k : Nat) = some [.val (.int .i64 2), .val (.int .i64 jt), .val (.int .i64 jf), .val (.int .i64 ik)])
    (bad : ∀ e, insE ⟨2, jt, jf, ik⟩ k p.length = e → e ≠ 0 → fltV (e, (k : Int)) = fltV (checkS p)) (good : insE ⟨2, jt, jf, ik⟩ k p.length = 0 → J39 p (k + 1)) : Round39 p k := by
  obtain ⟨L, hL⟩ : ∃ L : Int, L = (p.length : Int) - (k : Int) - 2 := ⟨_, rfl⟩
  have hleft := left39 h400 hlt
  rw [← hL] at hleft
  refine bB_yes (lt39 hlt) ?_
  refine ok_some hg ?_
  refine ghost_keep [2, 3, 4, 5, 18, 19, 20] [(6, vInt .i64 L), (0, insV p)] [.var [.dat (.val (.int .i64 0)), .dat (.val (.int .i64 0))], .var [.dat (.val (.int .i64 2)), .dat (.val (.int .i64 jt)), .dat (.val (.int .i64 jf)), .dat (.val (.int .i64 ik))]] (View.of 2 [0, 1] [] rfl rfl rfl rfl rfl rfl ?_ ?_) ?_
  · repeat (first | exact .nil | refine .junk ?_ | refine .eq (congrArg (fun x => vInt .i64 x) hleft.symm) ?_ | refine .eq rfl ?_)
  · exact .put (by simp [memN]) rfl (.eq rfl (by simp)) (.put (by simp [memN]) rfl (.eq rfl (by simp)) (.nil _))
  clear hleft
  refine bB_dec (fun h => ?_) (fun h14 => ?_)
  · exact bad 3 (by rw [insE_j _ _ _ _ _ _ (by omega)]; rw [if_pos (by omega)]) (by decide)
  refine bB_dec (fun h => ?_) (fun h15 => ?_)
  · exact bad 3 (by rw [insE_j _ _ _ _ _ _ (by omega)]; rw [if_pos (by omega)]) (by decide)
  refine bB_dec (fun h => ?_) (fun h16 => ?_)
  · exact bad 3 (by rw [insE_j _ _ _ _ _ _ (by omega)]; rw [if_pos (by omega)]) (by decide)
  refine bB_dec (fun h => ?_) (fun h17 => ?_)
  · exact bad 3 (by rw [insE_j _ _ _ _ _ _ (by omega)]; rw [if_pos (by omega)]) (by decide)
  refine bB_dec (fun h => ?_) (fun h18 => ?_)
  · exact bad 3 (by rw [insE_j _ _ _ _ _ _ (by omega)]; rw [if_pos (by omega)]) (by decide)
  refine bB_dec (fun h => ?_) (fun h19 => ?_)
  · exact bad 3 (by rw [insE_j _ _ _ _ _ _ (by omega)]; rw [if_pos (by omega)]) (by decide)
  refine bB_dec (fun h => ?_) (fun h20 => ?_)
  · exact bad 3 (by rw [insE_j _ _ _ _ _ _ (by omega)]; rw [if_pos (by omega)]) (by decide)
  refine bB_dec (fun h => ?_) (fun h21 => ?_)
  · exact bad 3 (by rw [insE_j _ _ _ _ _ _ (by omega)]; rw [if_pos (by omega)]) (by decide)
  refine ⟨k + 1, good (by rw [insE_j _ _ _ _ _ _ (by omega)]; rw [if_neg (by omega)]), (show p.length - (k + 1) < p.length - k by omega), View.of 2 [0] [] rfl rfl rfl rfl rfl rfl ?_ ?_⟩
  · repeat (first | exact .nil | refine .junk ?_ | refine .put (.ren (next_i64 (by omega)).symm) ?_ | refine .eq rfl ?_)
  · exact .put (by simp [memN]) rfl (.eq rfl (by simp)) (.nil _)

set_option maxRecDepth 100000 in
set_option maxHeartbeats 16000000 in
theorem r39_3 {p : List Ins} {k : Nat} (hlt : k < p.length) (h400 : p.length ≤ 400) {jt jf ik : Int} (hg : getZ (p.map Ins.enc) (k : Nat) = some [.val (.int .i64 3), .val (.int .i64 jt), .val (.int .i64 jf), .val (.int .i64 ik)])
    (bad : ∀ e, insE ⟨3, jt, jf, ik⟩ k p.length = e → e ≠ 0 → fltV (e, (k : Int)) = fltV (checkS p)) (good : insE ⟨3, jt, jf, ik⟩ k p.length = 0 → J39 p (k + 1)) : Round39 p k := by
  obtain ⟨L, hL⟩ : ∃ L : Int, L = (p.length : Int) - (k : Int) - 2 := ⟨_, rfl⟩
  have hleft := left39 h400 hlt
  rw [← hL] at hleft
  refine bB_yes (lt39 hlt) ?_
  refine ok_some hg ?_
  refine ghost_keep [2, 3, 4, 5, 18, 19, 20] [(6, vInt .i64 L), (0, insV p)] [.var [.dat (.val (.int .i64 0)), .dat (.val (.int .i64 0))], .var [.dat (.val (.int .i64 3)), .dat (.val (.int .i64 jt)), .dat (.val (.int .i64 jf)), .dat (.val (.int .i64 ik))]] (View.of 2 [0, 1] [] rfl rfl rfl rfl rfl rfl ?_ ?_) ?_
  · repeat (first | exact .nil | refine .junk ?_ | refine .eq (congrArg (fun x => vInt .i64 x) hleft.symm) ?_ | refine .eq rfl ?_)
  · exact .put (by simp [memN]) rfl (.eq rfl (by simp)) (.put (by simp [memN]) rfl (.eq rfl (by simp)) (.nil _))
  clear hleft
  refine bB_dec (fun h => ?_) (fun h22 => ?_)
  · exact bad 3 (by rw [insE_j _ _ _ _ _ _ (by omega)]; rw [if_pos (by omega)]) (by decide)
  refine bB_dec (fun h => ?_) (fun h23 => ?_)
  · exact bad 3 (by rw [insE_j _ _ _ _ _ _ (by omega)]; rw [if_pos (by omega)]) (by decide)
  refine bB_dec (fun h => ?_) (fun h24 => ?_)
  · exact bad 3 (by rw [insE_j _ _ _ _ _ _ (by omega)]; rw [if_pos (by omega)]) (by decide)
  refine bB_dec (fun h => ?_) (fun h25 => ?_)
  · exact bad 3 (by rw [insE_j _ _ _ _ _ _ (by omega)]; rw [if_pos (by omega)]) (by decide)
  refine bB_dec (fun h => ?_) (fun h26 => ?_)
  · exact bad 3 (by rw [insE_j _ _ _ _ _ _ (by omega)]; rw [if_pos (by omega)]) (by decide)
  refine bB_dec (fun h => ?_) (fun h27 => ?_)
  · exact bad 3 (by rw [insE_j _ _ _ _ _ _ (by omega)]; rw [if_pos (by omega)]) (by decide)
  refine bB_dec (fun h => ?_) (fun h28 => ?_)
  · exact bad 3 (by rw [insE_j _ _ _ _ _ _ (by omega)]; rw [if_pos (by omega)]) (by decide)
  refine bB_dec (fun h => ?_) (fun h29 => ?_)
  · exact bad 3 (by rw [insE_j _ _ _ _ _ _ (by omega)]; rw [if_pos (by omega)]) (by decide)
  refine ⟨k + 1, good (by rw [insE_j _ _ _ _ _ _ (by omega)]; rw [if_neg (by omega)]), (show p.length - (k + 1) < p.length - k by omega), View.of 2 [0] [] rfl rfl rfl rfl rfl rfl ?_ ?_⟩
  · repeat (first | exact .nil | refine .junk ?_ | refine .put (.ren (next_i64 (by omega)).symm) ?_ | refine .eq rfl ?_)
  · exact .put (by simp [memN]) rfl (.eq rfl (by simp)) (.nil _)


end Go.Proofs.Ytjllbjbpdnhceaa
