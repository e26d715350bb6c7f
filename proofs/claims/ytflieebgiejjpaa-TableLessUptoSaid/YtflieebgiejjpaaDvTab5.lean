import Derived.Test.YtflieebgiejjpaaDvTab4
import Derived.Test.YtflieebgiejjpaaAmY
set_option linter.unusedVariables false
set_option linter.unusedSimpArgs false
namespace Go.Proofs.Ytflieebgiejjpaa
open Go.AM Go.ChangeShapes Go.WideShapes Go.ChangeAt Go.RowKit
def c6 : LF := ⟨139, [.tmp 8], (.seq (.reg [
    ⟨(some 8), .mov (.c (.rv (.one (.dat (.val (.bool false)))))), none⟩]) (.seq (.seq (.reg [
    ⟨(some 24), .call (.c (.rv (.one (.fn 35 [])))) [], none⟩,
    ⟨(some 25), .un .not (.t 24), none⟩]) (.cond (.t 25) (.seq (.reg [
    ⟨(some 8), .mov (.c (.rv (.one (.dat (.val (.bool false)))))), none⟩]) .ret) .skip)) (.seq (.reg [
    ⟨(some 27), .mov (.t 0), none⟩,
    ⟨(some 28), .mov (.t 1), none⟩,
    ⟨(some 29), .call (.c (.rv (.one (.fn 24 [])))) [(.t 27), (.t 28)], none⟩,
    ⟨(some 26), .mov (.t 29), none⟩,
    ⟨(some 30), .ext (.t 26) 0, none⟩,
    ⟨(some 31), .ext (.t 26) 1, none⟩,
    ⟨(some 9), .alloc [(.dat (.val (.int .i64 (0)))), (.dat (.val (.int .i64 (0))))], none⟩,
    ⟨none, .store 2 (.t 9) (.t 30), none⟩,
    ⟨(some 10), .mov (.t 31), none⟩]) (.seq (.seq (.reg [
    ⟨(some 32), .mov (.t 10), none⟩,
    ⟨(some 33), .bin .neq (.t 32) (.c (.rv (.one (.dat (.val (.int .i64 (0))))))), none⟩,
    ⟨(some 34), .mov (.t 33), none⟩,
    ⟨(some 35), .mov (.t 3), (some (34, false))⟩,
    ⟨(some 36), .bin .lss (.t 35) (.c (.rv (.one (.dat (.val (.int .i64 (0))))))), (some (34, false))⟩,
    ⟨(some 37), .pick (.t 34) (.c (.rv (.one (.dat (.val (.bool true)))))) (.t 36), none⟩,
    ⟨(some 38), .mov (.t 37), none⟩,
    ⟨(some 39), .mov (.t 3), (some (38, false))⟩,
    ⟨(some 40), .bin .gtr (.t 39) (.c (.rv (.one (.dat (.val (.int .i64 (4095))))))), (some (38, false))⟩,
    ⟨(some 41), .pick (.t 38) (.c (.rv (.one (.dat (.val (.bool true)))))) (.t 40), none⟩,
    ⟨(some 42), .mov (.t 41), none⟩,
    ⟨(some 43), .fadr 1 (.t 9), (some (42, false))⟩,
    ⟨(some 44), .load false 1 (.t 43), (some (42, false))⟩,
    ⟨(some 45), .bin .lss (.t 44) (.c (.rv (.one (.dat (.val (.int .i64 (0))))))), (some (42, false))⟩,
    ⟨(some 46), .pick (.t 42) (.c (.rv (.one (.dat (.val (.bool true)))))) (.t 45), none⟩,
    ⟨(some 47), .mov (.t 46), none⟩,
    ⟨(some 48), .fadr 1 (.t 9), (some (47, false))⟩,
    ⟨(some 49), .load false 1 (.t 48), (some (47, false))⟩,
    ⟨(some 50), .bin .gtr (.t 49) (.c (.rv (.one (.dat (.val (.int .i64 (4095))))))), (some (47, false))⟩,
    ⟨(some 51), .pick (.t 47) (.c (.rv (.one (.dat (.val (.bool true)))))) (.t 50), none⟩]) (.cond (.t 51) (.seq (.reg [
    ⟨(some 8), .mov (.c (.rv (.one (.dat (.val (.bool true)))))), none⟩]) .ret) .skip)) (.seq (.seq (.reg [
    ⟨(some 53), .mov (.t 0), none⟩,
    ⟨(some 54), .mov (.t 1), none⟩,
    ⟨(some 55), .mov (.t 2), none⟩,
    ⟨(some 56), .call (.c (.rv (.one (.fn 31 [])))) [(.t 53), (.t 54), (.t 55)], none⟩,
    ⟨(some 52), .mov (.t 56), none⟩,
    ⟨(some 57), .ext (.t 52) 0, none⟩,
    ⟨(some 58), .ext (.t 52) 1, none⟩,
    ⟨(some 11), .mov (.t 57), none⟩,
    ⟨(some 12), .mov (.t 58), none⟩]) (.seq (.reg [
    ⟨(some 59), .mov (.t 12), none⟩,
    ⟨(some 60), .bin .eql (.t 59) (.c (.rv (.one (.dat (.val (.int .i64 (0))))))), none⟩]) (.cond (.t 60) (.seq (.reg [
    ⟨(some 62), .mov (.t 11), none⟩,
    ⟨(some 63), .mov (.t 1), none⟩,
    ⟨(some 64), .call (.c (.rv (.one (.fn 24 [])))) [(.t 62), (.t 63)], none⟩,
    ⟨(some 61), .mov (.t 64), none⟩,
    ⟨(some 65), .ext (.t 61) 0, none⟩,
    ⟨(some 66), .ext (.t 61) 1, none⟩,
    ⟨(some 13), .alloc [(.dat (.val (.int .i64 (0)))), (.dat (.val (.int .i64 (0))))], none⟩,
    ⟨none, .store 2 (.t 13) (.t 65), none⟩,
    ⟨(some 14), .mov (.t 66), none⟩]) (.seq (.seq (.reg [
    ⟨(some 67), .mov (.t 14), none⟩,
    ⟨(some 68), .bin .neq (.t 67) (.c (.rv (.one (.dat (.val (.int .i64 (0))))))), none⟩,
    ⟨(some 69), .mov (.t 68), none⟩,
    ⟨(some 70), .fadr 0 (.t 13), (some (69, false))⟩,
    ⟨(some 71), .load false 1 (.t 70), (some (69, false))⟩,
    ⟨(some 72), .fadr 0 (.t 9), (some (69, false))⟩,
    ⟨(some 73), .load false 1 (.t 72), (some (69, false))⟩,
    ⟨(some 74), .bin .neq (.t 71) (.t 73), (some (69, false))⟩,
    ⟨(some 75), .pick (.t 69) (.c (.rv (.one (.dat (.val (.bool true)))))) (.t 74), none⟩,
    ⟨(some 76), .mov (.t 75), none⟩,
    ⟨(some 77), .fadr 1 (.t 13), (some (76, false))⟩,
    ⟨(some 78), .load false 1 (.t 77), (some (76, false))⟩,
    ⟨(some 79), .fadr 1 (.t 9), (some (76, false))⟩,
    ⟨(some 80), .load false 1 (.t 79), (some (76, false))⟩,
    ⟨(some 81), .call (.c (.rv (.one (.fn 36 [])))) [(.t 78), (.t 80)], (some (76, false))⟩,
    ⟨(some 82), .un .not (.t 81), (some (76, false))⟩,
    ⟨(some 83), .pick (.t 76) (.c (.rv (.one (.dat (.val (.bool true)))))) (.t 82), none⟩]) (.cond (.t 83) (.seq (.reg [
    ⟨(some 8), .mov (.c (.rv (.one (.dat (.val (.bool false)))))), none⟩]) .ret) .skip)) (.seq (.reg [
    ⟨(some 85), .mov (.t 11), none⟩,
    ⟨(some 86), .mov (.t 1), none⟩,
    ⟨(some 87), .mov (.t 3), none⟩,
    ⟨(some 88), .call (.c (.rv (.one (.fn 37 [])))) [(.t 85), (.t 86), (.t 87)], none⟩,
    ⟨(some 84), .mov (.t 88), none⟩,
    ⟨(some 89), .ext (.t 84) 0, none⟩,
    ⟨(some 90), .ext (.t 84) 1, none⟩,
    ⟨(some 15), .alloc [(.dat (.val (.int .i64 (0)))), (.dat (.val (.int .i64 (0))))], none⟩,
    ⟨none, .store 2 (.t 15) (.t 89), none⟩,
    ⟨(some 16), .mov (.t 90), none⟩]) (.seq (.reg [
    ⟨(some 92), .mov (.t 0), none⟩,
    ⟨(some 93), .mov (.t 1), none⟩,
    ⟨(some 94), .mov (.t 3), none⟩,
    ⟨(some 95), .call (.c (.rv (.one (.fn 37 [])))) [(.t 92), (.t 93), (.t 94)], none⟩,
    ⟨(some 91), .mov (.t 95), none⟩,
    ⟨(some 96), .ext (.t 91) 0, none⟩,
    ⟨(some 97), .ext (.t 91) 1, none⟩,
    ⟨(some 17), .alloc [(.dat (.val (.int .i64 (0)))), (.dat (.val (.int .i64 (0))))], none⟩,
    ⟨none, .store 2 (.t 17) (.t 96), none⟩,
    ⟨(some 18), .mov (.t 97), none⟩]) (.seq (.reg [
    ⟨(some 98), .mov (.t 16), none⟩,
    ⟨(some 99), .bin .eql (.t 98) (.c (.rv (.one (.dat (.val (.int .i64 (0))))))), none⟩,
    ⟨(some 100), .mov (.t 99), none⟩,
    ⟨(some 101), .mov (.t 18), (some (100, true))⟩,
    ⟨(some 102), .bin .neq (.t 101) (.c (.rv (.one (.dat (.val (.int .i64 (0))))))), (some (100, true))⟩,
    ⟨(some 103), .pick (.t 100) (.t 102) (.c (.rv (.one (.dat (.val (.bool false)))))), none⟩]) (.cond (.t 103) (.seq (.reg [
    ⟨(some 8), .mov (.c (.rv (.one (.dat (.val (.bool false)))))), none⟩]) .ret) .skip)))))) .skip))) (.seq (.reg [
    ⟨(some 105), .mov (.t 0), none⟩,
    ⟨(some 106), .mov (.t 1), none⟩,
    ⟨(some 107), .call (.c (.rv (.one (.fn 34 [])))) [(.t 105), (.t 106)], none⟩,
    ⟨(some 104), .mov (.t 107), none⟩,
    ⟨(some 108), .ext (.t 104) 0, none⟩,
    ⟨(some 109), .ext (.t 104) 1, none⟩,
    ⟨(some 110), .ext (.t 104) 2, none⟩,
    ⟨(some 19), .mov (.t 108), none⟩,
    ⟨(some 20), .mov (.t 109), none⟩,
    ⟨(some 21), .mov (.t 110), none⟩]) (.seq (.seq (.reg [
    ⟨(some 111), .mov (.t 21), none⟩,
    ⟨(some 112), .bin .neq (.t 111) (.c (.rv (.one (.dat (.val (.int .i64 (0))))))), none⟩]) (.cond (.t 112) (.seq (.reg [
    ⟨(some 113), .mov (.t 21), none⟩,
    ⟨(some 114), .bin .neq (.t 113) (.c (.rv (.one (.dat (.val (.int .i64 (15))))))), none⟩,
    ⟨(some 115), .mov (.t 114), none⟩,
    ⟨(some 116), .mov (.t 0), (some (115, false))⟩,
    ⟨(some 117), .call (.c (.rv (.one (.fn 33 [])))) [(.t 116)], (some (115, false))⟩,
    ⟨(some 118), .len 1 (.t 117), (some (115, false))⟩,
    ⟨(some 119), .bin .geq (.t 118) (.c (.rv (.one (.dat (.val (.int .i64 (10))))))), (some (115, false))⟩,
    ⟨(some 120), .pick (.t 115) (.c (.rv (.one (.dat (.val (.bool true)))))) (.t 119), none⟩,
    ⟨(some 8), .mov (.t 120), none⟩]) .ret) .skip)) (.seq (.reg [
    ⟨(some 122), .mov (.t 19), none⟩,
    ⟨(some 123), .mov (.t 20), none⟩,
    ⟨(some 124), .call (.c (.rv (.one (.fn 24 [])))) [(.t 122), (.t 123)], none⟩,
    ⟨(some 121), .mov (.t 124), none⟩,
    ⟨(some 125), .ext (.t 121) 0, none⟩,
    ⟨(some 126), .ext (.t 121) 1, none⟩,
    ⟨(some 22), .alloc [(.dat (.val (.int .i64 (0)))), (.dat (.val (.int .i64 (0))))], none⟩,
    ⟨none, .store 2 (.t 22) (.t 125), none⟩,
    ⟨(some 23), .mov (.t 126), none⟩]) (.seq (.reg [
    ⟨(some 127), .mov (.t 23), none⟩,
    ⟨(some 128), .bin .eql (.t 127) (.c (.rv (.one (.dat (.val (.int .i64 (0))))))), none⟩,
    ⟨(some 129), .mov (.t 128), none⟩,
    ⟨(some 130), .load true 2 (.t 22), (some (129, true))⟩,
    ⟨(some 131), .load true 2 (.t 9), (some (129, true))⟩,
    ⟨(some 132), .eqa false [.i, .i] (.t 130) (.t 131), (some (129, true))⟩,
    ⟨(some 133), .pick (.t 129) (.t 132) (.c (.rv (.one (.dat (.val (.bool false)))))), none⟩,
    ⟨(some 134), .mov (.t 133), none⟩,
    ⟨(some 135), .mov (.t 20), (some (134, true))⟩,
    ⟨(some 136), .mov (.t 1), (some (134, true))⟩,
    ⟨(some 137), .bin .neq (.t 135) (.t 136), (some (134, true))⟩,
    ⟨(some 138), .pick (.t 134) (.t 137) (.c (.rv (.one (.dat (.val (.bool false)))))), none⟩,
    ⟨(some 8), .mov (.t 138), none⟩]) .ret)))))))))⟩
def c35 : LF := ⟨102, [.tmp 0], (.seq (.reg [
    ⟨(some 0), .mov (.c (.rv (.one (.dat (.val (.bool false)))))), none⟩]) (.seq (.reg [
    ⟨(some 18), .build [(.dat (.val (.int .i64 (0)))), (.dat (.val (.int .i64 (0))))] [(0, 1, (.c (.rv (.one (.dat (.val (.int .i64 (5)))))))), (1, 1, (.c (.rv (.one (.dat (.val (.int .i64 (3))))))))], none⟩,
    ⟨(some 19), .call (.c (.rv (.one (.fn 26 [])))) [(.c (.rv (.one .esl))), (.t 18)], none⟩,
    ⟨(some 17), .mov (.t 19), none⟩,
    ⟨(some 20), .ext (.t 17) 0, none⟩,
    ⟨(some 21), .ext (.t 17) 1, none⟩,
    ⟨(some 22), .ext (.t 17) 2, none⟩,
    ⟨(some 1), .mov (.t 20), none⟩,
    ⟨(some 2), .mov (.t 21), none⟩,
    ⟨(some 3), .mov (.t 22), none⟩]) (.seq (.reg [
    ⟨(some 24), .mov (.t 1), none⟩,
    ⟨(some 25), .mov (.t 2), none⟩,
    ⟨(some 26), .call (.c (.rv (.one (.fn 34 [])))) [(.t 24), (.t 25)], none⟩,
    ⟨(some 23), .mov (.t 26), none⟩,
    ⟨(some 27), .ext (.t 23) 0, none⟩,
    ⟨(some 28), .ext (.t 23) 1, none⟩,
    ⟨(some 29), .ext (.t 23) 2, none⟩,
    ⟨(some 4), .mov (.t 27), none⟩,
    ⟨(some 5), .mov (.t 28), none⟩,
    ⟨(some 6), .mov (.t 29), none⟩]) (.seq (.reg [
    ⟨(some 31), .mov (.t 4), none⟩,
    ⟨(some 32), .mov (.t 5), none⟩,
    ⟨(some 33), .call (.c (.rv (.one (.fn 31 [])))) [(.t 31), (.t 32), (.c (.rv (.one (.dat (.val (.int .i64 (1)))))))], none⟩,
    ⟨(some 30), .mov (.t 33), none⟩,
    ⟨(some 34), .ext (.t 30) 0, none⟩,
    ⟨(some 35), .ext (.t 30) 1, none⟩,
    ⟨(some 7), .mov (.t 34), none⟩,
    ⟨(some 8), .mov (.t 35), none⟩]) (.seq (.reg [
    ⟨(some 37), .mov (.t 7), none⟩,
    ⟨(some 38), .call (.c (.rv (.one (.fn 29 [])))) [(.t 37), (.c (.rv (.one (.dat (.val (.int .i64 (0)))))))], none⟩,
    ⟨(some 36), .mov (.t 38), none⟩,
    ⟨(some 39), .ext (.t 36) 0, none⟩,
    ⟨(some 40), .ext (.t 36) 1, none⟩,
    ⟨(some 9), .mov (.t 39), none⟩,
    ⟨(some 10), .mov (.t 40), none⟩]) (.seq (.reg [
    ⟨(some 42), .mov (.t 9), none⟩,
    ⟨(some 43), .call (.c (.rv (.one (.fn 37 [])))) [(.t 42), (.c (.rv (.one (.dat (.val (.int .i64 (1))))))), (.c (.rv (.one (.dat (.val (.int .i64 (1)))))))], none⟩,
    ⟨(some 41), .mov (.t 43), none⟩,
    ⟨(some 44), .ext (.t 41) 0, none⟩,
    ⟨(some 45), .ext (.t 41) 1, none⟩,
    ⟨(some 11), .alloc [(.dat (.val (.int .i64 (0)))), (.dat (.val (.int .i64 (0))))], none⟩,
    ⟨none, .store 2 (.t 11) (.t 44), none⟩,
    ⟨(some 12), .mov (.t 45), none⟩]) (.seq (.reg [
    ⟨(some 47), .mov (.t 9), none⟩,
    ⟨(some 48), .call (.c (.rv (.one (.fn 37 [])))) [(.t 47), (.c (.rv (.one (.dat (.val (.int .i64 (1))))))), (.c (.rv (.one (.dat (.val (.int .i64 (2)))))))], none⟩,
    ⟨(some 46), .mov (.t 48), none⟩,
    ⟨(some 49), .ext (.t 46) 0, none⟩,
    ⟨(some 50), .ext (.t 46) 1, none⟩,
    ⟨(some 13), .alloc [(.dat (.val (.int .i64 (0)))), (.dat (.val (.int .i64 (0))))], none⟩,
    ⟨none, .store 2 (.t 13) (.t 49), none⟩,
    ⟨(some 14), .mov (.t 50), none⟩]) (.seq (.reg [
    ⟨(some 52), .mov (.t 9), none⟩,
    ⟨(some 53), .call (.c (.rv (.one (.fn 24 [])))) [(.t 52), (.c (.rv (.one (.dat (.val (.int .i64 (1)))))))], none⟩,
    ⟨(some 51), .mov (.t 53), none⟩,
    ⟨(some 54), .ext (.t 51) 0, none⟩,
    ⟨(some 55), .ext (.t 51) 1, none⟩,
    ⟨(some 15), .alloc [(.dat (.val (.int .i64 (0)))), (.dat (.val (.int .i64 (0))))], none⟩,
    ⟨none, .store 2 (.t 15) (.t 54), none⟩,
    ⟨(some 16), .mov (.t 55), none⟩]) (.seq (.reg [
    ⟨(some 56), .mov (.t 3), none⟩,
    ⟨(some 57), .bin .eql (.t 56) (.c (.rv (.one (.dat (.val (.int .i64 (0))))))), none⟩,
    ⟨(some 58), .mov (.t 57), none⟩,
    ⟨(some 59), .mov (.t 6), (some (58, true))⟩,
    ⟨(some 60), .bin .eql (.t 59) (.c (.rv (.one (.dat (.val (.int .i64 (0))))))), (some (58, true))⟩,
    ⟨(some 61), .pick (.t 58) (.t 60) (.c (.rv (.one (.dat (.val (.bool false)))))), none⟩,
    ⟨(some 62), .mov (.t 61), none⟩,
    ⟨(some 63), .mov (.t 8), (some (62, true))⟩,
    ⟨(some 64), .bin .eql (.t 63) (.c (.rv (.one (.dat (.val (.int .i64 (0))))))), (some (62, true))⟩,
    ⟨(some 65), .pick (.t 62) (.t 64) (.c (.rv (.one (.dat (.val (.bool false)))))), none⟩,
    ⟨(some 66), .mov (.t 65), none⟩,
    ⟨(some 67), .mov (.t 10), (some (66, true))⟩,
    ⟨(some 68), .bin .eql (.t 67) (.c (.rv (.one (.dat (.val (.int .i64 (0))))))), (some (66, true))⟩,
    ⟨(some 69), .pick (.t 66) (.t 68) (.c (.rv (.one (.dat (.val (.bool false)))))), none⟩,
    ⟨(some 70), .mov (.t 69), none⟩,
    ⟨(some 71), .mov (.t 12), (some (70, true))⟩,
    ⟨(some 72), .bin .eql (.t 71) (.c (.rv (.one (.dat (.val (.int .i64 (0))))))), (some (70, true))⟩,
    ⟨(some 73), .pick (.t 70) (.t 72) (.c (.rv (.one (.dat (.val (.bool false)))))), none⟩,
    ⟨(some 74), .mov (.t 73), none⟩,
    ⟨(some 75), .mov (.t 14), (some (74, true))⟩,
    ⟨(some 76), .bin .eql (.t 75) (.c (.rv (.one (.dat (.val (.int .i64 (10))))))), (some (74, true))⟩,
    ⟨(some 77), .pick (.t 74) (.t 76) (.c (.rv (.one (.dat (.val (.bool false)))))), none⟩,
    ⟨(some 78), .mov (.t 77), none⟩,
    ⟨(some 79), .mov (.t 16), (some (78, true))⟩,
    ⟨(some 80), .bin .eql (.t 79) (.c (.rv (.one (.dat (.val (.int .i64 (0))))))), (some (78, true))⟩,
    ⟨(some 81), .pick (.t 78) (.t 80) (.c (.rv (.one (.dat (.val (.bool false)))))), none⟩,
    ⟨(some 82), .mov (.t 81), none⟩,
    ⟨(some 83), .mov (.t 5), (some (82, true))⟩,
    ⟨(some 84), .bin .eql (.t 83) (.c (.rv (.one (.dat (.val (.int .i64 (1))))))), (some (82, true))⟩,
    ⟨(some 85), .pick (.t 82) (.t 84) (.c (.rv (.one (.dat (.val (.bool false)))))), none⟩,
    ⟨(some 86), .mov (.t 85), none⟩,
    ⟨(some 87), .load true 2 (.t 11), (some (86, true))⟩,
    ⟨(some 88), .load true 2 (.t 15), (some (86, true))⟩,
    ⟨(some 89), .eqa false [.i, .i] (.t 87) (.t 88), (some (86, true))⟩,
    ⟨(some 90), .pick (.t 86) (.t 89) (.c (.rv (.one (.dat (.val (.bool false)))))), none⟩,
    ⟨(some 91), .mov (.t 90), none⟩,
    ⟨(some 92), .fadr 0 (.t 15), (some (91, true))⟩,
    ⟨(some 93), .load false 1 (.t 92), (some (91, true))⟩,
    ⟨(some 94), .bin .eql (.t 93) (.c (.rv (.one (.dat (.val (.int .i64 (5))))))), (some (91, true))⟩,
    ⟨(some 95), .pick (.t 91) (.t 94) (.c (.rv (.one (.dat (.val (.bool false)))))), none⟩,
    ⟨(some 96), .mov (.t 95), none⟩,
    ⟨(some 97), .mov (.t 9), (some (96, true))⟩,
    ⟨(some 98), .call (.c (.rv (.one (.fn 33 [])))) [(.t 97)], (some (96, true))⟩,
    ⟨(some 99), .len 1 (.t 98), (some (96, true))⟩,
    ⟨(some 100), .bin .eql (.t 99) (.c (.rv (.one (.dat (.val (.int .i64 (1))))))), (some (96, true))⟩,
    ⟨(some 101), .pick (.t 96) (.t 100) (.c (.rv (.one (.dat (.val (.bool false)))))), none⟩,
    ⟨(some 0), .mov (.t 101), none⟩]) .ret)))))))))⟩
theorem getS_at {l : List Slot} {k : Nat} {s : Slot} (h : l[k]? = some s) (hs : s.has = true) : getS l k = (s.cap, 0) := by
  rw [getS, if_pos (by omega), show ((k : Nat) : Int).toNat = k from rfl, h]
  simp [hs]
theorem allS_full : ∀ (l : List Slot) (k : Nat), (∀ s, s ∈ l → s.has = true) → (allS k l).length = l.length
  | [], k, _ => rfl
  | s :: r, k, h => by
    rw [allS, if_pos (h s (by simp))]
    simp [allS_full r (k + 1) fun x hx => h x (by simp [hx])]
theorem dup_fact {l : List Slot} {fd : Int} (h : (getS l fd).2 = 0) (h1 : 0 ≤ (getS l fd).1.rts) (h2 : (getS l fd).1.rts ≤ 4095) :
    ((dupS l fd).2.2 = 0 → getS (dupS l fd).1 (dupS l fd).2.1 = ((getS l fd).1, 0) ∧ (dupS l fd).2.1 ≠ fd) ∧
    ((dupS l fd).2.2 ≠ 0 → (dupS l fd).2.2 ≠ 15 ∨ 10 ≤ (allS 0 l).length) := by
  obtain ⟨d, rfl, hd, hhas, hcap⟩ := getS_ok h
  rw [dupS, if_pos h]
  generalize (getS l d).1 = c at *
  unfold putS
  split
  · exact ⟨by simp, by simp⟩
  · cases hk : l.findIdx? (fun s => !s.has) with
    | some k =>
      obtain ⟨hlt, hf, _⟩ := List.findIdx?_eq_some_iff_getElem.1 hk
      refine ⟨fun _ => ⟨?_, ?_⟩, by simp⟩
      · exact getS_at (s := ⟨true, c⟩) (by simp [hlt]) rfl
      · intro he
        have he : ((k : Nat) : Int) = (d : Int) := he
        have : k = d := by omega
        subst this
        rw [hhas] at hf
        cases hf
    | none =>
      simp only
      split
      · rename_i h10
        refine ⟨by simp, fun _ => .inr ?_⟩
        rw [allS_full l 0 ?_]
        · exact h10
        · intro s hs
          have := List.findIdx?_eq_none_iff.1 hk s hs
          simpa using this
      · refine ⟨fun _ => ⟨?_, ?_⟩, by simp⟩
        · exact getS_at (s := ⟨true, c⟩) (by simp) rfl
        · intro he
          have he : ((l.length : Nat) : Int) = (d : Int) := he
          omega
theorem sub_trans {a b c : Nat} (h : subB a b = true) (h2 : subB b c = true) : subB a c = true := by
  rw [subB, List.all_eq_true] at *
  intro x hx
  have q1 := h x hx
  have q2 := h2 x hx
  cases ha : a.testBit x <;> cases hb : b.testBit x <;> cases hc : c.testBit x <;> simp_all
theorem lim_fact {l : List Slot} {fd n : Int} (h : (getS l fd).2 = 0) (h1 : 0 ≤ (getS l fd).1.rts) (h2 : (getS l fd).1.rts ≤ 4095) (hl : (limS l fd n).2 = 0) :
    0 ≤ n ∧ n ≤ 4095 ∧ withinB n (getS l fd).1.rts = true ∧ getS (limS l fd n).1 fd = (⟨(getS l fd).1.opn, n⟩, 0) := by
  obtain ⟨d, rfl, hd, hhas, hcap⟩ := getS_ok h
  unfold limS at hl ⊢
  rw [if_pos h] at hl ⊢
  split at hl
  · simp at hl
  · rename_i hr
    rw [if_neg hr]
    rw [rightB_iff] at hr
    split at hl
    · simp at hl
    · rename_i hw
      rw [if_neg hw]
      exact ⟨by omega, by omega, by simpa using hw, getS_at (s := ⟨true, ⟨(getS l d).1.opn, n⟩⟩) (by simp [hd]) rfl⟩
theorem with_fact {l x : List Slot} {fd need n : Int} (h : (getS l fd).2 = 0) (h1 : 0 ≤ (getS l fd).1.rts) (h2 : (getS l fd).1.rts ≤ 4095) (hn0 : 0 ≤ need) (hn1 : need ≤ 4095) (hr0 : 0 ≤ n) (hr1 : n ≤ 4095)
    (hw : withinB n (getS l fd).1.rts = true) (hx : (getS x fd) = (⟨(getS l fd).1.opn, n⟩, 0)) (hp : (withS x fd need).2 = 0) : (withS l fd need).2 = 0 := by
  unfold withS at hp ⊢
  rw [hx] at hp
  split at hp
  · simp at hp
  · rename_i hwn
    rw [if_neg]
    · exact h
    · simp only [true_and] at hwn
      rintro ⟨_, hc⟩
      obtain ⟨a, rfl⟩ : ∃ a : Nat, need = a := ⟨need.toNat, by omega⟩
      obtain ⟨b, rfl⟩ : ∃ b : Nat, n = b := ⟨n.toNat, by omega⟩
      obtain ⟨c, hcc⟩ : ∃ c : Nat, (getS l fd).1.rts = c := ⟨(getS l fd).1.rts.toNat, by omega⟩
      rw [hcc] at hw hc h2
      rw [← sub_within _ _ (by omega) (by omega)] at hw hc hwn
      rw [sub_trans (by simpa using hwn) hw] at hc
      cases hc
theorem l35 : lowF Try.prog Try.f35 = some c35 := by kernel_rfl
set_option maxRecDepth 100000 in
set_option maxHeartbeats 4000000 in
theorem alive7_body : body Try.prog c35 [] [] (fun r m => r = vBool true) := by
  refine acall_sub (.esl 3 (.same .nil)) (put_ok [] (by simp) ⟨5, 3⟩ ?_)
  have e1 : putS [] ⟨5, 3⟩ = ([⟨true, ⟨5, 3⟩⟩], 0, 0) := by decide +kernel
  rw [e1]
  refine dup_ok [⟨true, ⟨5, 3⟩⟩] (by simp) 0 ?_
  have e2 : dupS [⟨true, ⟨5, 3⟩⟩] 0 = ([⟨true, ⟨5, 3⟩⟩, ⟨true, ⟨5, 3⟩⟩], 1, 0) := by decide +kernel
  rw [e2]
  refine limit_ok [⟨true, ⟨5, 3⟩⟩, ⟨true, ⟨5, 3⟩⟩] (by simp) 1 1 ?_
  have e3 : limS [⟨true, ⟨5, 3⟩⟩, ⟨true, ⟨5, 3⟩⟩] 1 1 = ([⟨true, ⟨5, 3⟩⟩, ⟨true, ⟨5, 1⟩⟩], 0) := by decide +kernel
  rw [e3]
  refine close_ok [⟨true, ⟨5, 3⟩⟩, ⟨true, ⟨5, 1⟩⟩] (by simp) 0 ?_
  have e4 : closeS [⟨true, ⟨5, 3⟩⟩, ⟨true, ⟨5, 1⟩⟩] 0 = ([noSlot, ⟨true, ⟨5, 1⟩⟩], 0) := by decide +kernel
  rw [e4]
  refine with_ok [noSlot, ⟨true, ⟨5, 1⟩⟩] 1 1 ?_
  have e5 : withS [noSlot, ⟨true, ⟨5, 1⟩⟩] 1 1 = (⟨5, 1⟩, 0) := by decide +kernel
  rw [e5]
  refine with_ok [noSlot, ⟨true, ⟨5, 1⟩⟩] 1 2 ?_
  have e6 : withS [noSlot, ⟨true, ⟨5, 1⟩⟩] 1 2 = (⟨0, 0⟩, 10) := by decide +kernel
  rw [e6]
  refine get_ok [noSlot, ⟨true, ⟨5, 1⟩⟩] 1 ?_
  have e7 : getS [noSlot, ⟨true, ⟨5, 1⟩⟩] 1 = (⟨5, 1⟩, 0) := by decide +kernel
  rw [e7]
  refine all_ok [noSlot, ⟨true, ⟨5, 1⟩⟩] (by simp) ?_
  exact rfl
theorem l6 : lowF Try.prog Try.f6 = some c6 := by kernel_rfl
theorem alive7_ok {m : Mem} {K : CV → Mem → Prop} (h : K (vBool true) m) : ACall Try.prog 35 [] m K :=
  acall_val Try.func35 l35 rfl (Nat.zero_le _) alive7_body rfl rfl h
set_option maxRecDepth 100000 in
set_option maxHeartbeats 4000000 in
theorem less_body (l : List Slot) (hb : l.length ≤ 2097152) (fd n need : Int) : body Try.prog c6 [slotsV l, vInt .i64 fd, vInt .i64 n, vInt .i64 need] [] (fun r m => r = vBool true) := by
  refine alive7_ok ?_
  refine get_ok l fd ?_
  refine bB_split (fun h => ?_) (fun hg => ?_)
  · exact rfl
  refine bB_split (fun h => ?_) (fun hn0 => ?_)
  · exact rfl
  refine bB_split (fun h => ?_) (fun hn1 => ?_)
  · exact rfl
  refine bB_split (fun h => ?_) (fun h0 => ?_)
  · exact rfl
  refine bB_split (fun h => ?_) (fun h1 => ?_)
  · exact rfl
  have hg : (getS l fd).2 = 0 := by simpa using hg
  have hn0 : 0 ≤ need := by have : ¬ need < 0 := of_decide_eq_false hn0; omega
  have hn1 : need ≤ 4095 := by have : ¬ need > 4095 := of_decide_eq_false hn1; omega
  have h0 : 0 ≤ (getS l fd).1.rts := by have : ¬ (getS l fd).1.rts < 0 := of_decide_eq_false h0; omega
  have h1 : (getS l fd).1.rts ≤ 4095 := by have : ¬ (getS l fd).1.rts > 4095 := of_decide_eq_false h1; omega
  refine limit_ok l hb fd n ?_
  refine bB_split (fun hl => ?_) (fun hl => ?_)
  · have hl : (limS l fd n).2 = 0 := by simpa using hl
    obtain ⟨r0, r1, hw, hx⟩ := lim_fact hg h0 h1 hl
    refine get_ok _ _ ?_
    rw [hx]
    refine bB_no (by simp) ?_
    obtain ⟨b, hbn⟩ : ∃ b : Nat, n = b := ⟨n.toNat, by omega⟩
    obtain ⟨c, hcc⟩ : ∃ c : Nat, (getS l fd).1.rts = c := ⟨(getS l fd).1.rts.toNat, by omega⟩
    have hcall : ∀ {m : Mem} {K : CV → Mem → Prop}, K (vBool true) m → ACall Try.prog 36 [vInt .i64 n, vInt .i64 (getS l fd).1.rts] m K := by
      intro m K h
      have e := sub_within_of hcc (k := b) (by omega) (by omega)
      rw [hbn] at hw ⊢
      rw [hcc]
      refine rwithin_ok b c (by omega) (by omega) ?_
      rw [e, hw]
      exact h
    refine hcall ?_
    refine with_ok _ _ _ ?_
    refine with_ok _ _ _ ?_
    refine bB_split (fun hp => ?_) (fun hp => ?_)
    · have hp : (withS (limS l fd n).1 fd need).2 = 0 := by simpa using hp
      have := with_fact hg h0 h1 hn0 hn1 r0 r1 hw hx hp
      refine bB_no (by rw [this]; rfl) ?_
      refine dup_ok l hb fd ?_
      obtain ⟨hd1, hd2⟩ := dup_fact hg h0 h1
      refine bB_split (fun h => ?_) (fun h => ?_)
      · have h : (dupS l fd).2.2 ≠ 0 := by simpa using h
        refine bB_split (fun h2 => ?_) (fun h2 => ?_)
        · exact rfl
        · have h2 : (dupS l fd).2.2 = 15 := by simpa using h2
          refine all_ok l hb ?_
          show vBool _ = vBool _
          have := (hd2 h).resolve_left (by rw [h2]; simp)
          have e : (decide (((intsD (allS 0 l)).length : Int) ≥ 10)) = true := decide_eq_true (by simp [intsD]; omega)
          rw [e]
      · have h : (dupS l fd).2.2 = 0 := by simpa using h
        obtain ⟨hg2, hne⟩ := hd1 h
        refine get_ok _ _ ?_
        rw [hg2]
        refine bB_yes (by simp) ?_
        show vBool _ = vBool _
        have e : ((dupS l fd).2.1 != fd) = true := by simpa using hne
        rw [e]
    · skip
      refine dup_ok l hb fd ?_
      obtain ⟨hd1, hd2⟩ := dup_fact hg h0 h1
      refine bB_split (fun h => ?_) (fun h => ?_)
      · have h : (dupS l fd).2.2 ≠ 0 := by simpa using h
        refine bB_split (fun h2 => ?_) (fun h2 => ?_)
        · exact rfl
        · have h2 : (dupS l fd).2.2 = 15 := by simpa using h2
          refine all_ok l hb ?_
          show vBool _ = vBool _
          have := (hd2 h).resolve_left (by rw [h2]; simp)
          have e : (decide (((intsD (allS 0 l)).length : Int) ≥ 10)) = true := decide_eq_true (by simp [intsD]; omega)
          rw [e]
      · have h : (dupS l fd).2.2 = 0 := by simpa using h
        obtain ⟨hg2, hne⟩ := hd1 h
        refine get_ok _ _ ?_
        rw [hg2]
        refine bB_yes (by simp) ?_
        show vBool _ = vBool _
        have e : ((dupS l fd).2.1 != fd) = true := by simpa using hne
        rw [e]
  · skip
    refine dup_ok l hb fd ?_
    obtain ⟨hd1, hd2⟩ := dup_fact hg h0 h1
    refine bB_split (fun h => ?_) (fun h => ?_)
    · have h : (dupS l fd).2.2 ≠ 0 := by simpa using h
      refine bB_split (fun h2 => ?_) (fun h2 => ?_)
      · exact rfl
      · have h2 : (dupS l fd).2.2 = 15 := by simpa using h2
        refine all_ok l hb ?_
        show vBool _ = vBool _
        have := (hd2 h).resolve_left (by rw [h2]; simp)
        have e : (decide (((intsD (allS 0 l)).length : Int) ≥ 10)) = true := decide_eq_true (by simp [intsD]; omega)
        rw [e]
    · have h : (dupS l fd).2.2 = 0 := by simpa using h
      obtain ⟨hg2, hne⟩ := hd1 h
      refine get_ok _ _ ?_
      rw [hg2]
      refine bB_yes (by simp) ?_
      show vBool _ = vBool _
      have e : ((dupS l fd).2.1 != fd) = true := by simpa using hne
      rw [e]

set_option maxRecDepth 100000 in
theorem less_ok (l : List Slot) (hb : l.length ≤ 2097152) (fd n need : Int) : ACall Try.prog 6 [slotsV l, vInt .i64 fd, vInt .i64 n, vInt .i64 need] [] (fun r m => r = vBool true) :=
  acall_body Try.func6 l6 rfl (Nat.le_of_ble_eq_true rfl) (less_body l hb fd n need)
end Go.Proofs.Ytflieebgiejjpaa
