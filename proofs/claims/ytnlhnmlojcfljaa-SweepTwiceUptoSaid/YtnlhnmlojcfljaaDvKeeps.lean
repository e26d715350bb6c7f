import Derived.Test.YtnlhnmlojcfljaaAmZ2
import Derived.Test.YtnlhnmlojcfljaaDvSwe
import Derived.Test.YtnlhnmlojcfljaaAmY
set_option linter.unusedVariables false
set_option linter.unusedSimpArgs false
namespace Go.Proofs.Ytnlhnmlojcfljaa
open Go.AM Go.ChangeShapes Go.WideShapes Go.ChangeAt Go.RowKit
def c5 : LF := ⟨109, [.tmp 2], (.seq (.reg [
    ⟨(some 2), .mov (.c (.rv (.one (.dat (.val (.bool false)))))), none⟩]) (.seq (.seq (.reg [
    ⟨(some 12), .call (.c (.rv (.one (.fn 14 [])))) [], none⟩,
    ⟨(some 13), .un .not (.t 12), none⟩]) (.cond (.t 13) (.seq (.reg [
    ⟨(some 2), .mov (.c (.rv (.one (.dat (.val (.bool false)))))), none⟩]) .ret) .skip)) (.seq (.reg [
    ⟨(some 14), .mov (.t 0), none⟩,
    ⟨(some 15), .call (.c (.rv (.one (.fn 6 [])))) [(.t 14)], none⟩,
    ⟨(some 3), .alloc [.esl, .esl, .esl], none⟩,
    ⟨none, .store 3 (.t 3) (.t 15), none⟩]) (.seq (.reg [
    ⟨(some 16), .load true 3 (.t 3), none⟩,
    ⟨(some 17), .call (.c (.rv (.one (.fn 15 [])))) [(.t 16)], none⟩,
    ⟨(some 4), .alloc [.esl, .esl, .esl], none⟩,
    ⟨none, .store 3 (.t 4) (.t 17), none⟩]) (.seq (.seq (.reg [
    ⟨(some 18), .fadr 0 (.t 4), none⟩,
    ⟨(some 19), .load false 1 (.t 18), none⟩,
    ⟨(some 20), .len 1 (.t 19), none⟩,
    ⟨(some 21), .fadr 0 (.t 3), none⟩,
    ⟨(some 22), .load false 1 (.t 21), none⟩,
    ⟨(some 23), .len 1 (.t 22), none⟩,
    ⟨(some 24), .bin .gtr (.t 20) (.t 23), none⟩,
    ⟨(some 25), .mov (.t 24), none⟩,
    ⟨(some 26), .fadr 2 (.t 4), (some (25, false))⟩,
    ⟨(some 27), .load false 1 (.t 26), (some (25, false))⟩,
    ⟨(some 28), .len 1 (.t 27), (some (25, false))⟩,
    ⟨(some 29), .fadr 2 (.t 3), (some (25, false))⟩,
    ⟨(some 30), .load false 1 (.t 29), (some (25, false))⟩,
    ⟨(some 31), .len 1 (.t 30), (some (25, false))⟩,
    ⟨(some 32), .bin .gtr (.t 28) (.t 31), (some (25, false))⟩,
    ⟨(some 33), .pick (.t 25) (.c (.rv (.one (.dat (.val (.bool true)))))) (.t 32), none⟩,
    ⟨(some 34), .mov (.t 33), none⟩,
    ⟨(some 35), .fadr 2 (.t 4), (some (34, false))⟩,
    ⟨(some 36), .load false 1 (.t 35), (some (34, false))⟩,
    ⟨(some 37), .len 1 (.t 36), (some (34, false))⟩,
    ⟨(some 38), .bin .lss (.t 37) (.c (.rv (.one (.dat (.val (.int .i64 (1))))))), (some (34, false))⟩,
    ⟨(some 39), .pick (.t 34) (.c (.rv (.one (.dat (.val (.bool true)))))) (.t 38), none⟩]) (.cond (.t 39) (.seq (.reg [
    ⟨(some 2), .mov (.c (.rv (.one (.dat (.val (.bool false)))))), none⟩]) .ret) .skip)) (.seq (.seq (.reg [
    ⟨(some 40), .fadr 2 (.t 4), none⟩,
    ⟨(some 41), .load false 1 (.t 40), none⟩,
    ⟨(some 42), .len 1 (.t 41), none⟩,
    ⟨(some 43), .mov (.c (.rv (.one (.dat (.val (.int .i64 (0))))))), none⟩]) (.block 0 (.loop (.seq (.reg [
    ⟨(some 44), .bin .lss (.t 43) (.t 42), none⟩]) (.seq (.cond (.t 44) .skip (.exit 0)) (.seq (.block 1 (.seq (.reg [
    ⟨(some 45), .mov (.t 43), none⟩,
    ⟨(some 46), .idx 4 (.t 41) (.t 43), none⟩,
    ⟨(some 47), .load true 4 (.t 46), none⟩,
    ⟨(some 6), .alloc [(.dat (.val (.bool false))), (.dat (.val (.bool false))), (.dat (.val (.int .i64 (0)))), .esl], none⟩,
    ⟨(some 5), .mov (.t 45), none⟩,
    ⟨none, .store 4 (.t 6) (.t 47), none⟩]) (.seq (.reg [
    ⟨(some 48), .fadr 2 (.t 3), none⟩,
    ⟨(some 49), .load false 1 (.t 48), none⟩,
    ⟨(some 50), .mov (.t 5), none⟩,
    ⟨(some 51), .idx 4 (.t 49) (.t 50), none⟩,
    ⟨(some 52), .load true 4 (.t 51), none⟩,
    ⟨(some 7), .alloc [(.dat (.val (.bool false))), (.dat (.val (.bool false))), (.dat (.val (.int .i64 (0)))), .esl], none⟩,
    ⟨none, .store 4 (.t 7) (.t 52), none⟩]) (.seq (.reg [
    ⟨(some 53), .fadr 0 (.t 6), none⟩,
    ⟨(some 54), .load false 1 (.t 53), none⟩,
    ⟨(some 55), .mov (.t 54), none⟩,
    ⟨(some 56), .fadr 0 (.t 7), (some (55, true))⟩,
    ⟨(some 57), .load false 1 (.t 56), (some (55, true))⟩,
    ⟨(some 58), .un .not (.t 57), (some (55, true))⟩,
    ⟨(some 59), .mov (.t 58), (some (55, true))⟩,
    ⟨(some 60), .fadr 1 (.t 6), (some (59, false))⟩,
    ⟨(some 61), .load false 1 (.t 60), (some (59, false))⟩,
    ⟨(some 62), .fadr 1 (.t 7), (some (59, false))⟩,
    ⟨(some 63), .load false 1 (.t 62), (some (59, false))⟩,
    ⟨(some 64), .beq true (.t 61) (.t 63), (some (59, false))⟩,
    ⟨(some 65), .pick (.t 59) (.c (.rv (.one (.dat (.val (.bool true)))))) (.t 64), (some (55, true))⟩,
    ⟨(some 66), .mov (.t 65), (some (55, true))⟩,
    ⟨(some 67), .fadr 3 (.t 6), (some (66, false))⟩,
    ⟨(some 68), .load false 1 (.t 67), (some (66, false))⟩,
    ⟨(some 69), .fadr 3 (.t 7), (some (66, false))⟩,
    ⟨(some 70), .load false 1 (.t 69), (some (66, false))⟩,
    ⟨(some 71), .call (.c (.rv (.one (.fn 18 [])))) [(.t 68), (.t 70)], (some (66, false))⟩,
    ⟨(some 72), .un .not (.t 71), (some (66, false))⟩,
    ⟨(some 73), .pick (.t 66) (.c (.rv (.one (.dat (.val (.bool true)))))) (.t 72), (some (55, true))⟩,
    ⟨(some 74), .pick (.t 55) (.t 73) (.c (.rv (.one (.dat (.val (.bool false)))))), none⟩]) (.cond (.t 74) (.seq (.reg [
    ⟨(some 2), .mov (.c (.rv (.one (.dat (.val (.bool false)))))), none⟩]) .ret) .skip))))) (.reg [
    ⟨(some 75), .bin .add (.t 43) (.c (.rv (.one (.dat (.val (.int .i64 (1))))))), none⟩,
    ⟨(some 43), .mov (.t 75), none⟩]))))))) (.seq (.seq (.reg [
    ⟨(some 76), .load true 3 (.t 4), none⟩,
    ⟨(some 77), .call (.c (.rv (.one (.fn 17 [])))) [(.t 76)], none⟩,
    ⟨(some 78), .len 1 (.t 77), none⟩,
    ⟨(some 79), .mov (.c (.rv (.one (.dat (.val (.int .i64 (0))))))), none⟩]) (.block 2 (.loop (.seq (.reg [
    ⟨(some 80), .bin .lss (.t 79) (.t 78), none⟩]) (.seq (.cond (.t 80) .skip (.exit 2)) (.seq (.block 3 (.seq (.reg [
    ⟨(some 81), .idx 1 (.t 77) (.t 79), none⟩,
    ⟨(some 82), .load false 1 (.t 81), none⟩,
    ⟨(some 9), .mov (.t 82), none⟩]) (.seq (.seq (.reg [
    ⟨(some 83), .mov (.t 9), none⟩,
    ⟨(some 84), .bin .lss (.t 83) (.c (.rv (.one (.dat (.val (.int .i64 (0))))))), none⟩,
    ⟨(some 85), .mov (.t 84), none⟩,
    ⟨(some 86), .mov (.t 9), (some (85, false))⟩,
    ⟨(some 87), .fadr 0 (.t 3), (some (85, false))⟩,
    ⟨(some 88), .load false 1 (.t 87), (some (85, false))⟩,
    ⟨(some 89), .len 1 (.t 88), (some (85, false))⟩,
    ⟨(some 90), .bin .geq (.t 86) (.t 89), (some (85, false))⟩,
    ⟨(some 91), .pick (.t 85) (.c (.rv (.one (.dat (.val (.bool true)))))) (.t 90), none⟩]) (.cond (.t 91) (.seq (.reg [
    ⟨(some 2), .mov (.c (.rv (.one (.dat (.val (.bool false)))))), none⟩]) .ret) .skip)) (.seq (.draw [
    ⟨(some 92), .fadr 0 (.t 4), none⟩,
    ⟨(some 93), .load false 1 (.t 92), none⟩,
    ⟨(some 94), .mov (.t 9), none⟩,
    ⟨(some 95), .idx 9 (.t 93) (.t 94), none⟩,
    ⟨(some 96), .load true 9 (.t 95), none⟩,
    ⟨(some 97), .fadr 0 (.t 3), none⟩,
    ⟨(some 98), .load false 1 (.t 97), none⟩,
    ⟨(some 99), .mov (.t 9), none⟩,
    ⟨(some 100), .idx 9 (.t 98) (.t 99), none⟩,
    ⟨(some 101), .load true 9 (.t 100), none⟩,
    ⟨(some 10), .alloc [(.dat (.val (.int .i64 (0)))), .esl, .esl, (.dat (.val (.string ⟨#[]⟩))), (.dat (.val (.int .i64 (0)))), .esl, (.dat (.val (.int .i64 (0)))), (.dat (.val (.int .i64 (0)))), (.dat (.val (.int .i64 (0))))], none⟩,
    ⟨(some 11), .alloc [(.dat (.val (.int .i64 (0)))), .esl, .esl, (.dat (.val (.string ⟨#[]⟩))), (.dat (.val (.int .i64 (0)))), .esl, (.dat (.val (.int .i64 (0)))), (.dat (.val (.int .i64 (0)))), (.dat (.val (.int .i64 (0))))], none⟩,
    ⟨none, .store 9 (.t 10) (.t 96), none⟩,
    ⟨none, .store 9 (.t 11) (.t 101), none⟩]
    [(.cons 0 none (.cons 1 none (.cons 2 none (.cons 3 none (.cons 4 none (.cons 5 none (.cons 6 none (.cons 7 none (.cons 8 none (.cons 9 none (.alt (.cons 10 (some [9, 8, 6, 4, 3, 1]) (.cons 11 (some [9, 8, 6, 4, 3, 1]) (.cons 12 (some [9, 8, 6]) (.cons 13 (some []) .nil)))) (.cons 11 (some [9, 8, 6, 4, 3, 1]) (.cons 10 (some [9, 8, 6, 4, 3, 1]) (.cons 12 (some [9, 8, 6]) (.cons 13 (some []) .nil)))))))))))))))]) (.seq (.reg [
    ⟨(some 102), .fadr 4 (.t 10), none⟩,
    ⟨none, .store 1 (.t 102) (.c (.rv (.one (.dat (.val (.int .i64 (0))))))), none⟩,
    ⟨(some 103), .fadr 4 (.t 11), none⟩,
    ⟨none, .store 1 (.t 103) (.c (.rv (.one (.dat (.val (.int .i64 (0))))))), none⟩]) (.seq (.reg [
    ⟨(some 104), .load true 9 (.t 10), none⟩,
    ⟨(some 105), .load true 9 (.t 11), none⟩,
    ⟨(some 106), .call (.c (.rv (.one (.fn 19 [])))) [(.t 104), (.t 105)], none⟩,
    ⟨(some 107), .un .not (.t 106), none⟩]) (.cond (.t 107) (.seq (.reg [
    ⟨(some 2), .mov (.c (.rv (.one (.dat (.val (.bool false)))))), none⟩]) .ret) .skip))))))) (.reg [
    ⟨(some 108), .bin .add (.t 79) (.c (.rv (.one (.dat (.val (.int .i64 (1))))))), none⟩,
    ⟨(some 79), .mov (.t 108), none⟩]))))))) (.seq (.reg [
    ⟨(some 2), .mov (.c (.rv (.one (.dat (.val (.bool true)))))), none⟩]) .ret))))))))⟩
def c14 : LF := ⟨57, [.tmp 0], (.seq (.reg [
    ⟨(some 0), .mov (.c (.rv (.one (.dat (.val (.bool false)))))), none⟩]) (.seq (.reg [
    ⟨(some 3), .build [(.dat (.val (.int .i64 (0)))), .esl, .esl, (.dat (.val (.string ⟨#[]⟩))), (.dat (.val (.int .i64 (0)))), .esl, (.dat (.val (.int .i64 (0)))), (.dat (.val (.int .i64 (0)))), (.dat (.val (.int .i64 (0))))] [(0, 1, (.c (.rv (.one (.dat (.val (.int .i64 (2)))))))), (7, 1, (.c (.rv (.one (.dat (.val (.int .i64 (1))))))))], none⟩,
    ⟨(some 4), .build [(.dat (.val (.int .i64 (0)))), .esl, .esl, (.dat (.val (.string ⟨#[]⟩))), (.dat (.val (.int .i64 (0)))), .esl, (.dat (.val (.int .i64 (0)))), (.dat (.val (.int .i64 (0)))), (.dat (.val (.int .i64 (0))))] [(0, 1, (.c (.rv (.one (.dat (.val (.int .i64 (1))))))))], none⟩,
    ⟨(some 5), .build [(.dat (.val (.int .i64 (0)))), .esl, .esl, (.dat (.val (.string ⟨#[]⟩))), (.dat (.val (.int .i64 (0)))), .esl, (.dat (.val (.int .i64 (0)))), (.dat (.val (.int .i64 (0)))), (.dat (.val (.int .i64 (0))))] [(0, 1, (.c (.rv (.one (.dat (.val (.int .i64 (1))))))))], none⟩,
    ⟨(some 6), .bsl 9 [(.dat (.val (.int .i64 (0)))), .esl, .esl, (.dat (.val (.string ⟨#[]⟩))), (.dat (.val (.int .i64 (0)))), .esl, (.dat (.val (.int .i64 (0)))), (.dat (.val (.int .i64 (0)))), (.dat (.val (.int .i64 (0))))] 3 [(0, (.t 3)), (1, (.t 4)), (2, (.t 5))], none⟩,
    ⟨(some 7), .build [(.dat (.val (.int .i64 (0)))), (.dat (.val (.int .i64 (0))))] [(0, 1, (.c (.rv (.one (.dat (.val (.int .i64 (2))))))))], none⟩,
    ⟨(some 8), .build [(.dat (.val (.int .i64 (0)))), (.dat (.val (.int .i64 (0))))] [(0, 1, (.c (.rv (.one (.dat (.val (.int .i64 (1))))))))], none⟩,
    ⟨(some 9), .bsl 2 [(.dat (.val (.int .i64 (0)))), (.dat (.val (.int .i64 (0))))] 2 [(0, (.t 7)), (1, (.t 8))], none⟩,
    ⟨(some 10), .build [(.dat (.val (.int .i64 (0)))), (.dat (.val (.int .i64 (0))))] [(0, 1, (.c (.rv (.one (.dat (.val (.int .i64 (1))))))))], none⟩,
    ⟨(some 11), .build [(.dat (.val (.bool false))), (.dat (.val (.int .i64 (0)))), (.dat (.val (.int .i64 (0))))] [(0, 1, (.c (.rv (.one (.dat (.val (.bool true))))))), (1, 2, (.t 10))], none⟩,
    ⟨(some 12), .bsl 3 [(.dat (.val (.bool false))), (.dat (.val (.int .i64 (0)))), (.dat (.val (.int .i64 (0))))] 1 [(0, (.t 11))], none⟩,
    ⟨(some 13), .build [(.dat (.val (.bool false))), (.dat (.val (.bool false))), (.dat (.val (.int .i64 (0)))), .esl] [(0, 1, (.c (.rv (.one (.dat (.val (.bool true))))))), (3, 1, (.t 12))], none⟩,
    ⟨(some 14), .bsl 4 [(.dat (.val (.bool false))), (.dat (.val (.bool false))), (.dat (.val (.int .i64 (0)))), .esl] 1 [(0, (.t 13))], none⟩,
    ⟨(some 15), .build [.esl, .esl, .esl] [(0, 1, (.t 6)), (1, 1, (.t 9)), (2, 1, (.t 14))], none⟩,
    ⟨(some 1), .alloc [.esl, .esl, .esl], none⟩,
    ⟨none, .store 3 (.t 1) (.t 15), none⟩]) (.ghost (.seq (.reg [
    ⟨(some 16), .load true 3 (.t 1), none⟩,
    ⟨(some 17), .call (.c (.rv (.one (.fn 15 [])))) [(.t 16)], none⟩,
    ⟨(some 2), .alloc [.esl, .esl, .esl], none⟩,
    ⟨none, .store 3 (.t 2) (.t 17), none⟩]) (.seq (.reg [
    ⟨(some 18), .fadr 0 (.t 2), none⟩,
    ⟨(some 19), .load false 1 (.t 18), none⟩,
    ⟨(some 20), .len 1 (.t 19), none⟩,
    ⟨(some 21), .bin .eql (.t 20) (.c (.rv (.one (.dat (.val (.int .i64 (2))))))), none⟩,
    ⟨(some 22), .mov (.t 21), none⟩,
    ⟨(some 23), .fadr 1 (.t 2), (some (22, true))⟩,
    ⟨(some 24), .load false 1 (.t 23), (some (22, true))⟩,
    ⟨(some 25), .len 1 (.t 24), (some (22, true))⟩,
    ⟨(some 26), .bin .eql (.t 25) (.c (.rv (.one (.dat (.val (.int .i64 (2))))))), (some (22, true))⟩,
    ⟨(some 27), .pick (.t 22) (.t 26) (.c (.rv (.one (.dat (.val (.bool false)))))), none⟩,
    ⟨(some 28), .mov (.t 27), none⟩,
    ⟨(some 29), .fadr 1 (.t 2), (some (28, true))⟩,
    ⟨(some 30), .load false 1 (.t 29), (some (28, true))⟩,
    ⟨(some 31), .idx 2 (.t 30) (.c (.rv (.one (.dat (.val (.int .i64 (0))))))), (some (28, true))⟩,
    ⟨(some 32), .fadr 0 (.t 31), (some (28, true))⟩,
    ⟨(some 33), .load false 1 (.t 32), (some (28, true))⟩,
    ⟨(some 34), .bin .eql (.t 33) (.c (.rv (.one (.dat (.val (.int .i64 (-1))))))), (some (28, true))⟩,
    ⟨(some 35), .pick (.t 28) (.t 34) (.c (.rv (.one (.dat (.val (.bool false)))))), none⟩,
    ⟨(some 36), .mov (.t 35), none⟩,
    ⟨(some 37), .fadr 1 (.t 2), (some (36, true))⟩,
    ⟨(some 38), .load false 1 (.t 37), (some (36, true))⟩,
    ⟨(some 39), .idx 2 (.t 38) (.c (.rv (.one (.dat (.val (.int .i64 (1))))))), (some (36, true))⟩,
    ⟨(some 40), .fadr 0 (.t 39), (some (36, true))⟩,
    ⟨(some 41), .load false 1 (.t 40), (some (36, true))⟩,
    ⟨(some 42), .bin .eql (.t 41) (.c (.rv (.one (.dat (.val (.int .i64 (1))))))), (some (36, true))⟩,
    ⟨(some 43), .pick (.t 36) (.t 42) (.c (.rv (.one (.dat (.val (.bool false)))))), none⟩,
    ⟨(some 44), .mov (.t 43), none⟩,
    ⟨(some 45), .load true 3 (.t 1), (some (44, true))⟩,
    ⟨(some 46), .call (.c (.rv (.one (.fn 17 [])))) [(.t 45)], (some (44, true))⟩,
    ⟨(some 47), .len 1 (.t 46), (some (44, true))⟩,
    ⟨(some 48), .bin .eql (.t 47) (.c (.rv (.one (.dat (.val (.int .i64 (2))))))), (some (44, true))⟩,
    ⟨(some 49), .pick (.t 44) (.t 48) (.c (.rv (.one (.dat (.val (.bool false)))))), none⟩,
    ⟨(some 50), .mov (.t 49), none⟩,
    ⟨(some 51), .load true 3 (.t 1), (some (50, true))⟩,
    ⟨(some 52), .call (.c (.rv (.one (.fn 30 [])))) [(.t 51)], (some (50, true))⟩,
    ⟨(some 53), .fld false 0 1 (.t 52), (some (50, true))⟩,
    ⟨(some 54), .len 1 (.t 53), (some (50, true))⟩,
    ⟨(some 55), .bin .eql (.t 54) (.c (.rv (.one (.dat (.val (.int .i64 (3))))))), (some (50, true))⟩,
    ⟨(some 56), .pick (.t 50) (.t 55) (.c (.rv (.one (.dat (.val (.bool false)))))), none⟩,
    ⟨(some 0), .mov (.t 56), none⟩]) .ret)))))⟩
def c18 : LF := ⟨26, [.tmp 4], (.seq (.reg [
    ⟨(some 4), .mov (.c (.rv (.one (.dat (.val (.bool false)))))), none⟩]) (.seq (.seq (.reg [
    ⟨(some 6), .mov (.t 0), none⟩,
    ⟨(some 7), .len 1 (.t 6), none⟩,
    ⟨(some 8), .mov (.t 1), none⟩,
    ⟨(some 9), .len 1 (.t 8), none⟩,
    ⟨(some 10), .bin .neq (.t 7) (.t 9), none⟩]) (.cond (.t 10) (.seq (.reg [
    ⟨(some 4), .mov (.c (.rv (.one (.dat (.val (.bool false)))))), none⟩]) .ret) .skip)) (.seq (.seq (.reg [
    ⟨(some 11), .mov (.t 0), none⟩,
    ⟨(some 12), .len 1 (.t 11), none⟩,
    ⟨(some 13), .mov (.c (.rv (.one (.dat (.val (.int .i64 (0))))))), none⟩]) (.block 0 (.loop (.seq (.reg [
    ⟨(some 14), .bin .lss (.t 13) (.t 12), none⟩]) (.seq (.cond (.t 14) .skip (.exit 0)) (.seq (.block 1 (.seq (.reg [
    ⟨(some 15), .mov (.t 13), none⟩,
    ⟨(some 5), .mov (.t 15), none⟩]) (.seq (.draw [
    ⟨(some 16), .mov (.t 0), none⟩,
    ⟨(some 17), .mov (.t 5), none⟩,
    ⟨(some 18), .idx 3 (.t 16) (.t 17), none⟩,
    ⟨(some 19), .load true 3 (.t 18), none⟩,
    ⟨(some 20), .mov (.t 1), none⟩,
    ⟨(some 21), .mov (.t 5), none⟩,
    ⟨(some 22), .idx 3 (.t 20) (.t 21), none⟩,
    ⟨(some 23), .load true 3 (.t 22), none⟩,
    ⟨(some 24), .eqa true [.b, .i, .i] (.t 19) (.t 23), none⟩]
    [(.cons 0 none (.cons 1 none (.cons 2 none (.cons 3 none (.cons 4 none (.cons 5 none (.cons 6 none (.cons 7 none (.cons 8 none .nil)))))))))]) (.cond (.t 24) (.seq (.reg [
    ⟨(some 4), .mov (.c (.rv (.one (.dat (.val (.bool false)))))), none⟩]) .ret) .skip)))) (.reg [
    ⟨(some 25), .bin .add (.t 13) (.c (.rv (.one (.dat (.val (.int .i64 (1))))))), none⟩,
    ⟨(some 13), .mov (.t 25), none⟩]))))))) (.seq (.reg [
    ⟨(some 4), .mov (.c (.rv (.one (.dat (.val (.bool true)))))), none⟩]) .ret))))⟩
/-! SameSlots; the closed fact; the law SweepKeeps -/
theorem l18 : lowF Try.prog Try.f18 = some c18 := by kernel_rfl
theorem l14 : lowF Try.prog Try.f14 = some c14.er := by kernel_rfl
set_option maxRecDepth 100000 in
set_option maxHeartbeats 8000000 in
theorem ssame_body (d : List Sl3) (hd : d.length ≤ 4194304) : body Try.prog c18 [sl3V d, sl3V d] [] (fun r m => r = vBool true) := by
  refine bB_no (by simp) ?_
  refine loop_keep (fun k => k ≤ d.length) [0, 1, 12] (fun k => [(13, vInt .i64 (k : Nat))]) (fun _ => []) (fun k => d.length - k) 0 (Nat.zero_le _) ?_ (fun k hk => ?_)
  · refine View.of 0 [] [] rfl rfl rfl rfl rfl rfl ?_ (.nil _)
    repeat (first | exact .nil | refine .junk ?_ | refine .eq rfl ?_)
  have hk : k ≤ d.length := hk
  refine bB_dec (fun h => ?_) (fun h => ?_)
  · have hlt : k < d.length := by
      have h : (k : Int) < ((d.map Sl3.enc).length : Int) := h
      rw [List.length_map] at h
      omega
    refine ok_some (sl3_get hlt) ?_
    refine ok_some (sl3_get hlt) ?_
    refine bB_no (by simp) ?_
    refine ⟨k + 1, hlt, (show d.length - (k + 1) < d.length - k by omega), View.of 0 [] [] rfl rfl rfl rfl rfl rfl ?_ (.nil _)⟩
    repeat (first | exact .nil | refine .junk ?_ | refine .put (.ren (next_i64 (by omega)).symm) ?_ | refine .eq rfl ?_)
  · exact rfl
set_option maxRecDepth 100000 in
theorem ssame_ok (d : List Sl3) (hd : d.length ≤ 4194304) {m : Mem} {K : CV → Mem → Prop} (h : K (vBool true) m) : ACall Try.prog 18 [sl3V d, sl3V d] m K :=
  acall_val Try.func18 l18 rfl (Nat.le_of_ble_eq_true rfl) (ssame_body d hd) rfl rfl h
inductive CcsFz (m : Mem) (Z : Nat → Prop) (p : Option Nat) : List CC → List Dt → Prop
  | nil : CcsFz m Z p [] []
  | cons {c : CC} {d : Dt} {r : List CC} {r' : List Dt} (h : FrzD m Z p c d) (hr : CcsFz m Z p r r') : CcsFz m Z p (c :: r) (d :: r')
theorem CcsFz.len {m : Mem} {Z : Nat → Prop} {p : Option Nat} {a : List CC} {b : List Dt} (h : CcsFz m Z p a b) : a.length = b.length := by induction h <;> simp [*]
theorem CcsFz.get {m : Mem} {Z : Nat → Prop} {p : Option Nat} {a : List CC} {b : List Dt} (h : CcsFz m Z p a b) : ∀ (i : Nat) c d, a[i]? = some c → b[i]? = some d → FrzD m Z p c d := by
  induction h with
  | nil => intro i c d h; simp at h
  | cons h hr ih =>
    intro i c d h1 h2
    cases i with
    | zero => simp at h1 h2; subst h1 h2; exact h
    | succ i => exact ih i c d (by simpa using h1) (by simpa using h2)
inductive RowsFz (m : Mem) (Z : Nat → Prop) (p : Option Nat) : List (List CC) → List (List Dt) → Prop
  | nil : RowsFz m Z p [] []
  | cons {c : List CC} {d : List Dt} {r : List (List CC)} {r' : List (List Dt)} (h : CcsFz m Z p c d) (hr : RowsFz m Z p r r') : RowsFz m Z p (c :: r) (d :: r')
theorem RowsFz.len {m : Mem} {Z : Nat → Prop} {p : Option Nat} {a : List (List CC)} {b : List (List Dt)} (h : RowsFz m Z p a b) : a.length = b.length := by induction h <;> simp [*]
theorem RowsFz.get {m : Mem} {Z : Nat → Prop} {p : Option Nat} {a : List (List CC)} {b : List (List Dt)} (h : RowsFz m Z p a b) : ∀ (i : Nat) c d, a[i]? = some c → b[i]? = some d → CcsFz m Z p c d := by
  induction h with
  | nil => intro i c d h; simp at h
  | cons h hr ih =>
    intro i c d h1 h2
    cases i with
    | zero => simp at h1 h2; subst h1 h2; exact h
    | succ i => exact ih i c d (by simpa using h1) (by simpa using h2)
theorem RowsFz.frz {m : Mem} {Z : Nat → Prop} {p : Option Nat} {id esz : Nat} {elems : List (List CC)} {ds : List (List Dt)} (h : RowsFz m Z (some id) elems ds) (hz : Z id) (hm : m[id]? = some (.row esz elems)) : FrzD m Z p (.row id esz 0 none) (.sl esz ds) :=
  FrzD.row id esz 0 none elems ds hz hm h.len (fun i cs es h1 h2 => (h.get i cs es h1 h2).len) (fun i cs es j c d h1 h2 h3 h4 => (h.get i cs es h1 h2).get j c d h3 h4)
theorem objFz {m : Mem} {Z : Nat → Prop} {p : Option Nat} (k lk : Int) : CcsFz m Z p [.dat (.val (.int .i64 k)), .esl, .esl, .dat (.val (.string ⟨#[]⟩)), .dat (.val (.int .i64 0)), .esl, .dat (.val (.int .i64 0)), .dat (.val (.int .i64 lk)), .dat (.val (.int .i64 0))] (Obj.enc ⟨k, [], [], ⟨#[]⟩, 0, [], 0, lk, 0⟩) :=
  .cons (.dat _) (.cons (.esl 1) (.cons (.esl 2) (.cons (.dat _) (.cons (.dat _) (.cons (.esl 4) (.cons (.dat _) (.cons (.dat _) (.cons (.dat _) .nil))))))))
set_option maxRecDepth 100000 in
set_option maxHeartbeats 16000000 in
theorem alive8_body : body Try.prog c14 [] [] (fun r m => r = vBool true) := by
  refine ghost_keep [] [(1, .rv (.one (.ptr 0 0)))] [.var [.dat (objsD aK.l), .dat (opnD aK.ops), .dat (prcD aK.ps)]] (View.of 5 [4] [0, 1, 2, 3] rfl rfl rfl rfl rfl rfl ?_ ?_) ?_
  · repeat (first | exact .nil | refine .junk ?_ | refine .eq rfl ?_)
  · exact .put (notF rfl) rfl (CcsVp.var (.cons (.frz (RowsFz.frz (Z := fun k => memN [0, 1, 2, 3] k = true) (.cons (objFz 2 1) (.cons (objFz 1 0) (.cons (objFz 1 0) .nil))) rfl rfl))
      (.cons (.frz (RowsFz.frz (Z := fun k => memN [0, 1, 2, 3] k = true) (.cons (.cons (.dat _) (.cons (.dat _) .nil)) (.cons (.cons (.dat _) (.cons (.dat _) .nil)) .nil)) rfl rfl))
      (.cons (.frz (RowsFz.frz (Z := fun k => memN [0, 1, 2, 3] k = true) (.cons (.cons (.dat _) (.cons (.dat _) (.cons (.dat _) (.cons (RowsFz.frz (.cons (.cons (.dat _) (.cons (.dat _) (.cons (.dat _) .nil))) .nil) rfl rfl) .nil)))) .nil) rfl rfl)) .nil)))) (.nil _)
  refine sweep_ok aK aK_ok fun a c d h1 h2 h3 => ?_
  obtain ⟨e1, e2⟩ := aK_fin h1 h2 h3
  obtain ⟨dl, dops, dps⟩ := d
  have e1 : dl = [oA, oB] := e1
  have e2 : dops = [⟨-1, 0⟩, ⟨1, 0⟩] := e2
  subst e1 e2
  refine sreach_ok aK.l aK.ops aK.ps aK_ok.sm aK_ok.ll aK_ok.lo aK_ok.lp aK_ok.sl fun b hb => ?_
  have hb := aK_mark hb
  subst hb
  refine sown_ok aK.l aK.ops aK.ps ⟨aK_ok.ll, fun o ho => (aK_ok.sm o ho).fit⟩ aK_ok.lo aK_ok.lp aK_ok.sl aK_ok.ne ?_
  exact rfl
set_option maxRecDepth 100000 in
theorem alive8_ok {m : Mem} {K : CV → Mem → Prop} (h : K (vBool true) m) : ACall Try.prog 14 [] m K :=
  acall_val_g Try.func14 l14 rfl (Nat.zero_le _) alive8_body rfl rfl h
theorem l5 : lowF Try.prog Try.f5 = some c5 := by kernel_rfl
set_option maxRecDepth 100000 in
set_option maxHeartbeats 32000000 in
theorem keeps_body (b : List Int) (hb : BYb b) : body Try.prog c5 [.rv (.one (.dat (.sl 1 (byD b))))] [] (fun r m => r = vBool true) := by
  refine alive8_ok ?_
  refine build_ok b hb fun l op ps hk => ?_
  have hlen := hk.objs.len
  have hkr : KrOK l op ps := ⟨hk.objs.sm, by omega, by have := hk.opns.1; omega, by have := hk.prcs.1; omega, hk.prcs.2, fun e => by obtain ⟨p, hp, _⟩ := hk.first; rw [e] at hp; simp at hp⟩
  refine sweep_ok ⟨l, op, ps⟩ hkr fun a c d h1 h2 h3 => ?_
  obtain ⟨hO, hP, hone⟩ := sweep_keep (k := ⟨l, op, ps⟩) hkr h1 h2 h3
  have hkd := h3.kr ((h2.kr (h1.kr hkr)))
  obtain ⟨dl, dop, dps⟩ := d
  have hO : ObjKeep l dl := hO
  have hP : PrcKeep ps dps := hP
  have hone : 1 ≤ dps.length := hone
  have hkd : KrOK dl dop dps := hkd
  have hO1 := hO.1
  have hP1 := hP.1
  have hpl := hkr.lp
  have hll := hkr.ll
  refine bB_no (by simp; omega) ?_
  refine bB_no (by simp; omega) ?_
  refine bB_no (by simp; omega) ?_
  refine loop_keep (fun p => p ≤ dps.length) [3, 4, 41, 42] (fun p => [(43, vInt .i64 (p : Nat))]) (fun _ => [.var [.dat (objsD l), .dat (opnD op), .dat (prcD ps)], .var [.dat (objsD dl), .dat (opnD dop), .dat (prcD dps)]]) (fun p => dps.length - p) 0 (Nat.zero_le _) ?_ (fun p hp => ?_)
  · refine View.of 2 [0, 1] [] rfl rfl rfl rfl rfl rfl ?_ ?_
    · repeat (first | exact .nil | refine .junk ?_ | refine .eq rfl ?_)
    · exact .put (notF rfl) rfl (.eq rfl (by simp)) (.put (notF rfl) rfl (.eq rfl (by simp)) (.nil _))
  have hp : p ≤ dps.length := hp
  refine bB_dec (fun h => ?_) (fun h => ?_)
  · have hplt : p < dps.length := by
      have h : (p : Int) < ((dps.map Prc.enc).length : Int) := h
      rw [List.length_map] at h
      omega
    have hp2 : p < ps.length := by omega
    refine ok_some (prc_get hplt) ?_
    refine ok_some (prc_get hp2) ?_
    have hx := List.getElem?_eq_getElem hplt
    have hy := List.getElem?_eq_getElem hp2
    have hsl := hkd.sl _ (List.getElem_mem hplt)
    generalize dps[p] = x at hx hsl
    generalize ps[p] = y at hy
    refine bB_split (fun hlv => ?_) (fun hlv => ?_)
    · have hxy := hP.2 p x hx hlv
      rw [hy] at hxy
      cases hxy
      refine bB_no (by rw [hlv]; rfl) ?_
      refine bB_no (by simp) ?_
      refine ssame_ok x.slots (by omega) ?_
      refine ⟨p + 1, hplt, (show dps.length - (p + 1) < dps.length - p by omega), View.of 4 [0, 1] [] rfl rfl rfl rfl rfl rfl ?_ ?_⟩
      · repeat (first | exact .nil | refine .junk ?_ | refine .put (.ren (next_i64 (by omega)).symm) ?_ | refine .eq rfl ?_)
      · exact .put (notF rfl) rfl (.eq rfl (by simp)) (.put (notF rfl) rfl (.eq rfl (by simp)) (.nil _))
    · refine ⟨p + 1, hplt, (show dps.length - (p + 1) < dps.length - p by omega), View.of 4 [0, 1] [] rfl rfl rfl rfl rfl rfl ?_ ?_⟩
      · repeat (first | exact .nil | refine .junk ?_ | refine .put (.ren (next_i64 (by omega)).symm) ?_ | refine .eq rfl ?_)
      · exact .put (notF rfl) rfl (.eq rfl (by simp)) (.put (notF rfl) rfl (.eq rfl (by simp)) (.nil _))
  · refine sreach_ok dl dop dps hkd.sm hkd.ll hkd.lo hkd.lp hkd.sl fun bm hbm => ?_
    have hmem : ∀ i, i ∈ idxsB bm.O dl.length → i < dl.length ∧ onB bm.O i := fun i hi => by
      unfold idxsB at hi
      rw [List.mem_filter] at hi
      exact ⟨by simpa using hi.1, by simpa [onB] using hi.2⟩
    have hlen2 := idxsB_len bm.O dl.length
    generalize idxsB bm.O dl.length = xs at hmem hlen2
    refine loop_keep (fun j => j ≤ xs.length) [3, 4, 77, 78] (fun j => [(79, vInt .i64 (j : Nat))]) (fun _ => [.var [.dat (objsD l), .dat (opnD op), .dat (prcD ps)], .var [.dat (objsD dl), .dat (opnD dop), .dat (prcD dps)]]) (fun j => xs.length - j) 0 (Nat.zero_le _) ?_ (fun j hj => ?_)
    · refine View.of 2 [0, 1] [] rfl rfl rfl rfl rfl rfl ?_ ?_
      · repeat (first | exact .nil | refine .junk ?_ | refine .eq rfl ?_)
      · exact .put (notF rfl) rfl (.eq rfl (by simp)) (.put (notF rfl) rfl (.eq rfl (by simp)) (.nil _))
    have hj : j ≤ xs.length := hj
    refine bB_dec (fun h => ?_) (fun h => ?_)
    · have hjlt : j < xs.length := by
        have h : (j : Int) < ((xs.map nE).length : Int) := h
        rw [List.length_map] at h
        omega
      have hgj : getZ (xs.map nE) (j : Nat) = some [.val (.int .i64 ((xs[j] : Nat) : Int))] := by
        rw [getZ_nat, List.getElem?_map, List.getElem?_eq_getElem hjlt]; rfl
      obtain ⟨hi1, hi2⟩ := hmem xs[j] (List.getElem_mem hjlt)
      generalize xs[j] = i at hgj hi1 hi2
      refine ok_some hgj ?_
      refine bB_no (by simp; omega) ?_
      have hil : i < l.length := by omega
      obtain ⟨o, ho, hok⟩ := hbm.kind hi2
      obtain ⟨o', ho', hoe⟩ := hO.2 i o ho hok
      have hg1 := obj_get hi1
      have hg2 := obj_get hil
      rw [List.getElem?_eq_getElem hi1] at ho
      have ho : dl[i] = o := by simpa using ho
      rw [List.getElem?_eq_getElem hil] at ho'
      have ho' : l[i] = o' := by simpa using ho'
      have hsm := hk.objs.sm _ (List.getElem_mem hil)
      rw [ho'] at hg2 hsm
      rw [ho, hoe] at hg1
      generalize o.peer = pe at hg1
      refine ok_some hg1 ?_
      refine ok_some hg2 ?_
      refine ⟨⟨⟨rfl, ok_some hg2 rfl, rfl, rfl, ok_some hg1 rfl, rfl, trivial⟩, ⟨rfl, ok_some hg2 rfl, rfl, rfl, ok_some hg1 rfl, rfl, trivial⟩, ⟨rfl, ok_some hg2 rfl, rfl, trivial⟩, trivial, ?_⟩,
        ⟨⟨rfl, ok_some hg2 rfl, rfl, rfl, ok_some hg1 rfl, rfl, trivial⟩, ⟨rfl, ok_some hg2 rfl, rfl, rfl, ok_some hg1 rfl, rfl, trivial⟩, ⟨rfl, ok_some hg2 rfl, rfl, trivial⟩, trivial, ?_⟩⟩
      · refine sameo_ok { o' with peer := 0 } ⟨hsm.t.1, hsm.t.2.1, hsm.t.2.2⟩ hsm.fit ?_
        refine ⟨j + 1, hjlt, (show xs.length - (j + 1) < xs.length - j by omega), View.of 4 [0, 1] [] rfl rfl rfl rfl rfl rfl ?_ ?_⟩
        · repeat (first | exact .nil | refine .junk ?_ | refine .put (.ren (next_i64 (by omega)).symm) ?_ | refine .eq rfl ?_)
        · exact .put (notF rfl) rfl (.eq rfl (by simp)) (.put (notF rfl) rfl (.eq rfl (by simp)) (.nil _))
      · refine sameo_ok { o' with peer := 0 } ⟨hsm.t.1, hsm.t.2.1, hsm.t.2.2⟩ hsm.fit ?_
        refine ⟨j + 1, hjlt, (show xs.length - (j + 1) < xs.length - j by omega), View.of 4 [0, 1] [] rfl rfl rfl rfl rfl rfl ?_ ?_⟩
        · repeat (first | exact .nil | refine .junk ?_ | refine .put (.ren (next_i64 (by omega)).symm) ?_ | refine .eq rfl ?_)
        · exact .put (notF rfl) rfl (.eq rfl (by simp)) (.put (notF rfl) rfl (.eq rfl (by simp)) (.nil _))
    · exact rfl
set_option maxRecDepth 100000 in
theorem keeps_ok (b : List Int) (hb : BYb b) : ACall Try.prog 5 [.rv (.one (.dat (.sl 1 (byD b))))] [] (fun r m => r = vBool true) :=
  acall_body Try.func5 l5 rfl (Nat.le_of_ble_eq_true rfl) (keeps_body b hb)
end Go.Proofs.Ytnlhnmlojcfljaa
