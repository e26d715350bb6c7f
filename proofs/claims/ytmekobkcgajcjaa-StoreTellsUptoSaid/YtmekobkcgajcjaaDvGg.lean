import Derived.Test.YtmekobkcgajcjaaAmZ2
import Derived.Test.YtmekobkcgajcjaaDvGf
import Derived.Test.YtmekobkcgajcjaaAmY
import Derived.Test.YtmekobkcgajcjaaDvGb
set_option linter.unusedVariables false
set_option linter.unusedSimpArgs false
namespace Go.Proofs.Ytmekobkcgajcjaa
open Go.AM Go.ChangeShapes Go.WideShapes Go.ChangeAt Go.RowKit
def c14 : LF := ⟨128, [.tmp 8, .tmp 9], (.seq (.reg [
    ⟨(some 8), .mov (.c (.rv (.one .esl))), none⟩,
    ⟨(some 9), .mov (.c (.rv (.one (.dat (.val (.int .i64 (0))))))), none⟩]) (.seq (.block 0 (.seq (.reg [
    ⟨(some 14), .mov (.t 1), none⟩,
    ⟨(some 15), .bin .lss (.t 14) (.c (.rv (.one (.dat (.val (.int .i64 (0))))))), none⟩,
    ⟨(some 16), .mov (.t 15), none⟩,
    ⟨(some 17), .mov (.t 1), (some (16, false))⟩,
    ⟨(some 18), .mov (.t 0), (some (16, false))⟩,
    ⟨(some 19), .len 1 (.t 18), (some (16, false))⟩,
    ⟨(some 20), .bin .geq (.t 17) (.t 19), (some (16, false))⟩,
    ⟨(some 21), .pick (.t 16) (.c (.rv (.one (.dat (.val (.bool true)))))) (.t 20), none⟩,
    ⟨(some 22), .mov (.t 21), none⟩,
    ⟨(some 23), .mov (.t 0), (some (22, false))⟩,
    ⟨(some 24), .mov (.t 1), (some (22, false))⟩,
    ⟨(some 25), .idx 9 (.t 23) (.t 24), (some (22, false))⟩,
    ⟨(some 26), .fadr 0 (.t 25), (some (22, false))⟩,
    ⟨(some 27), .load false 1 (.t 26), (some (22, false))⟩,
    ⟨(some 28), .bin .eql (.t 27) (.c (.rv (.one (.dat (.val (.int .i64 (0))))))), (some (22, false))⟩,
    ⟨(some 29), .pick (.t 22) (.c (.rv (.one (.dat (.val (.bool true)))))) (.t 28), none⟩,
    ⟨(some 30), .mov (.t 29), none⟩,
    ⟨(some 31), .mov (.t 3), (some (30, false))⟩,
    ⟨(some 32), .bin .lss (.t 31) (.c (.rv (.one (.dat (.val (.int .i64 (0))))))), (some (30, false))⟩,
    ⟨(some 33), .pick (.t 30) (.c (.rv (.one (.dat (.val (.bool true)))))) (.t 32), none⟩,
    ⟨(some 34), .mov (.t 33), none⟩,
    ⟨(some 35), .mov (.t 3), (some (34, false))⟩,
    ⟨(some 36), .mov (.t 0), (some (34, false))⟩,
    ⟨(some 37), .len 1 (.t 36), (some (34, false))⟩,
    ⟨(some 38), .bin .geq (.t 35) (.t 37), (some (34, false))⟩,
    ⟨(some 39), .pick (.t 34) (.c (.rv (.one (.dat (.val (.bool true)))))) (.t 38), none⟩,
    ⟨(some 40), .mov (.t 39), none⟩,
    ⟨(some 41), .mov (.t 0), (some (40, false))⟩,
    ⟨(some 42), .mov (.t 3), (some (40, false))⟩,
    ⟨(some 43), .idx 9 (.t 41) (.t 42), (some (40, false))⟩,
    ⟨(some 44), .fadr 0 (.t 43), (some (40, false))⟩,
    ⟨(some 45), .load false 1 (.t 44), (some (40, false))⟩,
    ⟨(some 46), .bin .eql (.t 45) (.c (.rv (.one (.dat (.val (.int .i64 (0))))))), (some (40, false))⟩,
    ⟨(some 47), .pick (.t 40) (.c (.rv (.one (.dat (.val (.bool true)))))) (.t 46), none⟩,
    ⟨(some 13), .mov (.t 47), none⟩]) (.cond (.t 13) (.seq (.reg [
    ⟨(some 8), .mov (.c (.rv (.one .esl))), none⟩,
    ⟨(some 9), .mov (.c (.rv (.one (.dat (.val (.int .i64 (6))))))), none⟩]) .ret) (.seq (.reg [
    ⟨(some 49), .mov (.t 0), none⟩,
    ⟨(some 50), .mov (.t 1), none⟩,
    ⟨(some 51), .idx 9 (.t 49) (.t 50), none⟩,
    ⟨(some 52), .fadr 0 (.t 51), none⟩,
    ⟨(some 53), .load false 1 (.t 52), none⟩,
    ⟨(some 54), .bin .neq (.t 53) (.c (.rv (.one (.dat (.val (.int .i64 (2))))))), none⟩,
    ⟨(some 48), .mov (.t 54), none⟩]) (.cond (.t 48) (.seq (.reg [
    ⟨(some 8), .mov (.c (.rv (.one .esl))), none⟩,
    ⟨(some 9), .mov (.c (.rv (.one (.dat (.val (.int .i64 (11))))))), none⟩]) .ret) (.seq (.reg [
    ⟨(some 56), .mov (.t 0), none⟩,
    ⟨(some 57), .mov (.t 1), none⟩,
    ⟨(some 58), .idx 9 (.t 56) (.t 57), none⟩,
    ⟨(some 59), .fadr 7 (.t 58), none⟩,
    ⟨(some 60), .load false 1 (.t 59), none⟩,
    ⟨(some 61), .bin .eql (.t 60) (.c (.rv (.one (.dat (.val (.int .i64 (0))))))), none⟩,
    ⟨(some 55), .mov (.t 61), none⟩]) (.cond (.t 55) (.seq (.reg [
    ⟨(some 8), .mov (.c (.rv (.one .esl))), none⟩,
    ⟨(some 9), .mov (.c (.rv (.one (.dat (.val (.int .i64 (6))))))), none⟩]) .ret) (.seq (.reg [
    ⟨(some 63), .mov (.t 2), none⟩,
    ⟨(some 64), .call (.c (.rv (.one (.fn 37 [])))) [(.t 63)], none⟩,
    ⟨(some 65), .un .not (.t 64), none⟩,
    ⟨(some 66), .mov (.t 65), none⟩,
    ⟨(some 67), .mov (.t 0), (some (66, false))⟩,
    ⟨(some 68), .mov (.t 1), (some (66, false))⟩,
    ⟨(some 69), .mov (.t 2), (some (66, false))⟩,
    ⟨(some 70), .call (.c (.rv (.one (.fn 10 [])))) [(.t 67), (.t 68), (.t 69)], (some (66, false))⟩,
    ⟨(some 71), .bin .geq (.t 70) (.c (.rv (.one (.dat (.val (.int .i64 (0))))))), (some (66, false))⟩,
    ⟨(some 72), .pick (.t 66) (.c (.rv (.one (.dat (.val (.bool true)))))) (.t 71), none⟩,
    ⟨(some 62), .mov (.t 72), none⟩]) (.cond (.t 62) (.seq (.reg [
    ⟨(some 8), .mov (.c (.rv (.one .esl))), none⟩,
    ⟨(some 9), .mov (.c (.rv (.one (.dat (.val (.int .i64 (7))))))), none⟩]) .ret) (.seq (.reg [
    ⟨(some 74), .mov (.t 0), none⟩,
    ⟨(some 75), .mov (.t 1), none⟩,
    ⟨(some 76), .idx 9 (.t 74) (.t 75), none⟩,
    ⟨(some 77), .fadr 2 (.t 76), none⟩,
    ⟨(some 78), .load false 1 (.t 77), none⟩,
    ⟨(some 79), .len 1 (.t 78), none⟩,
    ⟨(some 80), .bin .geq (.t 79) (.c (.rv (.one (.dat (.val (.int .i64 (8))))))), none⟩,
    ⟨(some 73), .mov (.t 80), none⟩]) (.cond (.t 73) (.seq (.reg [
    ⟨(some 8), .mov (.c (.rv (.one .esl))), none⟩,
    ⟨(some 9), .mov (.c (.rv (.one (.dat (.val (.int .i64 (15))))))), none⟩]) .ret) .skip))))))))))) (.seq (.reg [
    ⟨(some 81), .mov (.t 0), none⟩,
    ⟨(some 82), .call (.c (.rv (.one (.fn 8 [])))) [(.t 81)], none⟩,
    ⟨(some 10), .mov (.t 82), none⟩]) (.seq (.reg [
    ⟨(some 84), .mov (.t 10), none⟩,
    ⟨(some 85), .mov (.t 1), none⟩,
    ⟨(some 86), .idx 9 (.t 84) (.t 85), none⟩,
    ⟨(some 87), .fadr 2 (.t 86), none⟩,
    ⟨(some 88), .load false 1 (.t 87), none⟩,
    ⟨(some 89), .mov (.t 2), none⟩,
    ⟨(some 90), .call (.c (.rv (.one (.fn 31 [])))) [(.t 88), (.t 89), (.c (.rv (.one (.fn 38 []))))], none⟩,
    ⟨(some 83), .mov (.t 90), none⟩,
    ⟨(some 91), .ext (.t 83) 0, none⟩,
    ⟨(some 92), .ext (.t 83) 1, none⟩,
    ⟨(some 11), .mov (.t 91), none⟩,
    ⟨(some 12), .mov (.t 92), none⟩]) (.seq (.reg [
    ⟨(some 93), .mov (.t 10), none⟩,
    ⟨(some 94), .mov (.t 1), none⟩,
    ⟨(some 95), .mov (.t 10), none⟩,
    ⟨(some 96), .mov (.t 1), none⟩,
    ⟨(some 97), .idx 9 (.t 95) (.t 96), none⟩,
    ⟨(some 98), .fadr 2 (.t 97), none⟩,
    ⟨(some 99), .load false 1 (.t 98), none⟩,
    ⟨(some 100), .mov (.t 11), none⟩,
    ⟨(some 101), .mov (.t 2), none⟩,
    ⟨(some 102), .mov (.t 3), none⟩,
    ⟨(some 103), .build [(.dat (.val (.string ⟨#[]⟩))), (.dat (.val (.int .i64 (0))))] [(0, 1, (.t 101)), (1, 1, (.t 102))], none⟩,
    ⟨(some 104), .bsl 2 [(.dat (.val (.string ⟨#[]⟩))), (.dat (.val (.int .i64 (0))))] 1 [(0, (.t 103))], none⟩,
    ⟨(some 105), .call (.c (.rv (.one (.fn 39 [])))) [(.t 99), (.t 100), (.t 104)], none⟩,
    ⟨(some 106), .idx 9 (.t 93) (.t 94), none⟩,
    ⟨(some 107), .fadr 2 (.t 106), none⟩,
    ⟨none, .store 1 (.t 107) (.t 105), none⟩]) (.seq (.reg [
    ⟨(some 108), .mov (.t 10), none⟩,
    ⟨(some 109), .mov (.t 3), none⟩,
    ⟨(some 110), .idx 9 (.t 108) (.t 109), none⟩,
    ⟨(some 111), .fadr 7 (.t 110), none⟩,
    ⟨(some 112), .load false 1 (.t 111), none⟩,
    ⟨(some 113), .bin .add (.t 112) (.c (.rv (.one (.dat (.val (.int .i64 (1))))))), none⟩,
    ⟨(some 114), .idx 9 (.t 108) (.t 109), none⟩,
    ⟨(some 115), .fadr 7 (.t 114), none⟩,
    ⟨none, .store 1 (.t 115) (.t 113), none⟩]) (.seq (.seq (.reg [
    ⟨(some 116), .mov (.t 10), none⟩,
    ⟨(some 117), .mov (.t 3), none⟩,
    ⟨(some 118), .idx 9 (.t 116) (.t 117), none⟩,
    ⟨(some 119), .fadr 0 (.t 118), none⟩,
    ⟨(some 120), .load false 1 (.t 119), none⟩,
    ⟨(some 121), .bin .eql (.t 120) (.c (.rv (.one (.dat (.val (.int .i64 (2))))))), none⟩]) (.cond (.t 121) (.reg [
    ⟨(some 122), .mov (.t 10), none⟩,
    ⟨(some 123), .mov (.t 3), none⟩,
    ⟨(some 124), .mov (.t 1), none⟩,
    ⟨(some 125), .idx 9 (.t 122) (.t 123), none⟩,
    ⟨(some 126), .fadr 8 (.t 125), none⟩,
    ⟨none, .store 1 (.t 126) (.t 124), none⟩]) .skip)) (.ghost (.seq (.reg [
    ⟨(some 127), .mov (.t 10), none⟩,
    ⟨(some 8), .mov (.t 127), none⟩,
    ⟨(some 9), .mov (.c (.rv (.one (.dat (.val (.int .i64 (0))))))), none⟩]) .ret)))))))))⟩
def c22 : LF := ⟨20, [.tmp 2], (.seq (.reg [
    ⟨(some 1), .box (.t 0), none⟩,
    ⟨(some 2), .mov (.c (.rv (.one .esl))), none⟩]) (.seq (.reg [
    ⟨(some 3), .mov (.c (.rv (.one .esl))), none⟩]) (.seq (.seq (.reg [
    ⟨(some 6), .fadr 2 (.t 1), none⟩,
    ⟨(some 7), .load false 1 (.t 6), none⟩,
    ⟨(some 8), .len 1 (.t 7), none⟩,
    ⟨(some 9), .mov (.c (.rv (.one (.dat (.val (.int .i64 (0))))))), none⟩]) (.block 0 (.loop (.seq (.reg [
    ⟨(some 10), .bin .lss (.t 9) (.t 8), none⟩]) (.seq (.cond (.t 10) .skip (.exit 0)) (.seq (.block 1 (.seq (.reg [
    ⟨(some 11), .idx 2 (.t 7) (.t 9), none⟩,
    ⟨(some 12), .load true 2 (.t 11), none⟩,
    ⟨(some 5), .alloc [(.dat (.val (.string ⟨#[]⟩))), (.dat (.val (.int .i64 (0))))], none⟩,
    ⟨none, .store 2 (.t 5) (.t 12), none⟩]) (.reg [
    ⟨(some 13), .mov (.t 3), none⟩,
    ⟨(some 14), .fadr 0 (.t 5), none⟩,
    ⟨(some 15), .load false 1 (.t 14), none⟩,
    ⟨(some 16), .bsl 1 [(.dat (.val (.string ⟨#[]⟩)))] 1 [(0, (.t 15))], none⟩,
    ⟨(some 17), .app 1 16 (.t 13) (.t 16), none⟩,
    ⟨(some 3), .mov (.t 17), none⟩]))) (.reg [
    ⟨(some 18), .bin .add (.t 9) (.c (.rv (.one (.dat (.val (.int .i64 (1))))))), none⟩,
    ⟨(some 9), .mov (.t 18), none⟩]))))))) (.seq (.reg [
    ⟨(some 19), .mov (.t 3), none⟩,
    ⟨(some 2), .mov (.t 19), none⟩]) .ret))))⟩
def c39 : LF := ⟨95, [.tmp 6], (.seq (.reg [
    ⟨(some 6), .mov (.c (.rv (.one .esl))), none⟩]) (.seq (.reg [
    ⟨(some 10), .mov (.t 0), none⟩,
    ⟨(some 11), .mov (.t 1), none⟩,
    ⟨(some 12), .slc 2 (.t 10) (some (.t 11)) none none, none⟩]) (.seq (.reg [
    ⟨(some 13), .mov (.t 2), none⟩,
    ⟨(some 14), .len 1 (.t 13), none⟩,
    ⟨(some 7), .mov (.t 14), none⟩]) (.seq (.seq (.reg [
    ⟨(some 15), .mov (.t 7), none⟩,
    ⟨(some 16), .bin .eql (.t 15) (.c (.rv (.one (.dat (.val (.int .i64 (0))))))), none⟩]) (.cond (.t 16) (.seq (.reg [
    ⟨(some 17), .mov (.t 0), none⟩,
    ⟨(some 6), .mov (.t 17), none⟩]) .ret) .skip)) (.seq (.reg [
    ⟨(some 18), .mov (.t 0), none⟩,
    ⟨(some 19), .len 1 (.t 18), none⟩,
    ⟨(some 8), .mov (.t 19), none⟩]) (.seq (.seq (.reg [
    ⟨(some 20), .mov (.t 1), none⟩,
    ⟨(some 21), .mov (.t 8), none⟩,
    ⟨(some 22), .bin .eql (.t 20) (.t 21), none⟩]) (.cond (.t 22) (.seq (.reg [
    ⟨(some 23), .mov (.t 0), none⟩,
    ⟨(some 24), .mov (.t 2), none⟩,
    ⟨(some 25), .app 2 24 (.t 23) (.t 24), none⟩,
    ⟨(some 6), .mov (.t 25), none⟩]) .ret) .skip)) (.seq (.seq (.reg [
    ⟨(some 26), .mov (.t 8), none⟩,
    ⟨(some 27), .mov (.t 7), none⟩,
    ⟨(some 28), .bin .add (.t 26) (.t 27), none⟩,
    ⟨(some 29), .mov (.t 0), none⟩,
    ⟨(some 30), .minmax true [], none⟩,
    ⟨(some 31), .bin .gtr (.t 28) (.t 30), none⟩]) (.cond (.t 31) (.seq (.reg [
    ⟨(some 32), .mov (.t 0), none⟩,
    ⟨(some 33), .mov (.t 1), none⟩,
    ⟨(some 34), .slc 2 (.t 32) none (some (.t 33)) none, none⟩,
    ⟨(some 35), .mov (.t 8), none⟩,
    ⟨(some 36), .mov (.t 7), none⟩,
    ⟨(some 37), .bin .add (.t 35) (.t 36), none⟩,
    ⟨(some 38), .mov (.t 1), none⟩,
    ⟨(some 39), .bin .sub (.t 37) (.t 38), none⟩,
    ⟨(some 40), .minmax true [], none⟩,
    ⟨(some 9), .mov (.t 40), none⟩]) (.seq (.reg [
    ⟨(some 41), .mov (.t 9), none⟩,
    ⟨(some 42), .mov (.t 1), none⟩,
    ⟨(some 43), .slc 2 (.t 41) (some (.t 42)) none none, none⟩,
    ⟨(some 44), .mov (.t 2), none⟩,
    ⟨(some 45), .copy 2 (.t 43) (.t 44), none⟩]) (.seq (.draw [
    ⟨(some 46), .mov (.t 9), none⟩,
    ⟨(some 47), .mov (.t 1), none⟩,
    ⟨(some 48), .mov (.t 7), none⟩,
    ⟨(some 49), .bin .add (.t 47) (.t 48), none⟩,
    ⟨(some 50), .slc 2 (.t 46) (some (.t 49)) none none, none⟩,
    ⟨(some 51), .mov (.t 0), none⟩,
    ⟨(some 52), .mov (.t 1), none⟩,
    ⟨(some 53), .slc 2 (.t 51) (some (.t 52)) none none, none⟩,
    ⟨(some 54), .copy 2 (.t 50) (.t 53), none⟩]
    [(.cons 0 none (.cons 1 none (.cons 2 none (.cons 3 none (.cons 4 none (.cons 5 none (.cons 6 none (.cons 7 none (.cons 8 (some []) .nil)))))))))]) (.seq (.reg [
    ⟨(some 55), .mov (.t 9), none⟩,
    ⟨(some 6), .mov (.t 55), none⟩]) .ret)))) .skip)) (.seq (.reg [
    ⟨(some 56), .mov (.t 0), none⟩,
    ⟨(some 57), .mov (.t 8), none⟩,
    ⟨(some 58), .mov (.t 7), none⟩,
    ⟨(some 59), .bin .add (.t 57) (.t 58), none⟩,
    ⟨(some 60), .slc 2 (.t 56) none (some (.t 59)) none, none⟩,
    ⟨(some 0), .mov (.t 60), none⟩]) (.seq (.seq (.reg [
    ⟨(some 61), .mov (.t 2), none⟩,
    ⟨(some 62), .mov (.t 0), none⟩,
    ⟨(some 63), .mov (.t 1), none⟩,
    ⟨(some 64), .mov (.t 7), none⟩,
    ⟨(some 65), .bin .add (.t 63) (.t 64), none⟩,
    ⟨(some 66), .slc 2 (.t 62) (some (.t 65)) none none, none⟩,
    ⟨(some 67), .call (.c (.rv (.one (.fn 44 [])))) [(.t 61), (.t 66)], none⟩,
    ⟨(some 68), .un .not (.t 67), none⟩]) (.cond (.t 68) (.seq (.draw [
    ⟨(some 69), .mov (.t 0), none⟩,
    ⟨(some 70), .mov (.t 1), none⟩,
    ⟨(some 71), .mov (.t 7), none⟩,
    ⟨(some 72), .bin .add (.t 70) (.t 71), none⟩,
    ⟨(some 73), .slc 2 (.t 69) (some (.t 72)) none none, none⟩,
    ⟨(some 74), .mov (.t 0), none⟩,
    ⟨(some 75), .mov (.t 1), none⟩,
    ⟨(some 76), .slc 2 (.t 74) (some (.t 75)) none none, none⟩,
    ⟨(some 77), .copy 2 (.t 73) (.t 76), none⟩]
    [(.cons 0 none (.cons 1 none (.cons 2 none (.cons 3 none (.cons 4 none (.cons 5 none (.cons 6 none (.cons 7 none (.cons 8 (some []) .nil)))))))))]) (.seq (.reg [
    ⟨(some 78), .mov (.t 0), none⟩,
    ⟨(some 79), .mov (.t 1), none⟩,
    ⟨(some 80), .slc 2 (.t 78) (some (.t 79)) none none, none⟩,
    ⟨(some 81), .mov (.t 2), none⟩,
    ⟨(some 82), .copy 2 (.t 80) (.t 81), none⟩]) (.seq (.reg [
    ⟨(some 83), .mov (.t 0), none⟩,
    ⟨(some 6), .mov (.t 83), none⟩]) .ret))) .skip)) (.seq (.reg [
    ⟨(some 84), .mov (.t 0), none⟩,
    ⟨(some 85), .mov (.t 8), none⟩,
    ⟨(some 86), .slc 2 (.t 84) (some (.t 85)) none none, none⟩,
    ⟨(some 87), .mov (.t 2), none⟩,
    ⟨(some 88), .copy 2 (.t 86) (.t 87), none⟩]) (.seq (.reg [
    ⟨(some 89), .mov (.t 0), none⟩,
    ⟨(some 90), .mov (.t 1), none⟩,
    ⟨(some 91), .slc 2 (.t 89) (some (.t 90)) none none, none⟩,
    ⟨(some 92), .mov (.t 7), none⟩,
    ⟨(some 93), .call (.c (.rv (.one (.fn 45 [])))) [(.t 91), (.t 92)], none⟩]) (.seq (.reg [
    ⟨(some 94), .mov (.t 0), none⟩,
    ⟨(some 6), .mov (.t 94), none⟩]) .ret))))))))))))⟩
/-! store.Names; Name of one letter; Insert at the end; Enter, Remove of the closed fact -/
theorem l22 : lowF Try.prog Try.f22 = some c22 := by kernel_rfl
theorem l37 : lowF Try.prog Try.f37 = some c37 := by kernel_rfl
theorem l39 : lowF Try.prog Try.f39 = some c39 := by kernel_rfl
theorem l14 : lowF Try.prog Try.f14 = some c14.er := by kernel_rfl
def nmW (e : ByteArray × Int) : List Dt := [.val (.string e.1)]
set_option maxRecDepth 100000 in
set_option maxHeartbeats 8000000 in
theorem names_body (o : Obj) (es : List (ByteArray × Int)) (he : o.entries = es.map entW) (hl : es.length ≤ 4194304) : body Try.prog c22 [o.cv] [] (fun r m => FrzV m r (slV 1 (es.map nmW))) := by
  obtain ⟨kind, data, entries, target, peer, queue, proc, links, up⟩ := o
  have he : entries = es.map entW := he
  subst he
  refine loop_keep (fun k => k ≤ es.length) [7, 8] (fun k => [(9, vInt .i64 (k : Nat)), (3, .rv (.one (.row 0 1 0 none)))]) (fun k => [.row 1 (dRows ((es.take k).map nmW))]) (fun k => es.length - k) 0 (Nat.zero_le _) ?_ (fun k hk => ?_)
  · refine View.trans (View.esl 3 1 1 rfl rfl rfl) (View.of 2 [1] [] rfl rfl rfl rfl rfl rfl ?_ ?_)
    · repeat (first | exact .nil | refine .junk ?_ | refine .eq rfl ?_)
    · exact .put (notF rfl) rfl (.rowDE rfl) (.nil _)
  have hk : k ≤ es.length := hk
  refine bB_dec (fun h => ?_) (fun h => ?_)
  · have hlt : k < es.length := by
      have h : (k : Int) < ((es.map entW).length : Int) := h
      rw [List.length_map] at h
      omega
    refine ok_some (ent_getW hlt) ?_
    refine ⟨by simp [subL, dRows]; omega, ?_⟩
    refine ⟨k + 1, hlt, (show es.length - (k + 1) < es.length - k by omega), View.of 4 [3] [] rfl rfl rfl rfl rfl rfl ?_ ?_⟩
    · repeat (first | exact .nil | refine .junk ?_ | refine .put (.ren (next_i64 (by omega)).symm) ?_ | refine .eq rfl ?_)
    · refine .put (notF rfl) rfl (.rowDE ?_) (.nil _)
      rw [takeO (List.getElem?_eq_getElem hlt), List.map_append, dRows_append]
      rfl
  · have hke : k = es.length := by
      have h : ¬ (k : Int) < ((es.map entW).length : Int) := h
      rw [List.length_map] at h
      omega
    subst hke
    rw [List.take_length]
    exact .rv (.one (FrzC.rowD rfl 0 none))
set_option maxRecDepth 100000 in
theorem names_ok (o : Obj) (es : List (ByteArray × Int)) (he : o.entries = es.map entW) (hl : es.length ≤ 4194304) {m : Mem} {K : CV → Mem → Prop} (h : K (slV 1 (es.map nmW)) m) : ACall Try.prog 22 [o.cv] m K :=
  acall_frame (acall_body Try.func22 l22 rfl (Nat.le_of_ble_eq_true rfl) (names_body o es he hl)) (by simp [Obj.cv, Obj.enc, CV.isD, CC.isD, RV.isD]) fun r m1 hf => ⟨_, hf, h⟩
def sF : ByteArray := ⟨#[102]⟩
set_option maxRecDepth 100000 in
theorem pname_body : body Try.prog c37 [vStr sF] [] (fun r m => r = vBool true) := by
  refine bB_no (t := (sF.toList == (ByteArray.mk #[46]).toList)) (by decide +kernel) ?_
  refine bB_no (t := (sF.toList == (ByteArray.mk #[46, 46]).toList)) (by decide +kernel) ?_
  refine loop_keep (fun k => k ≤ 1) [0, 22] (fun k => [(23, vInt .i64 (k : Nat))]) (fun _ => []) (fun k => 1 - k) 0 (Nat.zero_le _) ?_ (fun k hk => ?_)
  · refine View.of 0 [] [] rfl rfl rfl rfl rfl rfl ?_ (.nil _)
    repeat (first | exact .nil | refine .junk ?_ | refine .eq rfl ?_)
  have hk : k ≤ 1 := hk
  match k, hk with
  | 0, _ =>
    refine ⟨1, Nat.le_refl 1, (show 1 - 1 < 1 - 0 by omega), View.of 0 [] [] rfl rfl rfl rfl rfl rfl ?_ (.nil _)⟩
    repeat (first | exact .nil | refine .junk ?_ | refine .eq rfl ?_)
  | 1, _ => exact rfl
set_option maxRecDepth 100000 in
theorem pname_f {m : Mem} {K : CV → Mem → Prop} (h : K (vBool true) m) : ACall Try.prog 37 [vStr sF] m K :=
  acall_val Try.func37 l37 rfl (Nat.le_of_ble_eq_true rfl) pname_body rfl rfl h
set_option maxRecDepth 100000 in
set_option maxHeartbeats 8000000 in
theorem ins_body (S : List (List Dt)) (e : List Dt) (hl : S.length ≤ 4194304) : body Try.prog c39 [.rv (.one (.row 0 2 0 none)), vInt .i64 (S.length : Nat), .rv (.one (.row 1 2 0 none))] [.row 2 (dRows S), .row 2 (dRows [e])]
    (fun r m => r = .rv (.one (.row 2 2 0 none)) ∧ m = [.dead, .dead, .row 2 (dRows (S ++ [e]))]) := by
  have hlen : lenOf (dRows S).length 0 none = S.length := dRows_length S
  refine bB_yes (by show (Nat.ble S.length (lenOf (dRows S).length 0 none) && Nat.ble (lenOf (dRows S).length 0 none) ((dRows S).length - 0)) = true; rw [hlen, dRows_length]; simp [Nat.ble_eq]) ?_
  refine bB_beq (fun h => ?_) (fun h => ?_)
  · refine ⟨by simp [subL, dRows]; omega, rfl, ?_⟩
    show [Bk.dead, .dead, .row 2 (subL (dRows S) 0 none ++ subL (dRows [e]) 0 none)] = _
    simp [subL, dRows]
  · exfalso
    apply h
    show ((S.length : Nat) : Int) = ((lenOf (dRows S).length 0 none : Nat) : Int)
    rw [hlen]
set_option maxRecDepth 100000 in
/-- Insert of one, at the end, into a block -/
theorem ins_ok (S : List (List Dt)) (e : List Dt) (hl : S.length ≤ 4194304) {m : Mem} {K : CV → Mem → Prop} (a b : Nat) (hab : nodupN [a, b] = true) (hlt : allLt m.length [a, b] = true) (ha : nth m a = some (.row 2 (dRows S))) (hb : nth m b = some (.row 2 (dRows [e])))
    (h : K (.rv (.one (.row m.length 2 0 none))) (weave m [a, b] [.dead, .dead, .row 2 (dRows (S ++ [e]))])) : ACall Try.prog 39 [.rv (.one (.row a 2 0 none)), vInt .i64 (S.length : Nat), .rv (.one (.row b 2 0 none))] m K := by
  refine acall_borrow [a, b] m.length rfl rfl hab hlt (args0 := [.rv (.one (.row 0 2 0 none)), vInt .i64 (S.length : Nat), .rv (.one (.row 1 2 0 none))]) rfl (m0 := [.row 2 (dRows S), .row 2 (dRows [e])]) (fun i b' hi => ?_) (acall_body Try.func39 l39 rfl (Nat.le_of_ble_eq_true rfl) (ins_body S e hl)) (fun r1 m1 hr => ?_)
  · match i, hi with
    | 0, hi => cases hi; exact .inr ⟨fun h => h, _, by rw [nth_eq] at ha; exact ha, .rowDE rfl⟩
    | 1, hi => cases hi; exact .inr ⟨fun h => h, _, by rw [nth_eq] at hb; exact hb, .rowDE rfl⟩
    | n + 2, hi => simp at hi
  · obtain ⟨rfl, rfl⟩ := hr
    refine ⟨by simp, ?_⟩
    show K (.rv (.one (.row (m.length + (2 - 2)) 2 0 none))) (weave m [a, b] [.dead, .dead, .row 2 ((dRows (S ++ [e])).map (fun cs => cs.map (CC.ren (sg [a, b] m.length))))])
    rw [dRows_ren1]
    exact h
/-! Enter of the closed fact -/
def rootA : Obj := ⟨2, [], [], ⟨#[]⟩, -1, [], -1, 1, 0⟩
def fileA : Obj := ⟨1, [[.val (.int .u8 97)], [.val (.int .u8 98)]], [], ⟨#[]⟩, -1, [], -1, 0, 0⟩
def rootB : Obj := ⟨2, [], [entW (sF, 1)], ⟨#[]⟩, -1, [], -1, 1, 0⟩
def fileB : Obj := ⟨1, [[.val (.int .u8 97)], [.val (.int .u8 98)]], [], ⟨#[]⟩, -1, [], -1, 1, 0⟩
theorem fitA : fitL [rootA, fileA] := ⟨by simp, fun o ho => by
  simp at ho
  rcases ho with rfl | rfl <;> exact ⟨by simp [rootA, fileA], by simp [rootA, fileA], by simp [rootA, fileA], fun q hq => by simp [rootA, fileA] at hq⟩⟩
theorem fitB : fitL [rootB, fileB] := ⟨by simp, fun o ho => by
  simp at ho
  rcases ho with rfl | rfl <;> exact ⟨by simp [rootB, fileB], by simp [rootB, fileB], by simp [rootB, fileB], fun q hq => by simp [rootB, fileB] at hq⟩⟩
def G127 : LC := unW (sndW (sndW (sndW (sndW (sndW (sndW (sndW c14.code)))))))
set_option maxRecDepth 100000 in
set_option maxHeartbeats 8000000 in
theorem enterA_body : body Try.prog c14 [objsV [rootA, fileA], vInt .i64 0, vStr sF, vInt .i64 1] [] (fun r m => r = .tup [objsR [rootB, fileB], iRV 0]) := by
  refine pname_f ?_
  refine sfind_ok [rootA, fileA] 0 (by simp) rfl [] rfl (by simp) sF ?_
  refine ownE_ok [rootA, fileA] fitA 0 ?_
  refine bs_row [] (by simp) sF 38 (fun e m K h => clo38 e sF h) (id := 1) rfl ?_
  refine ins_ok [] (entW (sF, 1)) (by simp) 1 2 rfl rfl rfl rfl ?_
  have hfin : aw Try.prog 0 G127 (endK Try.prog c14.res (fun r m => r = .tup [objsR [rootB, fileB], iRV 0])) ⟨mkE 128 [(10, objsV [rootB, fileB])], []⟩ := rfl
  refine ⟨_, View.of 4 [] [0, 3] rfl rfl rfl rfl rfl rfl ?_ (.nil _), hfin⟩
  iterate 10 refine .junk ?_
  refine .put (.rv (.one (.frz (p := none) ?_))) ?_
  · refine RowsFz.frz (Z := fun k => memN [0, 3] k = true) (ds := [rootB.enc, fileB.enc]) ?_ rfl rfl
    refine .cons ?_ (.cons ?_ .nil)
    · exact .cons (.dat _) (.cons (.dat _) (.cons (FrzD.rowD (Z := fun k => memN [0, 3] k = true) rfl rfl 0 none) (.cons (.dat _) (.cons (.dat _) (.cons (.dat _) (.cons (.dat _) (.cons (.dat _) (.cons (.dat _) .nil))))))))
    · exact .cons (.dat _) (.cons (.dat _) (.cons (.dat _) (.cons (.dat _) (.cons (.dat _) (.cons (.dat _) (.cons (.dat _) (.cons (.dat _) (.cons (.dat _) .nil))))))))
  repeat (first | exact .nil | refine .junk ?_)
set_option maxRecDepth 100000 in
theorem enterA_ok {m : Mem} {K : CV → Mem → Prop} (h : K (.tup [objsR [rootB, fileB], iRV 0]) m) : ACall Try.prog 14 [objsV [rootA, fileA], vInt .i64 0, vStr sF, vInt .i64 1] m K := by
  refine acall_frame (K0 := fun r _ => r = .tup [objsR [rootB, fileB], iRV 0]) (acall_body_g Try.func14 l14 rfl (Nat.le_of_ble_eq_true rfl) enterA_body) (by simp [objsV, vInt, vStr, CV.isD, CC.isD, RV.isD]) fun r m1 hr => ?_
  subst hr
  exact ⟨_, FrzV.self rfl, h⟩

def c9 : LF := ⟨3, [.tmp 0], (.seq (.reg [
    ⟨(some 0), .mov (.c (.rv (.one .esl))), none⟩]) (.seq (.reg [
    ⟨(some 1), .build [(.dat (.val (.int .i64 (0)))), .esl, .esl, (.dat (.val (.string ⟨#[]⟩))), (.dat (.val (.int .i64 (0)))), .esl, (.dat (.val (.int .i64 (0)))), (.dat (.val (.int .i64 (0)))), (.dat (.val (.int .i64 (0))))] [(0, 1, (.c (.rv (.one (.dat (.val (.int .i64 (2)))))))), (7, 1, (.c (.rv (.one (.dat (.val (.int .i64 (1)))))))), (4, 1, (.c (.rv (.one (.dat (.val (.int .i64 (-1)))))))), (6, 1, (.c (.rv (.one (.dat (.val (.int .i64 (-1))))))))], none⟩,
    ⟨(some 2), .bsl 9 [(.dat (.val (.int .i64 (0)))), .esl, .esl, (.dat (.val (.string ⟨#[]⟩))), (.dat (.val (.int .i64 (0)))), .esl, (.dat (.val (.int .i64 (0)))), (.dat (.val (.int .i64 (0)))), (.dat (.val (.int .i64 (0))))] 1 [(0, (.t 1))], none⟩,
    ⟨(some 0), .mov (.t 2), none⟩]) .ret))⟩
def c16 : LF := ⟨90, [.tmp 6, .tmp 7, .tmp 8], (.seq (.reg [
    ⟨(some 5), .box (.t 2), none⟩,
    ⟨(some 6), .mov (.c (.rv (.one .esl))), none⟩,
    ⟨(some 7), .mov (.c (.rv (.one (.dat (.val (.int .i64 (0))))))), none⟩,
    ⟨(some 8), .mov (.c (.rv (.one (.dat (.val (.int .i64 (0))))))), none⟩]) (.seq (.seq (.reg [
    ⟨(some 11), .mov (.t 1), none⟩,
    ⟨(some 12), .bin .lss (.t 11) (.c (.rv (.one (.dat (.val (.int .i64 (0))))))), none⟩,
    ⟨(some 13), .mov (.t 12), none⟩,
    ⟨(some 14), .mov (.t 1), (some (13, false))⟩,
    ⟨(some 15), .mov (.t 0), (some (13, false))⟩,
    ⟨(some 16), .len 1 (.t 15), (some (13, false))⟩,
    ⟨(some 17), .bin .geq (.t 14) (.t 16), (some (13, false))⟩,
    ⟨(some 18), .pick (.t 13) (.c (.rv (.one (.dat (.val (.bool true)))))) (.t 17), none⟩,
    ⟨(some 19), .mov (.t 18), none⟩,
    ⟨(some 20), .mov (.t 0), (some (19, false))⟩,
    ⟨(some 21), .mov (.t 1), (some (19, false))⟩,
    ⟨(some 22), .idx 9 (.t 20) (.t 21), (some (19, false))⟩,
    ⟨(some 23), .fadr 0 (.t 22), (some (19, false))⟩,
    ⟨(some 24), .load false 1 (.t 23), (some (19, false))⟩,
    ⟨(some 25), .bin .eql (.t 24) (.c (.rv (.one (.dat (.val (.int .i64 (0))))))), (some (19, false))⟩,
    ⟨(some 26), .pick (.t 19) (.c (.rv (.one (.dat (.val (.bool true)))))) (.t 25), none⟩]) (.cond (.t 26) (.seq (.reg [
    ⟨(some 6), .mov (.c (.rv (.one .esl))), none⟩,
    ⟨(some 7), .mov (.c (.rv (.one (.dat (.val (.int .i64 (0))))))), none⟩,
    ⟨(some 8), .mov (.c (.rv (.one (.dat (.val (.int .i64 (6))))))), none⟩]) .ret) .skip)) (.seq (.seq (.reg [
    ⟨(some 27), .mov (.t 0), none⟩,
    ⟨(some 28), .mov (.t 1), none⟩,
    ⟨(some 29), .idx 9 (.t 27) (.t 28), none⟩,
    ⟨(some 30), .fadr 0 (.t 29), none⟩,
    ⟨(some 31), .load false 1 (.t 30), none⟩,
    ⟨(some 32), .bin .neq (.t 31) (.c (.rv (.one (.dat (.val (.int .i64 (2))))))), none⟩]) (.cond (.t 32) (.seq (.reg [
    ⟨(some 6), .mov (.c (.rv (.one .esl))), none⟩,
    ⟨(some 7), .mov (.c (.rv (.one (.dat (.val (.int .i64 (0))))))), none⟩,
    ⟨(some 8), .mov (.c (.rv (.one (.dat (.val (.int .i64 (11))))))), none⟩]) .ret) .skip)) (.seq (.reg [
    ⟨(some 33), .mov (.t 0), none⟩,
    ⟨(some 34), .mov (.t 1), none⟩,
    ⟨(some 35), .load false 1 (.t 5), none⟩,
    ⟨(some 36), .call (.c (.rv (.one (.fn 10 [])))) [(.t 33), (.t 34), (.t 35)], none⟩,
    ⟨(some 9), .mov (.t 36), none⟩]) (.seq (.block 0 (.seq (.reg [
    ⟨(some 38), .mov (.t 9), none⟩,
    ⟨(some 39), .bin .lss (.t 38) (.c (.rv (.one (.dat (.val (.int .i64 (0))))))), none⟩,
    ⟨(some 37), .mov (.t 39), none⟩]) (.cond (.t 37) (.seq (.reg [
    ⟨(some 6), .mov (.c (.rv (.one .esl))), none⟩,
    ⟨(some 7), .mov (.c (.rv (.one (.dat (.val (.int .i64 (0))))))), none⟩,
    ⟨(some 8), .mov (.c (.rv (.one (.dat (.val (.int .i64 (6))))))), none⟩]) .ret) (.seq (.reg [
    ⟨(some 41), .mov (.t 0), none⟩,
    ⟨(some 42), .mov (.t 9), none⟩,
    ⟨(some 43), .idx 9 (.t 41) (.t 42), none⟩,
    ⟨(some 44), .fadr 0 (.t 43), none⟩,
    ⟨(some 45), .load false 1 (.t 44), none⟩,
    ⟨(some 46), .bin .eql (.t 45) (.c (.rv (.one (.dat (.val (.int .i64 (2))))))), none⟩,
    ⟨(some 47), .mov (.t 46), none⟩,
    ⟨(some 48), .mov (.t 0), (some (47, true))⟩,
    ⟨(some 49), .mov (.t 9), (some (47, true))⟩,
    ⟨(some 50), .idx 9 (.t 48) (.t 49), (some (47, true))⟩,
    ⟨(some 51), .fadr 2 (.t 50), (some (47, true))⟩,
    ⟨(some 52), .load false 1 (.t 51), (some (47, true))⟩,
    ⟨(some 53), .len 1 (.t 52), (some (47, true))⟩,
    ⟨(some 54), .bin .gtr (.t 53) (.c (.rv (.one (.dat (.val (.int .i64 (0))))))), (some (47, true))⟩,
    ⟨(some 55), .pick (.t 47) (.t 54) (.c (.rv (.one (.dat (.val (.bool false)))))), none⟩,
    ⟨(some 40), .mov (.t 55), none⟩]) (.cond (.t 40) (.seq (.reg [
    ⟨(some 6), .mov (.c (.rv (.one .esl))), none⟩,
    ⟨(some 7), .mov (.c (.rv (.one (.dat (.val (.int .i64 (0))))))), none⟩,
    ⟨(some 8), .mov (.c (.rv (.one (.dat (.val (.int .i64 (18))))))), none⟩]) .ret) .skip))))) (.seq (.reg [
    ⟨(some 56), .mov (.t 0), none⟩,
    ⟨(some 57), .call (.c (.rv (.one (.fn 8 [])))) [(.t 56)], none⟩,
    ⟨(some 10), .mov (.t 57), none⟩]) (.seq (.reg [
    ⟨(some 58), .mov (.t 10), none⟩,
    ⟨(some 59), .mov (.t 1), none⟩,
    ⟨(some 60), .mov (.t 10), none⟩,
    ⟨(some 61), .mov (.t 1), none⟩,
    ⟨(some 62), .idx 9 (.t 60) (.t 61), none⟩,
    ⟨(some 63), .fadr 2 (.t 62), none⟩,
    ⟨(some 64), .load false 1 (.t 63), none⟩,
    ⟨(some 65), .fn 42 [(.t 5)], none⟩,
    ⟨(some 66), .call (.c (.rv (.one (.fn 41 [])))) [(.t 64), (.t 65)], none⟩,
    ⟨(some 67), .idx 9 (.t 58) (.t 59), none⟩,
    ⟨(some 68), .fadr 2 (.t 67), none⟩,
    ⟨none, .store 1 (.t 68) (.t 66), none⟩]) (.seq (.reg [
    ⟨(some 69), .mov (.t 10), none⟩,
    ⟨(some 70), .mov (.t 9), none⟩,
    ⟨(some 71), .idx 9 (.t 69) (.t 70), none⟩,
    ⟨(some 72), .fadr 7 (.t 71), none⟩,
    ⟨(some 73), .load false 1 (.t 72), none⟩,
    ⟨(some 74), .bin .sub (.t 73) (.c (.rv (.one (.dat (.val (.int .i64 (1))))))), none⟩,
    ⟨(some 75), .idx 9 (.t 69) (.t 70), none⟩,
    ⟨(some 76), .fadr 7 (.t 75), none⟩,
    ⟨none, .store 1 (.t 76) (.t 74), none⟩]) (.seq (.seq (.reg [
    ⟨(some 77), .mov (.t 10), none⟩,
    ⟨(some 78), .mov (.t 9), none⟩,
    ⟨(some 79), .idx 9 (.t 77) (.t 78), none⟩,
    ⟨(some 80), .fadr 0 (.t 79), none⟩,
    ⟨(some 81), .load false 1 (.t 80), none⟩,
    ⟨(some 82), .bin .eql (.t 81) (.c (.rv (.one (.dat (.val (.int .i64 (2))))))), none⟩]) (.cond (.t 82) (.reg [
    ⟨(some 83), .mov (.t 10), none⟩,
    ⟨(some 84), .mov (.t 9), none⟩,
    ⟨(some 85), .mov (.t 9), none⟩,
    ⟨(some 86), .idx 9 (.t 83) (.t 84), none⟩,
    ⟨(some 87), .fadr 8 (.t 86), none⟩,
    ⟨none, .store 1 (.t 87) (.t 85), none⟩]) .skip)) (.ghost (.seq (.reg [
    ⟨(some 88), .mov (.t 10), none⟩,
    ⟨(some 89), .mov (.t 9), none⟩,
    ⟨(some 6), .mov (.t 88), none⟩,
    ⟨(some 7), .mov (.t 89), none⟩,
    ⟨(some 8), .mov (.c (.rv (.one (.dat (.val (.int .i64 (0))))))), none⟩]) .ret)))))))))))⟩
def c24 : LF := ⟨109, [.tmp 0], (.seq (.reg [
    ⟨(some 0), .mov (.c (.rv (.one (.dat (.val (.bool false)))))), none⟩]) (.seq (.reg [
    ⟨(some 14), .call (.c (.rv (.one (.fn 9 [])))) [], none⟩,
    ⟨(some 15), .bsl 1 [(.dat (.val (.int .u8 (0))))] 2 [(0, (.c (.rv (.one (.dat (.val (.int .u8 (97)))))))), (1, (.c (.rv (.one (.dat (.val (.int .u8 (98))))))))], none⟩,
    ⟨(some 16), .idb (.t 15), none⟩,
    ⟨(some 17), .build [(.dat (.val (.int .i64 (0)))), .esl, .esl, (.dat (.val (.string ⟨#[]⟩))), (.dat (.val (.int .i64 (0)))), .esl, (.dat (.val (.int .i64 (0)))), (.dat (.val (.int .i64 (0)))), (.dat (.val (.int .i64 (0))))] [(0, 1, (.c (.rv (.one (.dat (.val (.int .i64 (1)))))))), (1, 1, (.t 16)), (4, 1, (.c (.rv (.one (.dat (.val (.int .i64 (-1)))))))), (6, 1, (.c (.rv (.one (.dat (.val (.int .i64 (-1))))))))], none⟩,
    ⟨(some 18), .call (.c (.rv (.one (.fn 12 [])))) [(.t 14), (.t 17)], none⟩,
    ⟨(some 13), .mov (.t 18), none⟩,
    ⟨(some 19), .ext (.t 13) 0, none⟩,
    ⟨(some 20), .ext (.t 13) 1, none⟩,
    ⟨(some 21), .ext (.t 13) 2, none⟩,
    ⟨(some 1), .mov (.t 19), none⟩,
    ⟨(some 2), .mov (.t 20), none⟩,
    ⟨(some 3), .mov (.t 21), none⟩]) (.seq (.reg [
    ⟨(some 23), .mov (.t 1), none⟩,
    ⟨(some 24), .mov (.t 2), none⟩,
    ⟨(some 25), .call (.c (.rv (.one (.fn 14 [])))) [(.t 23), (.c (.rv (.one (.dat (.val (.int .i64 (0))))))), (.c (.rv (.one (.dat (.val (.string ⟨#[102]⟩)))))), (.t 24)], none⟩,
    ⟨(some 22), .mov (.t 25), none⟩,
    ⟨(some 26), .ext (.t 22) 0, none⟩,
    ⟨(some 27), .ext (.t 22) 1, none⟩,
    ⟨(some 4), .mov (.t 26), none⟩,
    ⟨(some 5), .mov (.t 27), none⟩]) (.seq (.reg [
    ⟨(some 29), .mov (.t 4), none⟩,
    ⟨(some 30), .call (.c (.rv (.one (.fn 16 [])))) [(.t 29), (.c (.rv (.one (.dat (.val (.int .i64 (0))))))), (.c (.rv (.one (.dat (.val (.string ⟨#[102]⟩))))))], none⟩,
    ⟨(some 28), .mov (.t 30), none⟩,
    ⟨(some 31), .ext (.t 28) 0, none⟩,
    ⟨(some 32), .ext (.t 28) 1, none⟩,
    ⟨(some 33), .ext (.t 28) 2, none⟩,
    ⟨(some 6), .mov (.t 31), none⟩,
    ⟨(some 7), .mov (.t 32), none⟩,
    ⟨(some 8), .mov (.t 33), none⟩]) (.seq (.seq (.reg [
    ⟨(some 34), .mov (.t 3), none⟩,
    ⟨(some 35), .bin .neq (.t 34) (.c (.rv (.one (.dat (.val (.int .i64 (0))))))), none⟩,
    ⟨(some 36), .mov (.t 35), none⟩,
    ⟨(some 37), .mov (.t 5), (some (36, false))⟩,
    ⟨(some 38), .bin .neq (.t 37) (.c (.rv (.one (.dat (.val (.int .i64 (0))))))), (some (36, false))⟩,
    ⟨(some 39), .pick (.t 36) (.c (.rv (.one (.dat (.val (.bool true)))))) (.t 38), none⟩,
    ⟨(some 40), .mov (.t 39), none⟩,
    ⟨(some 41), .mov (.t 8), (some (40, false))⟩,
    ⟨(some 42), .bin .neq (.t 41) (.c (.rv (.one (.dat (.val (.int .i64 (0))))))), (some (40, false))⟩,
    ⟨(some 43), .pick (.t 40) (.c (.rv (.one (.dat (.val (.bool true)))))) (.t 42), none⟩,
    ⟨(some 44), .mov (.t 43), none⟩,
    ⟨(some 45), .mov (.t 4), (some (44, false))⟩,
    ⟨(some 46), .len 1 (.t 45), (some (44, false))⟩,
    ⟨(some 47), .bin .neq (.t 46) (.c (.rv (.one (.dat (.val (.int .i64 (2))))))), (some (44, false))⟩,
    ⟨(some 48), .pick (.t 44) (.c (.rv (.one (.dat (.val (.bool true)))))) (.t 47), none⟩,
    ⟨(some 49), .mov (.t 48), none⟩,
    ⟨(some 50), .mov (.t 6), (some (49, false))⟩,
    ⟨(some 51), .len 1 (.t 50), (some (49, false))⟩,
    ⟨(some 52), .bin .neq (.t 51) (.c (.rv (.one (.dat (.val (.int .i64 (2))))))), (some (49, false))⟩,
    ⟨(some 53), .pick (.t 49) (.c (.rv (.one (.dat (.val (.bool true)))))) (.t 52), none⟩,
    ⟨(some 54), .mov (.t 53), none⟩,
    ⟨(some 55), .mov (.t 7), (some (54, false))⟩,
    ⟨(some 56), .bin .neq (.t 55) (.c (.rv (.one (.dat (.val (.int .i64 (1))))))), (some (54, false))⟩,
    ⟨(some 57), .pick (.t 54) (.c (.rv (.one (.dat (.val (.bool true)))))) (.t 56), none⟩]) (.cond (.t 57) (.seq (.reg [
    ⟨(some 0), .mov (.c (.rv (.one (.dat (.val (.bool false)))))), none⟩]) .ret) .skip)) (.seq (.reg [
    ⟨(some 59), .mov (.t 4), none⟩,
    ⟨(some 60), .idx 9 (.t 59) (.c (.rv (.one (.dat (.val (.int .i64 (1))))))), none⟩,
    ⟨(some 61), .load true 9 (.t 60), none⟩,
    ⟨(some 62), .call (.c (.rv (.one (.fn 18 [])))) [(.t 61), (.c (.rv (.one (.dat (.val (.int .i64 (1))))))), (.c (.rv (.one (.dat (.val (.int .i64 (9)))))))], none⟩,
    ⟨(some 58), .mov (.t 62), none⟩,
    ⟨(some 63), .ext (.t 58) 0, none⟩,
    ⟨(some 64), .ext (.t 58) 1, none⟩,
    ⟨(some 9), .mov (.t 63), none⟩,
    ⟨(some 10), .mov (.t 64), none⟩]) (.seq (.reg [
    ⟨(some 66), .mov (.t 4), none⟩,
    ⟨(some 67), .idx 9 (.t 66) (.c (.rv (.one (.dat (.val (.int .i64 (1))))))), none⟩,
    ⟨(some 68), .load true 9 (.t 67), none⟩,
    ⟨(some 69), .bsl 1 [(.dat (.val (.int .u8 (0))))] 1 [(0, (.c (.rv (.one (.dat (.val (.int .u8 (122))))))))], none⟩,
    ⟨(some 70), .idb (.t 69), none⟩,
    ⟨(some 71), .call (.c (.rv (.one (.fn 20 [])))) [(.t 68), (.c (.rv (.one (.dat (.val (.int .i64 (3))))))), (.t 70)], none⟩,
    ⟨(some 65), .mov (.t 71), none⟩,
    ⟨(some 72), .ext (.t 65) 0, none⟩,
    ⟨(some 73), .ext (.t 65) 1, none⟩,
    ⟨(some 11), .alloc [(.dat (.val (.int .i64 (0)))), .esl, .esl, (.dat (.val (.string ⟨#[]⟩))), (.dat (.val (.int .i64 (0)))), .esl, (.dat (.val (.int .i64 (0)))), (.dat (.val (.int .i64 (0)))), (.dat (.val (.int .i64 (0))))], none⟩,
    ⟨none, .store 9 (.t 11) (.t 72), none⟩,
    ⟨(some 12), .mov (.t 73), none⟩]) (.ghost (.seq (.reg [
    ⟨(some 74), .mov (.t 10), none⟩,
    ⟨(some 75), .bin .eql (.t 74) (.c (.rv (.one (.dat (.val (.int .i64 (0))))))), none⟩,
    ⟨(some 76), .mov (.t 75), none⟩,
    ⟨(some 77), .mov (.t 12), (some (76, true))⟩,
    ⟨(some 78), .bin .eql (.t 77) (.c (.rv (.one (.dat (.val (.int .i64 (0))))))), (some (76, true))⟩,
    ⟨(some 79), .pick (.t 76) (.t 78) (.c (.rv (.one (.dat (.val (.bool false)))))), none⟩,
    ⟨(some 80), .mov (.t 79), none⟩,
    ⟨(some 81), .mov (.t 9), (some (80, true))⟩,
    ⟨(some 82), .b2s (.t 81), (some (80, true))⟩,
    ⟨(some 83), .bin .eql (.t 82) (.c (.rv (.one (.dat (.val (.string ⟨#[98]⟩)))))), (some (80, true))⟩,
    ⟨(some 84), .pick (.t 80) (.t 83) (.c (.rv (.one (.dat (.val (.bool false)))))), none⟩,
    ⟨(some 85), .mov (.t 84), none⟩,
    ⟨(some 86), .fadr 1 (.t 11), (some (85, true))⟩,
    ⟨(some 87), .load false 1 (.t 86), (some (85, true))⟩,
    ⟨(some 88), .len 1 (.t 87), (some (85, true))⟩,
    ⟨(some 89), .bin .eql (.t 88) (.c (.rv (.one (.dat (.val (.int .i64 (4))))))), (some (85, true))⟩,
    ⟨(some 90), .pick (.t 85) (.t 89) (.c (.rv (.one (.dat (.val (.bool false)))))), none⟩,
    ⟨(some 91), .mov (.t 90), none⟩,
    ⟨(some 92), .mov (.t 4), (some (91, true))⟩,
    ⟨(some 93), .call (.c (.rv (.one (.fn 10 [])))) [(.t 92), (.c (.rv (.one (.dat (.val (.int .i64 (0))))))), (.c (.rv (.one (.dat (.val (.string ⟨#[102]⟩))))))], (some (91, true))⟩,
    ⟨(some 94), .bin .eql (.t 93) (.c (.rv (.one (.dat (.val (.int .i64 (1))))))), (some (91, true))⟩,
    ⟨(some 95), .pick (.t 91) (.t 94) (.c (.rv (.one (.dat (.val (.bool false)))))), none⟩,
    ⟨(some 96), .mov (.t 95), none⟩,
    ⟨(some 97), .mov (.t 6), (some (96, true))⟩,
    ⟨(some 98), .call (.c (.rv (.one (.fn 10 [])))) [(.t 97), (.c (.rv (.one (.dat (.val (.int .i64 (0))))))), (.c (.rv (.one (.dat (.val (.string ⟨#[102]⟩))))))], (some (96, true))⟩,
    ⟨(some 99), .bin .lss (.t 98) (.c (.rv (.one (.dat (.val (.int .i64 (0))))))), (some (96, true))⟩,
    ⟨(some 100), .pick (.t 96) (.t 99) (.c (.rv (.one (.dat (.val (.bool false)))))), none⟩,
    ⟨(some 101), .mov (.t 100), none⟩,
    ⟨(some 102), .mov (.t 4), (some (101, true))⟩,
    ⟨(some 103), .idx 9 (.t 102) (.c (.rv (.one (.dat (.val (.int .i64 (0))))))), (some (101, true))⟩,
    ⟨(some 104), .load true 9 (.t 103), (some (101, true))⟩,
    ⟨(some 105), .call (.c (.rv (.one (.fn 22 [])))) [(.t 104)], (some (101, true))⟩,
    ⟨(some 106), .len 1 (.t 105), (some (101, true))⟩,
    ⟨(some 107), .bin .eql (.t 106) (.c (.rv (.one (.dat (.val (.int .i64 (1))))))), (some (101, true))⟩,
    ⟨(some 108), .pick (.t 101) (.t 107) (.c (.rv (.one (.dat (.val (.bool false)))))), none⟩,
    ⟨(some 0), .mov (.t 108), none⟩]) .ret)))))))))⟩
def c41 : LF := ⟨42, [.tmp 4], (.seq (.reg [
    ⟨(some 4), .mov (.c (.rv (.one .esl))), none⟩]) (.seq (.reg [
    ⟨(some 8), .mov (.t 0), none⟩,
    ⟨(some 9), .mov (.t 1), none⟩,
    ⟨(some 10), .call (.c (.rv (.one (.fn 46 [])))) [(.t 8), (.t 9)], none⟩,
    ⟨(some 5), .mov (.t 10), none⟩]) (.seq (.seq (.reg [
    ⟨(some 11), .mov (.t 5), none⟩,
    ⟨(some 12), .bin .eql (.t 11) (.c (.rv (.one (.dat (.val (.int .i64 (-1))))))), none⟩]) (.cond (.t 12) (.seq (.reg [
    ⟨(some 13), .mov (.t 0), none⟩,
    ⟨(some 4), .mov (.t 13), none⟩]) .ret) .skip)) (.seq (.seq (.reg [
    ⟨(some 14), .mov (.t 5), none⟩,
    ⟨(some 15), .bin .add (.t 14) (.c (.rv (.one (.dat (.val (.int .i64 (1))))))), none⟩,
    ⟨(some 6), .mov (.t 15), none⟩]) (.block 0 (.loop (.seq (.seq (.reg [
    ⟨(some 16), .mov (.t 6), none⟩,
    ⟨(some 17), .mov (.t 0), none⟩,
    ⟨(some 18), .len 1 (.t 17), none⟩,
    ⟨(some 19), .bin .lss (.t 16) (.t 18), none⟩]) (.cond (.t 19) .skip (.exit 0))) (.seq (.block 1 (.seq (.reg [
    ⟨(some 22), .mov (.t 0), none⟩,
    ⟨(some 23), .mov (.t 6), none⟩,
    ⟨(some 24), .idx 2 (.t 22) (.t 23), none⟩,
    ⟨(some 25), .load true 2 (.t 24), none⟩,
    ⟨(some 7), .alloc [(.dat (.val (.string ⟨#[]⟩))), (.dat (.val (.int .i64 (0))))], none⟩,
    ⟨none, .store 2 (.t 7) (.t 25), none⟩]) (.seq (.reg [
    ⟨(some 26), .mov (.t 1), none⟩,
    ⟨(some 27), .load true 2 (.t 7), none⟩,
    ⟨(some 28), .call (.t 26) [(.t 27)], none⟩,
    ⟨(some 29), .un .not (.t 28), none⟩]) (.cond (.t 29) (.seq (.reg [
    ⟨(some 30), .mov (.t 0), none⟩,
    ⟨(some 31), .mov (.t 5), none⟩,
    ⟨(some 32), .load true 2 (.t 7), none⟩,
    ⟨(some 33), .idx 2 (.t 30) (.t 31), none⟩,
    ⟨none, .store 2 (.t 33) (.t 32), none⟩]) (.reg [
    ⟨(some 34), .mov (.t 5), none⟩,
    ⟨(some 35), .bin .add (.t 34) (.c (.rv (.one (.dat (.val (.int .i64 (1))))))), none⟩,
    ⟨(some 5), .mov (.t 35), none⟩])) .skip)))) (.reg [
    ⟨(some 20), .mov (.t 6), none⟩,
    ⟨(some 21), .bin .add (.t 20) (.c (.rv (.one (.dat (.val (.int .i64 (1))))))), none⟩,
    ⟨(some 6), .mov (.t 21), none⟩])))))) (.seq (.reg [
    ⟨(some 36), .mov (.t 0), none⟩,
    ⟨(some 37), .mov (.t 5), none⟩,
    ⟨(some 38), .slc 2 (.t 36) (some (.t 37)) none none, none⟩,
    ⟨none, .clr 2 [(.dat (.val (.string ⟨#[]⟩))), (.dat (.val (.int .i64 (0))))] (.t 38), none⟩]) (.seq (.reg [
    ⟨(some 39), .mov (.t 0), none⟩,
    ⟨(some 40), .mov (.t 5), none⟩,
    ⟨(some 41), .slc 2 (.t 39) none (some (.t 40)) none, none⟩,
    ⟨(some 4), .mov (.t 41), none⟩]) .ret))))))⟩
def c42 : LF := ⟨8, [.tmp 3], (.seq (.reg [
    ⟨(some 2), .box (.t 0), none⟩,
    ⟨(some 3), .mov (.c (.rv (.one (.dat (.val (.bool false)))))), none⟩]) (.seq (.reg [
    ⟨(some 4), .fadr 0 (.t 2), none⟩,
    ⟨(some 5), .load false 1 (.t 4), none⟩,
    ⟨(some 6), .load false 1 (.t 1), none⟩,
    ⟨(some 7), .bin .eql (.t 5) (.t 6), none⟩,
    ⟨(some 3), .mov (.t 7), none⟩]) .ret))⟩
def c46 : LF := ⟨19, [.tmp 4], (.seq (.reg [
    ⟨(some 4), .mov (.c (.rv (.one (.dat (.val (.int .i64 (0))))))), none⟩]) (.seq (.seq (.reg [
    ⟨(some 6), .mov (.t 0), none⟩,
    ⟨(some 7), .len 1 (.t 6), none⟩,
    ⟨(some 8), .mov (.c (.rv (.one (.dat (.val (.int .i64 (0))))))), none⟩]) (.block 0 (.loop (.seq (.reg [
    ⟨(some 9), .bin .lss (.t 8) (.t 7), none⟩]) (.seq (.cond (.t 9) .skip (.exit 0)) (.seq (.block 1 (.seq (.reg [
    ⟨(some 10), .mov (.t 8), none⟩,
    ⟨(some 5), .mov (.t 10), none⟩]) (.seq (.reg [
    ⟨(some 11), .mov (.t 1), none⟩,
    ⟨(some 12), .mov (.t 0), none⟩,
    ⟨(some 13), .mov (.t 5), none⟩,
    ⟨(some 14), .idx 2 (.t 12) (.t 13), none⟩,
    ⟨(some 15), .load true 2 (.t 14), none⟩,
    ⟨(some 16), .call (.t 11) [(.t 15)], none⟩]) (.cond (.t 16) (.seq (.reg [
    ⟨(some 17), .mov (.t 5), none⟩,
    ⟨(some 4), .mov (.t 17), none⟩]) .ret) .skip)))) (.reg [
    ⟨(some 18), .bin .add (.t 8) (.c (.rv (.one (.dat (.val (.int .i64 (1))))))), none⟩,
    ⟨(some 8), .mov (.t 18), none⟩]))))))) (.seq (.reg [
    ⟨(some 4), .mov (.c (.rv (.one (.dat (.val (.int .i64 (-1))))))), none⟩]) .ret)))⟩
/-! Remove of the closed fact; the closed fact -/
inductive CcsVu (σ : Nat → Nat) (m : Mem) (Z : Nat → Prop) : List CC → List CC → Prop
  | nil : CcsVu σ m Z [] []
  | cons {c c' : CC} {r r' : List CC} (h : VwC σ m Z none c c') (hr : CcsVu σ m Z r r') : CcsVu σ m Z (c :: r) (c' :: r')
theorem CcsVu.len {σ : Nat → Nat} {m : Mem} {Z : Nat → Prop} {cs cs' : List CC} (h : CcsVu σ m Z cs cs') : cs.length = cs'.length := by
  induction h <;> simp [*]
theorem CcsVu.get {σ : Nat → Nat} {m : Mem} {Z : Nat → Prop} {cs cs' : List CC} (h : CcsVu σ m Z cs cs') : ∀ (i : Nat) c c', cs[i]? = some c → cs'[i]? = some c' → VwC σ m Z none c c' := by
  induction h with
  | nil => intro i c c' h; simp at h
  | cons h hr ih =>
    intro i c c' h1 h2
    cases i with
    | zero => simp at h1 h2; subst h1 h2; exact h
    | succ i => exact ih i c c' (by simpa using h1) (by simpa using h2)
theorem CcsVu.agg {σ : Nat → Nat} {m : Mem} {Z : Nat → Prop} {cs cs' : List CC} (h : CcsVu σ m Z cs cs') : VwV σ m Z (.rv (.agg cs)) (.rv (.agg cs')) := .rv (.agg h.len h.get)
theorem l42 : lowF Try.prog Try.f42 = some c42 := by kernel_rfl
theorem l46 : lowF Try.prog Try.f46 = some c46 := by kernel_rfl
theorem l41 : lowF Try.prog Try.f41 = some c41 := by kernel_rfl
theorem l16 : lowF Try.prog Try.f16 = some c16.er := by kernel_rfl
theorem l9 : lowF Try.prog Try.f9 = some c9 := by kernel_rfl
theorem l24 : lowF Try.prog Try.f24 = some c24.er := by kernel_rfl
def sFc : List Dt := [.val (.string sF)]
set_option maxRecDepth 100000 in
theorem clo42_body : body Try.prog c42 [entC (sF, 1), .rv (.one (.ptr 0 0))] [.var (sFc.map .dat)] (fun r m => r = vBool true ∧ ∃ ex, m = .var (sFc.map .dat) :: ex) := by
  refine ⟨?_, _, rfl⟩
  show vBool (sF.toList == sF.toList) = vBool true
  simp
set_option maxRecDepth 100000 in
theorem clo42 (K : CV → Mem → Prop) (h : K (vBool true) [.var (sFc.map .dat)]) : ACall Try.prog 42 [entC (sF, 1), .rv (.one (.ptr 0 0))] [.var (sFc.map .dat)] K :=
  acall_trim rfl (acall_body Try.func42 l42 rfl (Nat.le_of_ble_eq_true rfl) clo42_body) h
set_option maxRecDepth 100000 in
theorem idx46_body : body Try.prog c46 [.rv (.one (.row 0 2 0 none)), .rv (.one (.fn 42 [1]))] [.row 2 (dRows [entW (sF, 1)]), .var (sFc.map .dat)] (fun r m => r = vInt .i64 0 ∧ m = [.row 2 (dRows [entW (sF, 1)]), .var (sFc.map .dat)]) := by
  refine loop_keep (fun k => k ≤ 0) [0, 1, 7] (fun k => [(8, vInt .i64 0)]) (fun _ => [.row 2 (dRows [entW (sF, 1)]), .var (sFc.map .dat)]) (fun k => 0) 0 (Nat.zero_le _) ?_ (fun k hk => ?_)
  · refine View.of 2 [0, 1] [] rfl rfl rfl rfl rfl rfl ?_ ?_
    · repeat (first | exact .nil | refine .junk ?_ | refine .eq rfl ?_)
    · exact .put (notF rfl) rfl (.rowDE rfl) (.put (notF rfl) rfl (.varDE rfl) (.nil _))
  refine acall_look (args0 := [entC (sF, 1), .rv (.one (.ptr 0 0))]) (cs := sFc) 1 rfl rfl (r0 := vBool true) rfl (fun K hK => clo42 K hK) ?_
  exact ⟨rfl, rfl⟩
set_option maxRecDepth 100000 in
theorem del_body2 : body Try.prog c41 [.rv (.one (.row 0 2 0 none)), .rv (.one (.fn 42 [1]))] [.row 2 (dRows [entW (sF, 1)]), .var (sFc.map .dat)]
    (fun r m => r = .rv (.one (.row 0 2 0 (some 0))) ∧ m = [.row 2 [[.dat (.val (.string ⟨#[]⟩)), .dat (.val (.int .i64 0))]], .var (sFc.map .dat)]) := by
  refine (acall_body Try.func46 l46 rfl (Nat.le_of_ble_eq_true rfl) idx46_body).mono fun r m ⟨hr, hm⟩ => ?_
  subst hr hm
  refine loop_keep (fun k => k ≤ 0) [0] (fun k => [(5, vInt .i64 0), (6, vInt .i64 1)]) (fun _ => [.row 2 (dRows [entW (sF, 1)]), .var (sFc.map .dat)]) (fun k => 0) 0 (Nat.zero_le _) ?_ (fun k hk => ?_)
  · refine View.of 2 [0, 1] [] rfl rfl rfl rfl rfl rfl ?_ ?_
    · repeat (first | exact .nil | refine .junk ?_ | refine .eq rfl ?_)
    · exact .put (notF rfl) rfl (.rowDE rfl) (.put (notF rfl) rfl (.varDE rfl) (.nil _))
  exact ⟨rfl, rfl⟩
set_option maxRecDepth 100000 in
theorem del_ok2 {m : Mem} {K : CV → Mem → Prop} (a b : Nat) (hab : nodupN [a, b] = true) (hlt : allLt m.length [a, b] = true) (ha : nth m a = some (.row 2 (dRows [entW (sF, 1)]))) (hb : nth m b = some (.var (sFc.map .dat)))
    (h : K (.rv (.one (.row a 2 0 (some 0)))) (weave m [a, b] [.row 2 [[.dat (.val (.string ⟨#[]⟩)), .dat (.val (.int .i64 0))]], .var (sFc.map .dat)])) : ACall Try.prog 41 [.rv (.one (.row a 2 0 none)), .rv (.one (.fn 42 [b]))] m K := by
  refine acall_borrow [a, b] m.length rfl rfl hab hlt (args0 := [.rv (.one (.row 0 2 0 none)), .rv (.one (.fn 42 [1]))]) rfl (m0 := [.row 2 (dRows [entW (sF, 1)]), .var (sFc.map .dat)]) (fun i b' hi => ?_) (acall_body Try.func41 l41 rfl (Nat.le_of_ble_eq_true rfl) del_body2) (fun r1 m1 hr => ?_)
  · match i, hi with
    | 0, hi => cases hi; exact .inr ⟨fun h => h, _, by rw [nth_eq] at ha; exact ha, .rowDE rfl⟩
    | 1, hi => cases hi; exact .inr ⟨fun h => h, _, by rw [nth_eq] at hb; exact hb, .varDE rfl⟩
    | n + 2, hi => simp at hi
  · obtain ⟨rfl, rfl⟩ := hr
    exact ⟨by simp, h⟩
def G88 : LC := unW (sndW (sndW (sndW (sndW (sndW (sndW (sndW (sndW (sndW c16.code)))))))))
theorem findB : findW [rootB, fileB] [(sF, 1)] 0 sF = 1 := by decide +kernel
theorem findA : findW [rootA, fileA] [] 0 sF = -1 := by decide +kernel
set_option maxRecDepth 100000 in
set_option maxHeartbeats 8000000 in
theorem removeB_body : body Try.prog c16 [objsV [rootB, fileB], vInt .i64 0, vStr sF] [] (fun r m => r = .tup [objsR [rootA, fileA], iRV 1, iRV 0]) := by
  refine sfind_ok [rootB, fileB] 0 (by simp) rfl [(sF, 1)] rfl (by simp) sF ?_
  rw [findB]
  refine ownE_ok [rootB, fileB] fitB 0 ?_
  refine del_ok2 2 0 rfl rfl rfl rfl ?_
  have hfin : aw Try.prog 0 G88 (endK Try.prog c16.res (fun r m => r = .tup [objsR [rootA, fileA], iRV 1, iRV 0])) ⟨mkE 90 [(9, vInt .i64 1), (10, objsV [rootA, fileA])], []⟩ := rfl
  refine ⟨_, View.of 3 [] [1, 2] rfl rfl rfl rfl rfl rfl ?_ (.nil _), hfin⟩
  iterate 9 refine .junk ?_
  refine .eq rfl ?_
  refine .put (.rv (.one (.frz (p := none) ?_))) ?_
  · refine RowsFz.frz (Z := fun k => memN [1, 2] k = true) (ds := [rootA.enc, fileA.enc]) ?_ rfl rfl
    refine .cons ?_ (.cons ?_ .nil)
    · exact .cons (.dat _) (.cons (.dat _) (.cons (FrzD.row 2 2 0 (some 0) [[.dat (.val (.string ⟨#[]⟩)), .dat (.val (.int .i64 0))]] [[.val (.string ⟨#[]⟩), .val (.int .i64 0)]] rfl rfl rfl (fun i cs es h1 h2 => by
        match i, h1, h2 with
        | 0, h1, h2 => cases h1; cases h2; rfl
        | n + 1, h1, h2 => simp at h1) (fun i cs es j c d h1 h2 h3 h4 => by
        match i, h1, h2 with
        | 0, h1, h2 =>
          cases h1; cases h2
          match j, h3, h4 with
          | 0, h3, h4 => cases h3; cases h4; exact .dat _
          | 1, h3, h4 => cases h3; cases h4; exact .dat _
          | n + 2, h3, h4 => simp at h3
        | n + 1, h1, h2 => simp at h1)) (.cons (.dat _) (.cons (.dat _) (.cons (.dat _) (.cons (.dat _) (.cons (.dat _) (.cons (.dat _) .nil))))))))
    · exact .cons (.dat _) (.cons (.dat _) (.cons (.dat _) (.cons (.dat _) (.cons (.dat _) (.cons (.dat _) (.cons (.dat _) (.cons (.dat _) (.cons (.dat _) .nil))))))))
  repeat (first | exact .nil | refine .junk ?_)
set_option maxRecDepth 100000 in
theorem removeB_ok {m : Mem} {K : CV → Mem → Prop} (h : K (.tup [objsR [rootA, fileA], iRV 1, iRV 0]) m) : ACall Try.prog 16 [objsV [rootB, fileB], vInt .i64 0, vStr sF] m K := by
  refine acall_frame (K0 := fun r _ => r = .tup [objsR [rootA, fileA], iRV 1, iRV 0]) (acall_body_g Try.func16 l16 rfl (Nat.le_of_ble_eq_true rfl) removeB_body) (by simp [objsV, vInt, vStr, CV.isD, CC.isD, RV.isD]) fun r m1 hr => ?_
  subst hr
  exact ⟨_, FrzV.self rfl, h⟩
theorem rootFz {m : Mem} {Z : Nat → Prop} {p : Option Nat} : CcsFz m Z p [.dat (.val (.int .i64 2)), .esl, .esl, .dat (.val (.string ⟨#[]⟩)), .dat (.val (.int .i64 (-1))), .esl, .dat (.val (.int .i64 (-1))), .dat (.val (.int .i64 1)), .dat (.val (.int .i64 0))] rootA.enc :=
  .cons (.dat _) (.cons (.esl 1) (.cons (.esl 2) (.cons (.dat _) (.cons (.dat _) (.cons (.esl 4) (.cons (.dat _) (.cons (.dat _) (.cons (.dat _) .nil))))))))
set_option maxRecDepth 100000 in
theorem snew_body : body Try.prog c9 [] [] (fun r m => ∃ r' m', View 0 ⟨[r], m⟩ ⟨[r'], m'⟩ ∧ r' = objsV [rootA] ∧ m' = []) :=
  ⟨_, [], View.of 1 [] [0] rfl rfl rfl rfl rfl rfl (.put (.rv (.one (.frz (RowsFz.frz (Z := fun k => memN [0] k = true) (.cons rootFz .nil) rfl rfl)))) .nil) (.nil _), rfl, rfl⟩
set_option maxRecDepth 100000 in
theorem snew_ok {m : Mem} {K : CV → Mem → Prop} (h : K (objsV [rootA]) m) : ACall Try.prog 9 [] m K := by
  refine acall_frame (K0 := fun r m => r = objsV [rootA] ∧ m = []) (acall_view (acall_body Try.func9 l9 rfl (Nat.le_of_ble_eq_true rfl) snew_body) fun r m1 h => h) (by simp) fun r m1 hr => ?_
  obtain ⟨rfl, rfl⟩ := hr
  exact ⟨_, FrzV.self rfl, h⟩
theorem mkA : makeS [rootA] fileA = ([rootA, fileA], 1, 0) := rfl
theorem readB : readS fileB.kind fileB.data 1 9 = ([[.val (.int .u8 98)]], 0) := rfl
def fileC : Obj := ⟨1, [[.val (.int .u8 97)], [.val (.int .u8 98)], [.val (.int .u8 0)], [.val (.int .u8 122)]], [], ⟨#[]⟩, -1, [], -1, 1, 0⟩
theorem writeB : writeS fileB 3 [[.val (.int .u8 122)]] = (fileC, 0) := rfl
theorem strB : ((strOfNums [98]).toList == (ByteArray.mk #[98]).toList) = true := by decide +kernel
theorem fitO : fileB.fit := fitB.2 _ (by simp)
def G74 : LC := unW (sndW (sndW (sndW (sndW (sndW (sndW (sndW c24.code)))))))
set_option maxRecDepth 100000 in
set_option maxHeartbeats 8000000 in
theorem seg74 (X : List (List Dt)) (s : ByteArray) (hn : ∃ xs, numsC (X.map fun ds => ds.map CC.dat) = some xs ∧ strOfNums xs = s) (c : ByteArray) (hc : c = ByteArray.mk #[98]) (hx : (s.toList == c.toList) = true) : aw Try.prog 0 G74 (endK Try.prog c24.res (fun r m => r = vBool true))
    ⟨mkE 109 [(4, objsV [rootB, fileB]), (6, objsV [rootA, fileA]), (9, slV 1 X), (10, vInt .i64 0), (11, .rv (.one (.ptr 0 0))), (12, vInt .i64 0)], [.var (fileC.enc.map .dat)]⟩ := by
  obtain ⟨xs, hn, hs⟩ := hn
  refine ok_some hn ?_
  refine bB_yes (t := ((strOfNums xs).toList == (ByteArray.mk #[98]).toList)) (by rw [hs, ← hc]; exact hx) ?_
  refine sfind_ok [rootB, fileB] 0 (by simp) rfl [(sF, 1)] rfl (by simp) sF ?_
  rw [findB]
  refine sfind_ok [rootA, fileA] 0 (by simp) rfl [] rfl (by simp) sF ?_
  rw [findA]
  refine names_ok rootB [(sF, 1)] rfl (by simp) ?_
  exact rfl
set_option maxRecDepth 100000 in
set_option maxHeartbeats 8000000 in
theorem alive5_body : body Try.prog c24 [] [] (fun r m => r = vBool true) := by
  refine snew_ok ?_
  refine acall_pre (args' := [objsV [rootA], fileA.cv]) (m' := [.dead]) (View.of 1 [0] [0] rfl rfl rfl rfl rfl rfl (.eq rfl (.put (CcsVu.agg (.cons (.ren (.dat _)) (.cons (.frz (FrzD.rowD (Z := fun k => memN [0] k = true) (ds := fileA.data) rfl rfl 0 none)) (.cons (.frz (.esl 2)) (.cons (.ren (.dat _)) (.cons (.ren (.dat _)) (.cons (.frz (.esl 4)) (.cons (.ren (.dat _)) (.cons (.ren (.dat _)) (.cons (.ren (.dat _)) .nil)))))))))) .nil)) (.dead (.nil _))) ?_
  refine make_ok [rootA] ⟨by simp, fun o ho => fitA.2 o (by simp at ho; simp [ho])⟩ fileA ?_
  rw [mkA]
  refine enterA_ok ?_
  refine removeB_ok ?_
  refine read_ok fileB fitO.1 1 9 (by omega) (by omega) ?_
  rw [readB]
  refine acall_pre (args' := [fileB.cv, vInt .i64 3, slV 1 [[.val (.int .u8 122)]]]) (m' := [.dead, .dead]) (View.of 2 [0, 1] [1] rfl rfl rfl rfl rfl rfl (.eq rfl (.eq rfl (.put (.rv (.one (.frz (FrzD.rowD (Z := fun k => memN [1] k = true) (ds := [[.val (.int .u8 122)]]) rfl rfl 0 none)))) .nil))) (.dead (.dead (.nil _)))) ?_
  refine write_ok fileB fitO 3 [[.val (.int .u8 122)]] (by simp) ?_
  rw [writeB]
  have hfin := seg74 [[.val (.int .u8 98)]] (strOfNums [98]) ⟨[98], rfl, rfl⟩ (ByteArray.mk #[98]) rfl strB
  refine ⟨_, View.of 3 [2] [] rfl rfl rfl rfl rfl rfl ?_ ?_, hfin⟩
  · repeat (first | exact .nil | refine .junk ?_ | refine .eq rfl ?_)
  · exact .put (notF rfl) rfl (.eq rfl (by simp)) (.nil _)
set_option maxRecDepth 100000 in
theorem alive5_ok {m : Mem} {K : CV → Mem → Prop} (h : K (vBool true) m) : ACall Try.prog 24 [] m K :=
  acall_val_g Try.func24 l24 rfl (Nat.le_of_ble_eq_true rfl) alive5_body rfl rfl h

/-! the place that the search finds is that of the document's Enter -/
theorem cmp_lt {a b : ByteArray} : cmpB a b < 0 ↔ ltN a b := by
  unfold cmpB ltN
  by_cases h : ltB a b = true
  · rw [if_pos h]
    exact ⟨fun _ => h, fun _ => by omega⟩
  · rw [if_neg h]
    refine ⟨fun h2 => ?_, fun h2 => absurd h2 h⟩
    split at h2 <;> omega
theorem cmp_zero {a b : ByteArray} : cmpB a b = 0 ↔ a.toList = b.toList := by
  unfold cmpB
  by_cases h : ltB a b = true
  · rw [if_pos h]
    refine ⟨fun h2 => by omega, fun h2 => ?_⟩
    rw [ltB, h2, bl_irr] at h
    cases h
  · rw [if_neg h]
    rw [Bool.not_eq_true] at h
    by_cases h2 : gtB a b = true
    · rw [if_pos h2]
      refine ⟨fun h3 => by omega, fun h3 => ?_⟩
      unfold gtB at h2
      rw [h3] at h2
      simp at h2
    · rw [if_neg h2]
      refine ⟨fun _ => ?_, fun _ => rfl⟩
      unfold gtB at h2
      unfold ltB at h
      rw [h] at h2
      simpa using h2
/-- the place behind all that are less -/
theorem bsL_spec {es : List NE} (hs : Srt es) (s : ByteArray) : ∀ (n i j : Nat), j - i ≤ n → i ≤ j → j ≤ es.length → (∀ (k : Nat) e, k < i → es[k]? = some e → ltN e.1 s) → (∀ (k : Nat) e, j ≤ k → es[k]? = some e → ¬ ltN e.1 s) →
    bsL es s n i j ≤ es.length ∧ (∀ (k : Nat) e, k < bsL es s n i j → es[k]? = some e → ltN e.1 s) ∧ ∀ (k : Nat) e, bsL es s n i j ≤ k → es[k]? = some e → ¬ ltN e.1 s
  | 0, i, j, hn, hij, hj, h1, h2 => by
    have : i = j := by omega
    subst this
    exact ⟨hj, h1, h2⟩
  | n + 1, i, j, hn, hij, hj, h1, h2 => by
    rw [bsL]
    by_cases hlt : i < j
    · rw [if_pos hlt]
      have hh : (i + j) / 2 < es.length := by omega
      rw [List.getElem?_eq_getElem hh]
      simp only []
      have hp := List.pairwise_iff_getElem.1 hs
      by_cases hc : cmpB es[(i + j) / 2].1 s < 0
      · rw [if_pos hc]
        refine bsL_spec hs s n _ _ (by omega) (by omega) hj (fun k e hk he => ?_) h2
        have hcl := cmp_lt.1 hc
        obtain ⟨hkl, rfl⟩ := List.getElem?_eq_some_iff.1 he
        rcases Nat.lt_or_ge k ((i + j) / 2) with h3 | h3
        · exact bl_trans (hp k _ hkl hh h3) hcl
        · have : k = (i + j) / 2 := by omega
          subst this
          exact hcl
      · rw [if_neg hc]
        refine bsL_spec hs s n _ _ (by omega) (by omega) (by omega) h1 fun k e hk he hl => ?_
        have hcl : ¬ ltN es[(i + j) / 2].1 s := fun h => hc (cmp_lt.2 h)
        obtain ⟨hkl, rfl⟩ := List.getElem?_eq_some_iff.1 he
        rcases Nat.lt_or_ge ((i + j) / 2) k with h3 | h3
        · exact hcl (bl_trans (hp _ k hh hkl h3) hl)
        · have : k = (i + j) / 2 := by omega
          subst this
          exact hcl hl
    · rw [if_neg hlt]
      have : i = j := by omega
      subst this
      exact ⟨hj, h1, h2⟩
theorem bs_find {es : List NE} (hs : Srt es) (s : ByteArray) : FindOK es s (if bsB es s = true then (match es[bsI es s]? with | some e => e.2 | none => 0) else -1) := by
  obtain ⟨h0, h1, h2⟩ := bsL_spec hs s es.length 0 es.length (by omega) (by omega) (by omega) (fun k e hk => absurd hk (Nat.not_lt_zero k)) (fun k e hk he => by have := (List.getElem?_eq_some_iff.1 he).1; omega)
  have hI : bsL es s es.length 0 es.length = bsI es s := rfl
  rw [hI] at h0 h1 h2
  unfold bsB
  cases he : es[bsI es s]? with
  | none =>
    simp only []
    rw [if_neg (by simp)]
    refine .inr ⟨rfl, fun e hm heq => ?_⟩
    obtain ⟨k, hk⟩ := List.getElem?_of_mem hm
    have hkl := (List.getElem?_eq_some_iff.1 hk).1
    have : es.length ≤ bsI es s := List.getElem?_eq_none_iff.1 he
    have := h1 k e (by omega) hk
    rw [ltN, heq, bl_irr] at this
    cases this
  | some e =>
    simp only []
    by_cases hc : cmpB e.1 s = 0
    · rw [if_pos (by rw [hc]; rfl)]
      exact .inl ⟨e, List.mem_of_getElem? he, cmp_zero.1 hc, rfl⟩
    · rw [if_neg (by simpa using hc)]
      refine .inr ⟨rfl, fun e' hm heq => ?_⟩
      obtain ⟨k, hk⟩ := List.getElem?_of_mem hm
      obtain ⟨hkl, hke⟩ := List.getElem?_eq_some_iff.1 hk
      obtain ⟨hel, hee⟩ := List.getElem?_eq_some_iff.1 he
      rcases Nat.lt_trichotomy k (bsI es s) with h3 | h3 | h3
      · have := h1 k e' h3 hk
        rw [ltN, heq, bl_irr] at this
        cases this
      · subst h3
        rw [he] at hk
        cases hk
        exact hc (cmp_zero.2 heq)
      · have hp := List.pairwise_iff_getElem.1 hs _ k hel hkl h3
        rw [hee, hke] at hp
        have hnl := h2 _ e (Nat.le_refl _) he
        apply hnl
        rw [ltN, ← heq]
        exact hp
theorem bs_ins {es : List NE} (hs : Srt es) {s : ByteArray} (hf : bsB es s = false) (n : Int) : insS (s, n) es = es.take (bsI es s) ++ (s, n) :: es.drop (bsI es s) := by
  obtain ⟨h0, h1, h2⟩ := bsL_spec hs s es.length 0 es.length (by omega) (by omega) (by omega) (fun k e hk => absurd hk (Nat.not_lt_zero k)) (fun k e hk he => by have := (List.getElem?_eq_some_iff.1 he).1; omega)
  have hI : bsL es s es.length 0 es.length = bsI es s := rfl
  rw [hI] at h0 h1 h2
  have e1 : ∀ e, e ∈ es.take (bsI es s) → gtN e.1 s = false := fun e he => by
    obtain ⟨k, hk⟩ := List.getElem?_of_mem he
    have hkl := (List.getElem?_eq_some_iff.1 hk).1
    rw [List.length_take] at hkl
    rw [List.getElem?_take, if_pos (by omega)] at hk
    have h3 := h1 k e (by omega) hk
    unfold gtN
    unfold ltN at h3
    rw [h3]
    rfl
  have := insS_app (x := (s, n)) (a := es.take (bsI es s)) (b := es.drop (bsI es s)) e1
  rw [List.take_append_drop] at this
  rw [this]
  congr 1
  cases hd : es.drop (bsI es s) with
  | nil => rfl
  | cons e r =>
    have hget : es[bsI es s]? = some e := by
      have : (es.drop (bsI es s))[0]? = some e := by rw [hd]; rfl
      rw [List.getElem?_drop] at this
      simpa using this
    refine insS_hd ?_
    have h3 := h2 (bsI es s) e (Nat.le_refl _) hget
    unfold bsB at hf
    rw [hget] at hf
    have hne : ¬ cmpB e.1 s = 0 := by simpa using hf
    have hne : e.1.toList ≠ s.toList := fun h => hne (cmp_zero.2 h)
    show gtN e.1 s = true
    unfold gtN
    unfold ltN at h3
    have h3 : Op.bytesLess e.1.toList s.toList = false := by simpa using h3
    rw [h3]
    simp [hne]
theorem find_uniq {es : List NE} (hs : Srt es) (s : ByteArray) : (if bsB es s = true then (match es[bsI es s]? with | some e => e.2 | none => 0) else -1) = findS es s := findOK_uniq hs (bs_find hs s) (findS_OK es s)


end Go.Proofs.Ytmekobkcgajcjaa
