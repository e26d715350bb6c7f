import Derived.Test.YtecmaolfellofaaAmZ2
import Derived.Test.YtecmaolfellofaaDvGb
import Derived.Test.YtecmaolfellofaaAmY
set_option linter.unusedVariables false
set_option linter.unusedSimpArgs false
namespace Go.Proofs.Ytecmaolfellofaa
open Go.AM Go.ChangeShapes Go.WideShapes Go.ChangeAt Go.RowKit
def c14 : LF := ⟨128, [.tmp 8, .tmp 9], (.seq (.reg [
    ⟨(some 8), .mov (.c (.rv (.one .esl))), none⟩,
    ⟨(some 9), .mov (.c (.rv (.one (.dat (.val (.int .i64 (0))))))), none⟩]) (.seq (.block 0 (.seq (.reg [
    ⟨(some 14), .mov (.t 1), none⟩,
    ⟨(some 15), .bin .lss (.t 14) (.c (.rv (.one (.dat (.val (.int .i64 (0))))))), none⟩,
    ⟨(some 16), .mov (.t 15), none⟩,
    ⟨(some 17), .mov (.t 1), (some (16, false))⟩,
    ⟨(some 18), .mov (.t 0), (some (16, false))⟩,
    ⟨(some 19), .len 1 (.t 18), (some (16, false))⟩,
    ⟨(some 20), .bin .geq (.t 17) (.t 19), (some (16, false))⟩,
    ⟨(some 21), .pick (.t 16) (.c (.rv (.one (.dat (.val (.bool true)))))) (.t 20), none⟩,
    ⟨(some 22), .mov (.t 21), none⟩,
    ⟨(some 23), .mov (.t 0), (some (22, false))⟩,
    ⟨(some 24), .mov (.t 1), (some (22, false))⟩,
    ⟨(some 25), .idx 9 (.t 23) (.t 24), (some (22, false))⟩,
    ⟨(some 26), .fadr 0 (.t 25), (some (22, false))⟩,
    ⟨(some 27), .load false 1 (.t 26), (some (22, false))⟩,
    ⟨(some 28), .bin .eql (.t 27) (.c (.rv (.one (.dat (.val (.int .i64 (0))))))), (some (22, false))⟩,
    ⟨(some 29), .pick (.t 22) (.c (.rv (.one (.dat (.val (.bool true)))))) (.t 28), none⟩,
    ⟨(some 30), .mov (.t 29), none⟩,
    ⟨(some 31), .mov (.t 3), (some (30, false))⟩,
    ⟨(some 32), .bin .lss (.t 31) (.c (.rv (.one (.dat (.val (.int .i64 (0))))))), (some (30, false))⟩,
    ⟨(some 33), .pick (.t 30) (.c (.rv (.one (.dat (.val (.bool true)))))) (.t 32), none⟩,
    ⟨(some 34), .mov (.t 33), none⟩,
    ⟨(some 35), .mov (.t 3), (some (34, false))⟩,
    ⟨(some 36), .mov (.t 0), (some (34, false))⟩,
    ⟨(some 37), .len 1 (.t 36), (some (34, false))⟩,
    ⟨(some 38), .bin .geq (.t 35) (.t 37), (some (34, false))⟩,
    ⟨(some 39), .pick (.t 34) (.c (.rv (.one (.dat (.val (.bool true)))))) (.t 38), none⟩,
    ⟨(some 40), .mov (.t 39), none⟩,
    ⟨(some 41), .mov (.t 0), (some (40, false))⟩,
    ⟨(some 42), .mov (.t 3), (some (40, false))⟩,
    ⟨(some 43), .idx 9 (.t 41) (.t 42), (some (40, false))⟩,
    ⟨(some 44), .fadr 0 (.t 43), (some (40, false))⟩,
    ⟨(some 45), .load false 1 (.t 44), (some (40, false))⟩,
    ⟨(some 46), .bin .eql (.t 45) (.c (.rv (.one (.dat (.val (.int .i64 (0))))))), (some (40, false))⟩,
    ⟨(some 47), .pick (.t 40) (.c (.rv (.one (.dat (.val (.bool true)))))) (.t 46), none⟩,
    ⟨(some 13), .mov (.t 47), none⟩]) (.cond (.t 13) (.seq (.reg [
    ⟨(some 8), .mov (.c (.rv (.one .esl))), none⟩,
    ⟨(some 9), .mov (.c (.rv (.one (.dat (.val (.int .i64 (6))))))), none⟩]) .ret) (.seq (.reg [
    ⟨(some 49), .mov (.t 0), none⟩,
    ⟨(some 50), .mov (.t 1), none⟩,
    ⟨(some 51), .idx 9 (.t 49) (.t 50), none⟩,
    ⟨(some 52), .fadr 0 (.t 51), none⟩,
    ⟨(some 53), .load false 1 (.t 52), none⟩,
    ⟨(some 54), .bin .neq (.t 53) (.c (.rv (.one (.dat (.val (.int .i64 (2))))))), none⟩,
    ⟨(some 48), .mov (.t 54), none⟩]) (.cond (.t 48) (.seq (.reg [
    ⟨(some 8), .mov (.c (.rv (.one .esl))), none⟩,
    ⟨(some 9), .mov (.c (.rv (.one (.dat (.val (.int .i64 (11))))))), none⟩]) .ret) (.seq (.reg [
    ⟨(some 56), .mov (.t 0), none⟩,
    ⟨(some 57), .mov (.t 1), none⟩,
    ⟨(some 58), .idx 9 (.t 56) (.t 57), none⟩,
    ⟨(some 59), .fadr 7 (.t 58), none⟩,
    ⟨(some 60), .load false 1 (.t 59), none⟩,
    ⟨(some 61), .bin .eql (.t 60) (.c (.rv (.one (.dat (.val (.int .i64 (0))))))), none⟩,
    ⟨(some 55), .mov (.t 61), none⟩]) (.cond (.t 55) (.seq (.reg [
    ⟨(some 8), .mov (.c (.rv (.one .esl))), none⟩,
    ⟨(some 9), .mov (.c (.rv (.one (.dat (.val (.int .i64 (6))))))), none⟩]) .ret) (.seq (.reg [
    ⟨(some 63), .mov (.t 2), none⟩,
    ⟨(some 64), .call (.c (.rv (.one (.fn 37 [])))) [(.t 63)], none⟩,
    ⟨(some 65), .un .not (.t 64), none⟩,
    ⟨(some 66), .mov (.t 65), none⟩,
    ⟨(some 67), .mov (.t 0), (some (66, false))⟩,
    ⟨(some 68), .mov (.t 1), (some (66, false))⟩,
    ⟨(some 69), .mov (.t 2), (some (66, false))⟩,
    ⟨(some 70), .call (.c (.rv (.one (.fn 10 [])))) [(.t 67), (.t 68), (.t 69)], (some (66, false))⟩,
    ⟨(some 71), .bin .geq (.t 70) (.c (.rv (.one (.dat (.val (.int .i64 (0))))))), (some (66, false))⟩,
    ⟨(some 72), .pick (.t 66) (.c (.rv (.one (.dat (.val (.bool true)))))) (.t 71), none⟩,
    ⟨(some 62), .mov (.t 72), none⟩]) (.cond (.t 62) (.seq (.reg [
    ⟨(some 8), .mov (.c (.rv (.one .esl))), none⟩,
    ⟨(some 9), .mov (.c (.rv (.one (.dat (.val (.int .i64 (7))))))), none⟩]) .ret) (.seq (.reg [
    ⟨(some 74), .mov (.t 0), none⟩,
    ⟨(some 75), .mov (.t 1), none⟩,
    ⟨(some 76), .idx 9 (.t 74) (.t 75), none⟩,
    ⟨(some 77), .fadr 2 (.t 76), none⟩,
    ⟨(some 78), .load false 1 (.t 77), none⟩,
    ⟨(some 79), .len 1 (.t 78), none⟩,
    ⟨(some 80), .bin .geq (.t 79) (.c (.rv (.one (.dat (.val (.int .i64 (8))))))), none⟩,
    ⟨(some 73), .mov (.t 80), none⟩]) (.cond (.t 73) (.seq (.reg [
    ⟨(some 8), .mov (.c (.rv (.one .esl))), none⟩,
    ⟨(some 9), .mov (.c (.rv (.one (.dat (.val (.int .i64 (15))))))), none⟩]) .ret) .skip))))))))))) (.seq (.reg [
    ⟨(some 81), .mov (.t 0), none⟩,
    ⟨(some 82), .call (.c (.rv (.one (.fn 8 [])))) [(.t 81)], none⟩,
    ⟨(some 10), .mov (.t 82), none⟩]) (.seq (.reg [
    ⟨(some 84), .mov (.t 10), none⟩,
    ⟨(some 85), .mov (.t 1), none⟩,
    ⟨(some 86), .idx 9 (.t 84) (.t 85), none⟩,
    ⟨(some 87), .fadr 2 (.t 86), none⟩,
    ⟨(some 88), .load false 1 (.t 87), none⟩,
    ⟨(some 89), .mov (.t 2), none⟩,
    ⟨(some 90), .call (.c (.rv (.one (.fn 31 [])))) [(.t 88), (.t 89), (.c (.rv (.one (.fn 38 []))))], none⟩,
    ⟨(some 83), .mov (.t 90), none⟩,
    ⟨(some 91), .ext (.t 83) 0, none⟩,
    ⟨(some 92), .ext (.t 83) 1, none⟩,
    ⟨(some 11), .mov (.t 91), none⟩,
    ⟨(some 12), .mov (.t 92), none⟩]) (.seq (.reg [
    ⟨(some 93), .mov (.t 10), none⟩,
    ⟨(some 94), .mov (.t 1), none⟩,
    ⟨(some 95), .mov (.t 10), none⟩,
    ⟨(some 96), .mov (.t 1), none⟩,
    ⟨(some 97), .idx 9 (.t 95) (.t 96), none⟩,
    ⟨(some 98), .fadr 2 (.t 97), none⟩,
    ⟨(some 99), .load false 1 (.t 98), none⟩,
    ⟨(some 100), .mov (.t 11), none⟩,
    ⟨(some 101), .mov (.t 2), none⟩,
    ⟨(some 102), .mov (.t 3), none⟩,
    ⟨(some 103), .build [(.dat (.val (.string ⟨#[]⟩))), (.dat (.val (.int .i64 (0))))] [(0, 1, (.t 101)), (1, 1, (.t 102))], none⟩,
    ⟨(some 104), .bsl 2 [(.dat (.val (.string ⟨#[]⟩))), (.dat (.val (.int .i64 (0))))] 1 [(0, (.t 103))], none⟩,
    ⟨(some 105), .call (.c (.rv (.one (.fn 39 [])))) [(.t 99), (.t 100), (.t 104)], none⟩,
    ⟨(some 106), .idx 9 (.t 93) (.t 94), none⟩,
    ⟨(some 107), .fadr 2 (.t 106), none⟩,
    ⟨none, .store 1 (.t 107) (.t 105), none⟩]) (.seq (.reg [
    ⟨(some 108), .mov (.t 10), none⟩,
    ⟨(some 109), .mov (.t 3), none⟩,
    ⟨(some 110), .idx 9 (.t 108) (.t 109), none⟩,
    ⟨(some 111), .fadr 7 (.t 110), none⟩,
    ⟨(some 112), .load false 1 (.t 111), none⟩,
    ⟨(some 113), .bin .add (.t 112) (.c (.rv (.one (.dat (.val (.int .i64 (1))))))), none⟩,
    ⟨(some 114), .idx 9 (.t 108) (.t 109), none⟩,
    ⟨(some 115), .fadr 7 (.t 114), none⟩,
    ⟨none, .store 1 (.t 115) (.t 113), none⟩]) (.seq (.seq (.reg [
    ⟨(some 116), .mov (.t 10), none⟩,
    ⟨(some 117), .mov (.t 3), none⟩,
    ⟨(some 118), .idx 9 (.t 116) (.t 117), none⟩,
    ⟨(some 119), .fadr 0 (.t 118), none⟩,
    ⟨(some 120), .load false 1 (.t 119), none⟩,
    ⟨(some 121), .bin .eql (.t 120) (.c (.rv (.one (.dat (.val (.int .i64 (2))))))), none⟩]) (.cond (.t 121) (.reg [
    ⟨(some 122), .mov (.t 10), none⟩,
    ⟨(some 123), .mov (.t 3), none⟩,
    ⟨(some 124), .mov (.t 1), none⟩,
    ⟨(some 125), .idx 9 (.t 122) (.t 123), none⟩,
    ⟨(some 126), .fadr 8 (.t 125), none⟩,
    ⟨none, .store 1 (.t 126) (.t 124), none⟩]) .skip)) (.ghost (.seq (.reg [
    ⟨(some 127), .mov (.t 10), none⟩,
    ⟨(some 8), .mov (.t 127), none⟩,
    ⟨(some 9), .mov (.c (.rv (.one (.dat (.val (.int .i64 (0))))))), none⟩]) .ret)))))))))⟩
def c22 : LF := ⟨20, [.tmp 2], (.seq (.reg [
    ⟨(some 1), .box (.t 0), none⟩,
    ⟨(some 2), .mov (.c (.rv (.one .esl))), none⟩]) (.seq (.reg [
    ⟨(some 3), .mov (.c (.rv (.one .esl))), none⟩]) (.seq (.seq (.reg [
    ⟨(some 6), .fadr 2 (.t 1), none⟩,
    ⟨(some 7), .load false 1 (.t 6), none⟩,
    ⟨(some 8), .len 1 (.t 7), none⟩,
    ⟨(some 9), .mov (.c (.rv (.one (.dat (.val (.int .i64 (0))))))), none⟩]) (.block 0 (.loop (.seq (.reg [
    ⟨(some 10), .bin .lss (.t 9) (.t 8), none⟩]) (.seq (.cond (.t 10) .skip (.exit 0)) (.seq (.block 1 (.seq (.reg [
    ⟨(some 11), .idx 2 (.t 7) (.t 9), none⟩,
    ⟨(some 12), .load true 2 (.t 11), none⟩,
    ⟨(some 5), .alloc [(.dat (.val (.string ⟨#[]⟩))), (.dat (.val (.int .i64 (0))))], none⟩,
    ⟨none, .store 2 (.t 5) (.t 12), none⟩]) (.reg [
    ⟨(some 13), .mov (.t 3), none⟩,
    ⟨(some 14), .fadr 0 (.t 5), none⟩,
    ⟨(some 15), .load false 1 (.t 14), none⟩,
    ⟨(some 16), .bsl 1 [(.dat (.val (.string ⟨#[]⟩)))] 1 [(0, (.t 15))], none⟩,
    ⟨(some 17), .app 1 16 (.t 13) (.t 16), none⟩,
    ⟨(some 3), .mov (.t 17), none⟩]))) (.reg [
    ⟨(some 18), .bin .add (.t 9) (.c (.rv (.one (.dat (.val (.int .i64 (1))))))), none⟩,
    ⟨(some 9), .mov (.t 18), none⟩]))))))) (.seq (.reg [
    ⟨(some 19), .mov (.t 3), none⟩,
    ⟨(some 2), .mov (.t 19), none⟩]) .ret))))⟩
def c37 : LF := ⟨52, [.tmp 2], (.seq (.reg [
    ⟨(some 2), .mov (.c (.rv (.one (.dat (.val (.bool false)))))), none⟩]) (.seq (.seq (.reg [
    ⟨(some 5), .mov (.t 0), none⟩,
    ⟨(some 6), .len 0 (.t 5), none⟩,
    ⟨(some 7), .bin .lss (.t 6) (.c (.rv (.one (.dat (.val (.int .i64 (1))))))), none⟩,
    ⟨(some 8), .mov (.t 7), none⟩,
    ⟨(some 9), .mov (.t 0), (some (8, false))⟩,
    ⟨(some 10), .len 0 (.t 9), (some (8, false))⟩,
    ⟨(some 11), .bin .gtr (.t 10) (.c (.rv (.one (.dat (.val (.int .i64 (12))))))), (some (8, false))⟩,
    ⟨(some 12), .pick (.t 8) (.c (.rv (.one (.dat (.val (.bool true)))))) (.t 11), none⟩,
    ⟨(some 13), .mov (.t 12), none⟩,
    ⟨(some 14), .mov (.t 0), (some (13, false))⟩,
    ⟨(some 15), .bin .eql (.t 14) (.c (.rv (.one (.dat (.val (.string ⟨#[46]⟩)))))), (some (13, false))⟩,
    ⟨(some 16), .pick (.t 13) (.c (.rv (.one (.dat (.val (.bool true)))))) (.t 15), none⟩,
    ⟨(some 17), .mov (.t 16), none⟩,
    ⟨(some 18), .mov (.t 0), (some (17, false))⟩,
    ⟨(some 19), .bin .eql (.t 18) (.c (.rv (.one (.dat (.val (.string ⟨#[46, 46]⟩)))))), (some (17, false))⟩,
    ⟨(some 20), .pick (.t 17) (.c (.rv (.one (.dat (.val (.bool true)))))) (.t 19), none⟩]) (.cond (.t 20) (.seq (.reg [
    ⟨(some 2), .mov (.c (.rv (.one (.dat (.val (.bool false)))))), none⟩]) .ret) .skip)) (.seq (.seq (.reg [
    ⟨(some 21), .mov (.t 0), none⟩,
    ⟨(some 22), .len 0 (.t 21), none⟩,
    ⟨(some 23), .mov (.c (.rv (.one (.dat (.val (.int .i64 (0))))))), none⟩]) (.block 0 (.loop (.seq (.reg [
    ⟨(some 24), .bin .lss (.t 23) (.t 22), none⟩]) (.seq (.cond (.t 24) .skip (.exit 0)) (.seq (.block 1 (.seq (.reg [
    ⟨(some 25), .mov (.t 23), none⟩,
    ⟨(some 3), .mov (.t 25), none⟩]) (.seq (.reg [
    ⟨(some 26), .mov (.t 0), none⟩,
    ⟨(some 27), .mov (.t 3), none⟩,
    ⟨(some 28), .sidx (.t 26) (.t 27), none⟩,
    ⟨(some 4), .mov (.t 28), none⟩]) (.seq (.reg [
    ⟨(some 29), .mov (.t 4), none⟩,
    ⟨(some 30), .bin .lss (.t 29) (.c (.rv (.one (.dat (.val (.int .u8 (97))))))), none⟩,
    ⟨(some 31), .mov (.t 30), none⟩,
    ⟨(some 32), .mov (.t 4), (some (31, false))⟩,
    ⟨(some 33), .bin .gtr (.t 32) (.c (.rv (.one (.dat (.val (.int .u8 (122))))))), (some (31, false))⟩,
    ⟨(some 34), .pick (.t 31) (.c (.rv (.one (.dat (.val (.bool true)))))) (.t 33), none⟩,
    ⟨(some 35), .mov (.t 34), none⟩,
    ⟨(some 36), .mov (.t 4), (some (35, true))⟩,
    ⟨(some 37), .bin .lss (.t 36) (.c (.rv (.one (.dat (.val (.int .u8 (48))))))), (some (35, true))⟩,
    ⟨(some 38), .mov (.t 37), (some (35, true))⟩,
    ⟨(some 39), .mov (.t 4), (some (38, false))⟩,
    ⟨(some 40), .bin .gtr (.t 39) (.c (.rv (.one (.dat (.val (.int .u8 (57))))))), (some (38, false))⟩,
    ⟨(some 41), .pick (.t 38) (.c (.rv (.one (.dat (.val (.bool true)))))) (.t 40), (some (35, true))⟩,
    ⟨(some 42), .pick (.t 35) (.t 41) (.c (.rv (.one (.dat (.val (.bool false)))))), none⟩,
    ⟨(some 43), .mov (.t 42), none⟩,
    ⟨(some 44), .mov (.t 4), (some (43, true))⟩,
    ⟨(some 45), .bin .neq (.t 44) (.c (.rv (.one (.dat (.val (.int .u8 (46))))))), (some (43, true))⟩,
    ⟨(some 46), .pick (.t 43) (.t 45) (.c (.rv (.one (.dat (.val (.bool false)))))), none⟩,
    ⟨(some 47), .mov (.t 46), none⟩,
    ⟨(some 48), .mov (.t 4), (some (47, true))⟩,
    ⟨(some 49), .bin .neq (.t 48) (.c (.rv (.one (.dat (.val (.int .u8 (95))))))), (some (47, true))⟩,
    ⟨(some 50), .pick (.t 47) (.t 49) (.c (.rv (.one (.dat (.val (.bool false)))))), none⟩]) (.cond (.t 50) (.seq (.reg [
    ⟨(some 2), .mov (.c (.rv (.one (.dat (.val (.bool false)))))), none⟩]) .ret) .skip))))) (.reg [
    ⟨(some 51), .bin .add (.t 23) (.c (.rv (.one (.dat (.val (.int .i64 (1))))))), none⟩,
    ⟨(some 23), .mov (.t 51), none⟩]))))))) (.seq (.reg [
    ⟨(some 2), .mov (.c (.rv (.one (.dat (.val (.bool true)))))), none⟩]) .ret))))⟩
def c39 : LF := ⟨95, [.tmp 6], (.seq (.reg [
    ⟨(some 6), .mov (.c (.rv (.one .esl))), none⟩]) (.seq (.reg [
    ⟨(some 10), .mov (.t 0), none⟩,
    ⟨(some 11), .mov (.t 1), none⟩,
    ⟨(some 12), .slc 2 (.t 10) (some (.t 11)) none none, none⟩]) (.seq (.reg [
    ⟨(some 13), .mov (.t 2), none⟩,
    ⟨(some 14), .len 1 (.t 13), none⟩,
    ⟨(some 7), .mov (.t 14), none⟩]) (.seq (.seq (.reg [
    ⟨(some 15), .mov (.t 7), none⟩,
    ⟨(some 16), .bin .eql (.t 15) (.c (.rv (.one (.dat (.val (.int .i64 (0))))))), none⟩]) (.cond (.t 16) (.seq (.reg [
    ⟨(some 17), .mov (.t 0), none⟩,
    ⟨(some 6), .mov (.t 17), none⟩]) .ret) .skip)) (.seq (.reg [
    ⟨(some 18), .mov (.t 0), none⟩,
    ⟨(some 19), .len 1 (.t 18), none⟩,
    ⟨(some 8), .mov (.t 19), none⟩]) (.seq (.seq (.reg [
    ⟨(some 20), .mov (.t 1), none⟩,
    ⟨(some 21), .mov (.t 8), none⟩,
    ⟨(some 22), .bin .eql (.t 20) (.t 21), none⟩]) (.cond (.t 22) (.seq (.reg [
    ⟨(some 23), .mov (.t 0), none⟩,
    ⟨(some 24), .mov (.t 2), none⟩,
    ⟨(some 25), .app 2 24 (.t 23) (.t 24), none⟩,
    ⟨(some 6), .mov (.t 25), none⟩]) .ret) .skip)) (.seq (.seq (.reg [
    ⟨(some 26), .mov (.t 8), none⟩,
    ⟨(some 27), .mov (.t 7), none⟩,
    ⟨(some 28), .bin .add (.t 26) (.t 27), none⟩,
    ⟨(some 29), .mov (.t 0), none⟩,
    ⟨(some 30), .minmax true [], none⟩,
    ⟨(some 31), .bin .gtr (.t 28) (.t 30), none⟩]) (.cond (.t 31) (.seq (.reg [
    ⟨(some 32), .mov (.t 0), none⟩,
    ⟨(some 33), .mov (.t 1), none⟩,
    ⟨(some 34), .slc 2 (.t 32) none (some (.t 33)) none, none⟩,
    ⟨(some 35), .mov (.t 8), none⟩,
    ⟨(some 36), .mov (.t 7), none⟩,
    ⟨(some 37), .bin .add (.t 35) (.t 36), none⟩,
    ⟨(some 38), .mov (.t 1), none⟩,
    ⟨(some 39), .bin .sub (.t 37) (.t 38), none⟩,
    ⟨(some 40), .minmax true [], none⟩,
    ⟨(some 9), .mov (.t 40), none⟩]) (.seq (.reg [
    ⟨(some 41), .mov (.t 9), none⟩,
    ⟨(some 42), .mov (.t 1), none⟩,
    ⟨(some 43), .slc 2 (.t 41) (some (.t 42)) none none, none⟩,
    ⟨(some 44), .mov (.t 2), none⟩,
    ⟨(some 45), .copy 2 (.t 43) (.t 44), none⟩]) (.seq (.draw [
    ⟨(some 46), .mov (.t 9), none⟩,
    ⟨(some 47), .mov (.t 1), none⟩,
    ⟨(some 48), .mov (.t 7), none⟩,
    ⟨(some 49), .bin .add (.t 47) (.t 48), none⟩,
    ⟨(some 50), .slc 2 (.t 46) (some (.t 49)) none none, none⟩,
    ⟨(some 51), .mov (.t 0), none⟩,
    ⟨(some 52), .mov (.t 1), none⟩,
    ⟨(some 53), .slc 2 (.t 51) (some (.t 52)) none none, none⟩,
    ⟨(some 54), .copy 2 (.t 50) (.t 53), none⟩]
    [(.cons 0 none (.cons 1 none (.cons 2 none (.cons 3 none (.cons 4 none (.cons 5 none (.cons 6 none (.cons 7 none (.cons 8 (some []) .nil)))))))))]) (.seq (.reg [
    ⟨(some 55), .mov (.t 9), none⟩,
    ⟨(some 6), .mov (.t 55), none⟩]) .ret)))) .skip)) (.seq (.reg [
    ⟨(some 56), .mov (.t 0), none⟩,
    ⟨(some 57), .mov (.t 8), none⟩,
    ⟨(some 58), .mov (.t 7), none⟩,
    ⟨(some 59), .bin .add (.t 57) (.t 58), none⟩,
    ⟨(some 60), .slc 2 (.t 56) none (some (.t 59)) none, none⟩,
    ⟨(some 0), .mov (.t 60), none⟩]) (.seq (.seq (.reg [
    ⟨(some 61), .mov (.t 2), none⟩,
    ⟨(some 62), .mov (.t 0), none⟩,
    ⟨(some 63), .mov (.t 1), none⟩,
    ⟨(some 64), .mov (.t 7), none⟩,
    ⟨(some 65), .bin .add (.t 63) (.t 64), none⟩,
    ⟨(some 66), .slc 2 (.t 62) (some (.t 65)) none none, none⟩,
    ⟨(some 67), .call (.c (.rv (.one (.fn 44 [])))) [(.t 61), (.t 66)], none⟩,
    ⟨(some 68), .un .not (.t 67), none⟩]) (.cond (.t 68) (.seq (.draw [
    ⟨(some 69), .mov (.t 0), none⟩,
    ⟨(some 70), .mov (.t 1), none⟩,
    ⟨(some 71), .mov (.t 7), none⟩,
    ⟨(some 72), .bin .add (.t 70) (.t 71), none⟩,
    ⟨(some 73), .slc 2 (.t 69) (some (.t 72)) none none, none⟩,
    ⟨(some 74), .mov (.t 0), none⟩,
    ⟨(some 75), .mov (.t 1), none⟩,
    ⟨(some 76), .slc 2 (.t 74) (some (.t 75)) none none, none⟩,
    ⟨(some 77), .copy 2 (.t 73) (.t 76), none⟩]
    [(.cons 0 none (.cons 1 none (.cons 2 none (.cons 3 none (.cons 4 none (.cons 5 none (.cons 6 none (.cons 7 none (.cons 8 (some []) .nil)))))))))]) (.seq (.reg [
    ⟨(some 78), .mov (.t 0), none⟩,
    ⟨(some 79), .mov (.t 1), none⟩,
    ⟨(some 80), .slc 2 (.t 78) (some (.t 79)) none none, none⟩,
    ⟨(some 81), .mov (.t 2), none⟩,
    ⟨(some 82), .copy 2 (.t 80) (.t 81), none⟩]) (.seq (.reg [
    ⟨(some 83), .mov (.t 0), none⟩,
    ⟨(some 6), .mov (.t 83), none⟩]) .ret))) .skip)) (.seq (.reg [
    ⟨(some 84), .mov (.t 0), none⟩,
    ⟨(some 85), .mov (.t 8), none⟩,
    ⟨(some 86), .slc 2 (.t 84) (some (.t 85)) none none, none⟩,
    ⟨(some 87), .mov (.t 2), none⟩,
    ⟨(some 88), .copy 2 (.t 86) (.t 87), none⟩]) (.seq (.reg [
    ⟨(some 89), .mov (.t 0), none⟩,
    ⟨(some 90), .mov (.t 1), none⟩,
    ⟨(some 91), .slc 2 (.t 89) (some (.t 90)) none none, none⟩,
    ⟨(some 92), .mov (.t 7), none⟩,
    ⟨(some 93), .call (.c (.rv (.one (.fn 45 [])))) [(.t 91), (.t 92)], none⟩]) (.seq (.reg [
    ⟨(some 94), .mov (.t 0), none⟩,
    ⟨(some 6), .mov (.t 94), none⟩]) .ret))))))))))))⟩
/-! store.Names; Name of one letter; Insert at the end; Enter, Remove of the closed fact -/
theorem l22 : lowF Try.prog Try.f22 = some c22 := by kernel_rfl
theorem l37 : lowF Try.prog Try.f37 = some c37 := by kernel_rfl
theorem l39 : lowF Try.prog Try.f39 = some c39 := by kernel_rfl
theorem l14 : lowF Try.prog Try.f14 = some c14.er := by kernel_rfl
def nmW (e : ByteArray × Int) : List Dt := [.val (.string e.1)]
set_option maxRecDepth 100000 in
set_option maxHeartbeats 8000000 in
theorem names_body (o : Obj) (es : List (ByteArray × Int)) (he : o.entries = es.map entW) (hl : es.length ≤ 4194304) : body Try.prog c22 [o.cv] [] (fun r m => FrzV m r (slV 1 (es.map nmW))) := by
  obtain ⟨kind, data, entries, target, peer, queue, proc, links, up⟩ := o
  have he : entries = es.map entW := he
  subst he
  refine loop_keep (fun k => k ≤ es.length) [7, 8] (fun k => [(9, vInt .i64 (k : Nat)), (3, .rv (.one (.row 0 1 0 none)))]) (fun k => [.row 1 (dRows ((es.take k).map nmW))]) (fun k => es.length - k) 0 (Nat.zero_le _) ?_ (fun k hk => ?_)
  · refine View.trans (View.esl 3 1 1 rfl rfl rfl) (View.of 2 [1] [] rfl rfl rfl rfl rfl rfl ?_ ?_)
    · repeat (first | exact .nil | refine .junk ?_ | refine .eq rfl ?_)
    · exact .put (notF rfl) rfl (.rowDE rfl) (.nil _)
  have hk : k ≤ es.length := hk
  refine bB_dec (fun h => ?_) (fun h => ?_)
  · have hlt : k < es.length := by
      have h : (k : Int) < ((es.map entW).length : Int) := h
      rw [List.length_map] at h
      omega
    refine ok_some (ent_getW hlt) ?_
    refine ⟨by simp [subL, dRows]; omega, ?_⟩
    refine ⟨k + 1, hlt, (show es.length - (k + 1) < es.length - k by omega), View.of 4 [3] [] rfl rfl rfl rfl rfl rfl ?_ ?_⟩
    · repeat (first | exact .nil | refine .junk ?_ | refine .put (.ren (next_i64 (by omega)).symm) ?_ | refine .eq rfl ?_)
    · refine .put (notF rfl) rfl (.rowDE ?_) (.nil _)
      rw [takeO (List.getElem?_eq_getElem hlt), List.map_append, dRows_append]
      rfl
  · have hke : k = es.length := by
      have h : ¬ (k : Int) < ((es.map entW).length : Int) := h
      rw [List.length_map] at h
      omega
    subst hke
    rw [List.take_length]
    exact .rv (.one (FrzC.rowD rfl 0 none))
set_option maxRecDepth 100000 in
theorem names_ok (o : Obj) (es : List (ByteArray × Int)) (he : o.entries = es.map entW) (hl : es.length ≤ 4194304) {m : Mem} {K : CV → Mem → Prop} (h : K (slV 1 (es.map nmW)) m) : ACall Try.prog 22 [o.cv] m K :=
  acall_frame (acall_body Try.func22 l22 rfl (Nat.le_of_ble_eq_true rfl) (names_body o es he hl)) (by simp [Obj.cv, Obj.enc, CV.isD, CC.isD, RV.isD]) fun r m1 hf => ⟨_, hf, h⟩
def sF : ByteArray := ⟨#[102]⟩
set_option maxRecDepth 100000 in
theorem pname_body : body Try.prog c37 [vStr sF] [] (fun r m => r = vBool true) := by
  refine bB_no (t := (sF.toList == (ByteArray.mk #[46]).toList)) (by decide +kernel) ?_
  refine bB_no (t := (sF.toList == (ByteArray.mk #[46, 46]).toList)) (by decide +kernel) ?_
  refine loop_keep (fun k => k ≤ 1) [0, 22] (fun k => [(23, vInt .i64 (k : Nat))]) (fun _ => []) (fun k => 1 - k) 0 (Nat.zero_le _) ?_ (fun k hk => ?_)
  · refine View.of 0 [] [] rfl rfl rfl rfl rfl rfl ?_ (.nil _)
    repeat (first | exact .nil | refine .junk ?_ | refine .eq rfl ?_)
  have hk : k ≤ 1 := hk
  match k, hk with
  | 0, _ =>
    refine ⟨1, Nat.le_refl 1, (show 1 - 1 < 1 - 0 by omega), View.of 0 [] [] rfl rfl rfl rfl rfl rfl ?_ (.nil _)⟩
    repeat (first | exact .nil | refine .junk ?_ | refine .eq rfl ?_)
  | 1, _ => exact rfl
set_option maxRecDepth 100000 in
theorem pname_f {m : Mem} {K : CV → Mem → Prop} (h : K (vBool true) m) : ACall Try.prog 37 [vStr sF] m K :=
  acall_val Try.func37 l37 rfl (Nat.le_of_ble_eq_true rfl) pname_body rfl rfl h
set_option maxRecDepth 100000 in
set_option maxHeartbeats 8000000 in
theorem ins_body (S : List (List Dt)) (e : List Dt) (hl : S.length ≤ 4194304) : body Try.prog c39 [.rv (.one (.row 0 2 0 none)), vInt .i64 (S.length : Nat), .rv (.one (.row 1 2 0 none))] [.row 2 (dRows S), .row 2 (dRows [e])]
    (fun r m => r = .rv (.one (.row 2 2 0 none)) ∧ m = [.dead, .dead, .row 2 (dRows (S ++ [e]))]) := by
  have hlen : lenOf (dRows S).length 0 none = S.length := dRows_length S
  refine bB_yes (by show (Nat.ble S.length (lenOf (dRows S).length 0 none) && Nat.ble (lenOf (dRows S).length 0 none) ((dRows S).length - 0)) = true; rw [hlen, dRows_length]; simp [Nat.ble_eq]) ?_
  refine bB_beq (fun h => ?_) (fun h => ?_)
  · refine ⟨by simp [subL, dRows]; omega, rfl, ?_⟩
    show [Bk.dead, .dead, .row 2 (subL (dRows S) 0 none ++ subL (dRows [e]) 0 none)] = _
    simp [subL, dRows]
  · exfalso
    apply h
    show ((S.length : Nat) : Int) = ((lenOf (dRows S).length 0 none : Nat) : Int)
    rw [hlen]
set_option maxRecDepth 100000 in
/-- Insert of one, at the end, into a block -/
theorem ins_ok (S : List (List Dt)) (e : List Dt) (hl : S.length ≤ 4194304) {m : Mem} {K : CV → Mem → Prop} (a b : Nat) (hab : nodupN [a, b] = true) (hlt : allLt m.length [a, b] = true) (ha : nth m a = some (.row 2 (dRows S))) (hb : nth m b = some (.row 2 (dRows [e])))
    (h : K (.rv (.one (.row m.length 2 0 none))) (weave m [a, b] [.dead, .dead, .row 2 (dRows (S ++ [e]))])) : ACall Try.prog 39 [.rv (.one (.row a 2 0 none)), vInt .i64 (S.length : Nat), .rv (.one (.row b 2 0 none))] m K := by
  refine acall_borrow [a, b] m.length rfl rfl hab hlt (args0 := [.rv (.one (.row 0 2 0 none)), vInt .i64 (S.length : Nat), .rv (.one (.row 1 2 0 none))]) rfl (m0 := [.row 2 (dRows S), .row 2 (dRows [e])]) (fun i b' hi => ?_) (acall_body Try.func39 l39 rfl (Nat.le_of_ble_eq_true rfl) (ins_body S e hl)) (fun r1 m1 hr => ?_)
  · match i, hi with
    | 0, hi => cases hi; exact .inr ⟨fun h => h, _, by rw [nth_eq] at ha; exact ha, .rowDE rfl⟩
    | 1, hi => cases hi; exact .inr ⟨fun h => h, _, by rw [nth_eq] at hb; exact hb, .rowDE rfl⟩
    | n + 2, hi => simp at hi
  · obtain ⟨rfl, rfl⟩ := hr
    refine ⟨by simp, ?_⟩
    show K (.rv (.one (.row (m.length + (2 - 2)) 2 0 none))) (weave m [a, b] [.dead, .dead, .row 2 ((dRows (S ++ [e])).map (fun cs => cs.map (CC.ren (sg [a, b] m.length))))])
    rw [dRows_ren1]
    exact h
/-! Enter of the closed fact -/
def rootA : Obj := ⟨2, [], [], ⟨#[]⟩, -1, [], -1, 1, 0⟩
def fileA : Obj := ⟨1, [[.val (.int .u8 97)], [.val (.int .u8 98)]], [], ⟨#[]⟩, -1, [], -1, 0, 0⟩
def rootB : Obj := ⟨2, [], [entW (sF, 1)], ⟨#[]⟩, -1, [], -1, 1, 0⟩
def fileB : Obj := ⟨1, [[.val (.int .u8 97)], [.val (.int .u8 98)]], [], ⟨#[]⟩, -1, [], -1, 1, 0⟩
theorem fitA : fitL [rootA, fileA] := ⟨by simp, fun o ho => by
  simp at ho
  rcases ho with rfl | rfl <;> exact ⟨by simp [rootA, fileA], by simp [rootA, fileA], by simp [rootA, fileA], fun q hq => by simp [rootA, fileA] at hq⟩⟩
theorem fitB : fitL [rootB, fileB] := ⟨by simp, fun o ho => by
  simp at ho
  rcases ho with rfl | rfl <;> exact ⟨by simp [rootB, fileB], by simp [rootB, fileB], by simp [rootB, fileB], fun q hq => by simp [rootB, fileB] at hq⟩⟩
def G127 : LC := unW (sndW (sndW (sndW (sndW (sndW (sndW (sndW c14.code)))))))
set_option maxRecDepth 100000 in
set_option maxHeartbeats 8000000 in
theorem enterA_body : body Try.prog c14 [objsV [rootA, fileA], vInt .i64 0, vStr sF, vInt .i64 1] [] (fun r m => r = .tup [objsR [rootB, fileB], iRV 0]) := by
  refine pname_f ?_
  refine sfind_ok [rootA, fileA] 0 (by simp) rfl [] rfl (by simp) sF ?_
  refine ownE_ok [rootA, fileA] fitA 0 ?_
  refine bs_row [] (by simp) sF 38 (fun e m K h => clo38 e sF h) (id := 1) rfl ?_
  refine ins_ok [] (entW (sF, 1)) (by simp) 1 2 rfl rfl rfl rfl ?_
  have hfin : aw Try.prog 0 G127 (endK Try.prog c14.res (fun r m => r = .tup [objsR [rootB, fileB], iRV 0])) ⟨mkE 128 [(10, objsV [rootB, fileB])], []⟩ := rfl
  refine ⟨_, View.of 4 [] [0, 3] rfl rfl rfl rfl rfl rfl ?_ (.nil _), hfin⟩
  iterate 10 refine .junk ?_
  refine .put (.rv (.one (.frz (p := none) ?_))) ?_
  · refine RowsFz.frz (Z := fun k => memN [0, 3] k = true) (ds := [rootB.enc, fileB.enc]) ?_ rfl rfl
    refine .cons ?_ (.cons ?_ .nil)
    · exact .cons (.dat _) (.cons (.dat _) (.cons (FrzD.rowD (Z := fun k => memN [0, 3] k = true) rfl rfl 0 none) (.cons (.dat _) (.cons (.dat _) (.cons (.dat _) (.cons (.dat _) (.cons (.dat _) (.cons (.dat _) .nil))))))))
    · exact .cons (.dat _) (.cons (.dat _) (.cons (.dat _) (.cons (.dat _) (.cons (.dat _) (.cons (.dat _) (.cons (.dat _) (.cons (.dat _) (.cons (.dat _) .nil))))))))
  repeat (first | exact .nil | refine .junk ?_)
set_option maxRecDepth 100000 in
theorem enterA_ok {m : Mem} {K : CV → Mem → Prop} (h : K (.tup [objsR [rootB, fileB], iRV 0]) m) : ACall Try.prog 14 [objsV [rootA, fileA], vInt .i64 0, vStr sF, vInt .i64 1] m K := by
  refine acall_frame (K0 := fun r _ => r = .tup [objsR [rootB, fileB], iRV 0]) (acall_body_g Try.func14 l14 rfl (Nat.le_of_ble_eq_true rfl) enterA_body) (by simp [objsV, vInt, vStr, CV.isD, CC.isD, RV.isD]) fun r m1 hr => ?_
  subst hr
  exact ⟨_, FrzV.self rfl, h⟩

def c9 : LF := ⟨3, [.tmp 0], (.seq (.reg [
    ⟨(some 0), .mov (.c (.rv (.one .esl))), none⟩]) (.seq (.reg [
    ⟨(some 1), .build [(.dat (.val (.int .i64 (0)))), .esl, .esl, (.dat (.val (.string ⟨#[]⟩))), (.dat (.val (.int .i64 (0)))), .esl, (.dat (.val (.int .i64 (0)))), (.dat (.val (.int .i64 (0)))), (.dat (.val (.int .i64 (0))))] [(0, 1, (.c (.rv (.one (.dat (.val (.int .i64 (2)))))))), (7, 1, (.c (.rv (.one (.dat (.val (.int .i64 (1)))))))), (4, 1, (.c (.rv (.one (.dat (.val (.int .i64 (-1)))))))), (6, 1, (.c (.rv (.one (.dat (.val (.int .i64 (-1))))))))], none⟩,
    ⟨(some 2), .bsl 9 [(.dat (.val (.int .i64 (0)))), .esl, .esl, (.dat (.val (.string ⟨#[]⟩))), (.dat (.val (.int .i64 (0)))), .esl, (.dat (.val (.int .i64 (0)))), (.dat (.val (.int .i64 (0)))), (.dat (.val (.int .i64 (0))))] 1 [(0, (.t 1))], none⟩,
    ⟨(some 0), .mov (.t 2), none⟩]) .ret))⟩
def c16 : LF := ⟨90, [.tmp 6, .tmp 7, .tmp 8], (.seq (.reg [
    ⟨(some 5), .box (.t 2), none⟩,
    ⟨(some 6), .mov (.c (.rv (.one .esl))), none⟩,
    ⟨(some 7), .mov (.c (.rv (.one (.dat (.val (.int .i64 (0))))))), none⟩,
    ⟨(some 8), .mov (.c (.rv (.one (.dat (.val (.int .i64 (0))))))), none⟩]) (.seq (.seq (.reg [
    ⟨(some 11), .mov (.t 1), none⟩,
    ⟨(some 12), .bin .lss (.t 11) (.c (.rv (.one (.dat (.val (.int .i64 (0))))))), none⟩,
    ⟨(some 13), .mov (.t 12), none⟩,
    ⟨(some 14), .mov (.t 1), (some (13, false))⟩,
    ⟨(some 15), .mov (.t 0), (some (13, false))⟩,
    ⟨(some 16), .len 1 (.t 15), (some (13, false))⟩,
    ⟨(some 17), .bin .geq (.t 14) (.t 16), (some (13, false))⟩,
    ⟨(some 18), .pick (.t 13) (.c (.rv (.one (.dat (.val (.bool true)))))) (.t 17), none⟩,
    ⟨(some 19), .mov (.t 18), none⟩,
    ⟨(some 20), .mov (.t 0), (some (19, false))⟩,
    ⟨(some 21), .mov (.t 1), (some (19, false))⟩,
    ⟨(some 22), .idx 9 (.t 20) (.t 21), (some (19, false))⟩,
    ⟨(some 23), .fadr 0 (.t 22), (some (19, false))⟩,
    ⟨(some 24), .load false 1 (.t 23), (some (19, false))⟩,
    ⟨(some 25), .bin .eql (.t 24) (.c (.rv (.one (.dat (.val (.int .i64 (0))))))), (some (19, false))⟩,
    ⟨(some 26), .pick (.t 19) (.c (.rv (.one (.dat (.val (.bool true)))))) (.t 25), none⟩]) (.cond (.t 26) (.seq (.reg [
    ⟨(some 6), .mov (.c (.rv (.one .esl))), none⟩,
    ⟨(some 7), .mov (.c (.rv (.one (.dat (.val (.int .i64 (0))))))), none⟩,
    ⟨(some 8), .mov (.c (.rv (.one (.dat (.val (.int .i64 (6))))))), none⟩]) .ret) .skip)) (.seq (.seq (.reg [
    ⟨(some 27), .mov (.t 0), none⟩,
    ⟨(some 28), .mov (.t 1), none⟩,
    ⟨(some 29), .idx 9 (.t 27) (.t 28), none⟩,
    ⟨(some 30), .fadr 0 (.t 29), none⟩,
    ⟨(some 31), .load false 1 (.t 30), none⟩,
    ⟨(some 32), .bin .neq (.t 31) (.c (.rv (.one (.dat (.val (.int .i64 (2))))))), none⟩]) (.cond (.t 32) (.seq (.reg [
    ⟨(some 6), .mov (.c (.rv (.one .esl))), none⟩,
    ⟨(some 7), .mov (.c (.rv (.one (.dat (.val (.int .i64 (0))))))), none⟩,
    ⟨(some 8), .mov (.c (.rv (.one (.dat (.val (.int .i64 (11))))))), none⟩]) .ret) .skip)) (.seq (.reg [
    ⟨(some 33), .mov (.t 0), none⟩,
    ⟨(some 34), .mov (.t 1), none⟩,
    ⟨(some 35), .load false 1 (.t 5), none⟩,
    ⟨(some 36), .call (.c (.rv (.one (.fn 10 [])))) [(.t 33), (.t 34), (.t 35)], none⟩,
    ⟨(some 9), .mov (.t 36), none⟩]) (.seq (.block 0 (.seq (.reg [
    ⟨(some 38), .mov (.t 9), none⟩,
    ⟨(some 39), .bin .lss (.t 38) (.c (.rv (.one (.dat (.val (.int .i64 (0))))))), none⟩,
    ⟨(some 37), .mov (.t 39), none⟩]) (.cond (.t 37) (.seq (.reg [
    ⟨(some 6), .mov (.c (.rv (.one .esl))), none⟩,
    ⟨(some 7), .mov (.c (.rv (.one (.dat (.val (.int .i64 (0))))))), none⟩,
    ⟨(some 8), .mov (.c (.rv (.one (.dat (.val (.int .i64 (6))))))), none⟩]) .ret) (.seq (.reg [
    ⟨(some 41), .mov (.t 0), none⟩,
    ⟨(some 42), .mov (.t 9), none⟩,
    ⟨(some 43), .idx 9 (.t 41) (.t 42), none⟩,
    ⟨(some 44), .fadr 0 (.t 43), none⟩,
    ⟨(some 45), .load false 1 (.t 44), none⟩,
    ⟨(some 46), .bin .eql (.t 45) (.c (.rv (.one (.dat (.val (.int .i64 (2))))))), none⟩,
    ⟨(some 47), .mov (.t 46), none⟩,
    ⟨(some 48), .mov (.t 0), (some (47, true))⟩,
    ⟨(some 49), .mov (.t 9), (some (47, true))⟩,
    ⟨(some 50), .idx 9 (.t 48) (.t 49), (some (47, true))⟩,
    ⟨(some 51), .fadr 2 (.t 50), (some (47, true))⟩,
    ⟨(some 52), .load false 1 (.t 51), (some (47, true))⟩,
    ⟨(some 53), .len 1 (.t 52), (some (47, true))⟩,
    ⟨(some 54), .bin .gtr (.t 53) (.c (.rv (.one (.dat (.val (.int .i64 (0))))))), (some (47, true))⟩,
    ⟨(some 55), .pick (.t 47) (.t 54) (.c (.rv (.one (.dat (.val (.bool false)))))), none⟩,
    ⟨(some 40), .mov (.t 55), none⟩]) (.cond (.t 40) (.seq (.reg [
    ⟨(some 6), .mov (.c (.rv (.one .esl))), none⟩,
    ⟨(some 7), .mov (.c (.rv (.one (.dat (.val (.int .i64 (0))))))), none⟩,
    ⟨(some 8), .mov (.c (.rv (.one (.dat (.val (.int .i64 (18))))))), none⟩]) .ret) .skip))))) (.seq (.reg [
    ⟨(some 56), .mov (.t 0), none⟩,
    ⟨(some 57), .call (.c (.rv (.one (.fn 8 [])))) [(.t 56)], none⟩,
    ⟨(some 10), .mov (.t 57), none⟩]) (.seq (.reg [
    ⟨(some 58), .mov (.t 10), none⟩,
    ⟨(some 59), .mov (.t 1), none⟩,
    ⟨(some 60), .mov (.t 10), none⟩,
    ⟨(some 61), .mov (.t 1), none⟩,
    ⟨(some 62), .idx 9 (.t 60) (.t 61), none⟩,
    ⟨(some 63), .fadr 2 (.t 62), none⟩,
    ⟨(some 64), .load false 1 (.t 63), none⟩,
    ⟨(some 65), .fn 42 [(.t 5)], none⟩,
    ⟨(some 66), .call (.c (.rv (.one (.fn 41 [])))) [(.t 64), (.t 65)], none⟩,
    ⟨(some 67), .idx 9 (.t 58) (.t 59), none⟩,
    ⟨(some 68), .fadr 2 (.t 67), none⟩,
    ⟨none, .store 1 (.t 68) (.t 66), none⟩]) (.seq (.reg [
    ⟨(some 69), .mov (.t 10), none⟩,
    ⟨(some 70), .mov (.t 9), none⟩,
    ⟨(some 71), .idx 9 (.t 69) (.t 70), none⟩,
    ⟨(some 72), .fadr 7 (.t 71), none⟩,
    ⟨(some 73), .load false 1 (.t 72), none⟩,
    ⟨(some 74), .bin .sub (.t 73) (.c (.rv (.one (.dat (.val (.int .i64 (1))))))), none⟩,
    ⟨(some 75), .idx 9 (.t 69) (.t 70), none⟩,
    ⟨(some 76), .fadr 7 (.t 75), none⟩,
    ⟨none, .store 1 (.t 76) (.t 74), none⟩]) (.seq (.seq (.reg [
    ⟨(some 77), .mov (.t 10), none⟩,
    ⟨(some 78), .mov (.t 9), none⟩,
    ⟨(some 79), .idx 9 (.t 77) (.t 78), none⟩,
    ⟨(some 80), .fadr 0 (.t 79), none⟩,
    ⟨(some 81), .load false 1 (.t 80), none⟩,
    ⟨(some 82), .bin .eql (.t 81) (.c (.rv (.one (.dat (.val (.int .i64 (2))))))), none⟩]) (.cond (.t 82) (.reg [
    ⟨(some 83), .mov (.t 10), none⟩,
    ⟨(some 84), .mov (.t 9), none⟩,
    ⟨(some 85), .mov (.t 9), none⟩,
    ⟨(some 86), .idx 9 (.t 83) (.t 84), none⟩,
    ⟨(some 87), .fadr 8 (.t 86), none⟩,
    ⟨none, .store 1 (.t 87) (.t 85), none⟩]) .skip)) (.ghost (.seq (.reg [
    ⟨(some 88), .mov (.t 10), none⟩,
    ⟨(some 89), .mov (.t 9), none⟩,
    ⟨(some 6), .mov (.t 88), none⟩,
    ⟨(some 7), .mov (.t 89), none⟩,
    ⟨(some 8), .mov (.c (.rv (.one (.dat (.val (.int .i64 (0))))))), none⟩]) .ret)))))))))))⟩
def c24 : LF := ⟨109, [.tmp 0], (.seq (.reg [
    ⟨(some 0), .mov (.c (.rv (.one (.dat (.val (.bool false)))))), none⟩]) (.seq (.reg [
    ⟨(some 14), .call (.c (.rv (.one (.fn 9 [])))) [], none⟩,
    ⟨(some 15), .bsl 1 [(.dat (.val (.int .u8 (0))))] 2 [(0, (.c (.rv (.one (.dat (.val (.int .u8 (97)))))))), (1, (.c (.rv (.one (.dat (.val (.int .u8 (98))))))))], none⟩,
    ⟨(some 16), .idb (.t 15), none⟩,
    ⟨(some 17), .build [(.dat (.val (.int .i64 (0)))), .esl, .esl, (.dat (.val (.string ⟨#[]⟩))), (.dat (.val (.int .i64 (0)))), .esl, (.dat (.val (.int .i64 (0)))), (.dat (.val (.int .i64 (0)))), (.dat (.val (.int .i64 (0))))] [(0, 1, (.c (.rv (.one (.dat (.val (.int .i64 (1)))))))), (1, 1, (.t 16)), (4, 1, (.c (.rv (.one (.dat (.val (.int .i64 (-1)))))))), (6, 1, (.c (.rv (.one (.dat (.val (.int .i64 (-1))))))))], none⟩,
    ⟨(some 18), .call (.c (.rv (.one (.fn 12 [])))) [(.t 14), (.t 17)], none⟩,
    ⟨(some 13), .mov (.t 18), none⟩,
    ⟨(some 19), .ext (.t 13) 0, none⟩,
    ⟨(some 20), .ext (.t 13) 1, none⟩,
    ⟨(some 21), .ext (.t 13) 2, none⟩,
    ⟨(some 1), .mov (.t 19), none⟩,
    ⟨(some 2), .mov (.t 20), none⟩,
    ⟨(some 3), .mov (.t 21), none⟩]) (.seq (.reg [
    ⟨(some 23), .mov (.t 1), none⟩,
    ⟨(some 24), .mov (.t 2), none⟩,
    ⟨(some 25), .call (.c (.rv (.one (.fn 14 [])))) [(.t 23), (.c (.rv (.one (.dat (.val (.int .i64 (0))))))), (.c (.rv (.one (.dat (.val (.string ⟨#[102]⟩)))))), (.t 24)], none⟩,
    ⟨(some 22), .mov (.t 25), none⟩,
    ⟨(some 26), .ext (.t 22) 0, none⟩,
    ⟨(some 27), .ext (.t 22) 1, none⟩,
    ⟨(some 4), .mov (.t 26), none⟩,
    ⟨(some 5), .mov (.t 27), none⟩]) (.seq (.reg [
    ⟨(some 29), .mov (.t 4), none⟩,
    ⟨(some 30), .call (.c (.rv (.one (.fn 16 [])))) [(.t 29), (.c (.rv (.one (.dat (.val (.int .i64 (0))))))), (.c (.rv (.one (.dat (.val (.string ⟨#[102]⟩))))))], none⟩,
    ⟨(some 28), .mov (.t 30), none⟩,
    ⟨(some 31), .ext (.t 28) 0, none⟩,
    ⟨(some 32), .ext (.t 28) 1, none⟩,
    ⟨(some 33), .ext (.t 28) 2, none⟩,
    ⟨(some 6), .mov (.t 31), none⟩,
    ⟨(some 7), .mov (.t 32), none⟩,
    ⟨(some 8), .mov (.t 33), none⟩]) (.seq (.seq (.reg [
    ⟨(some 34), .mov (.t 3), none⟩,
    ⟨(some 35), .bin .neq (.t 34) (.c (.rv (.one (.dat (.val (.int .i64 (0))))))), none⟩,
    ⟨(some 36), .mov (.t 35), none⟩,
    ⟨(some 37), .mov (.t 5), (some (36, false))⟩,
    ⟨(some 38), .bin .neq (.t 37) (.c (.rv (.one (.dat (.val (.int .i64 (0))))))), (some (36, false))⟩,
    ⟨(some 39), .pick (.t 36) (.c (.rv (.one (.dat (.val (.bool true)))))) (.t 38), none⟩,
    ⟨(some 40), .mov (.t 39), none⟩,
    ⟨(some 41), .mov (.t 8), (some (40, false))⟩,
    ⟨(some 42), .bin .neq (.t 41) (.c (.rv (.one (.dat (.val (.int .i64 (0))))))), (some (40, false))⟩,
    ⟨(some 43), .pick (.t 40) (.c (.rv (.one (.dat (.val (.bool true)))))) (.t 42), none⟩,
    ⟨(some 44), .mov (.t 43), none⟩,
    ⟨(some 45), .mov (.t 4), (some (44, false))⟩,
    ⟨(some 46), .len 1 (.t 45), (some (44, false))⟩,
    ⟨(some 47), .bin .neq (.t 46) (.c (.rv (.one (.dat (.val (.int .i64 (2))))))), (some (44, false))⟩,
    ⟨(some 48), .pick (.t 44) (.c (.rv (.one (.dat (.val (.bool true)))))) (.t 47), none⟩,
    ⟨(some 49), .mov (.t 48), none⟩,
    ⟨(some 50), .mov (.t 6), (some (49, false))⟩,
    ⟨(some 51), .len 1 (.t 50), (some (49, false))⟩,
    ⟨(some 52), .bin .neq (.t 51) (.c (.rv (.one (.dat (.val (.int .i64 (2))))))), (some (49, false))⟩,
    ⟨(some 53), .pick (.t 49) (.c (.rv (.one (.dat (.val (.bool true)))))) (.t 52), none⟩,
    ⟨(some 54), .mov (.t 53), none⟩,
    ⟨(some 55), .mov (.t 7), (some (54, false))⟩,
    ⟨(some 56), .bin .neq (.t 55) (.c (.rv (.one (.dat (.val (.int .i64 (1))))))), (some (54, false))⟩,
    ⟨(some 57), .pick (.t 54) (.c (.rv (.one (.dat (.val (.bool true)))))) (.t 56), none⟩]) (.cond (.t 57) (.seq (.reg [
    ⟨(some 0), .mov (.c (.rv (.one (.dat (.val (.bool false)))))), none⟩]) .ret) .skip)) (.seq (.reg [
    ⟨(some 59), .mov (.t 4), none⟩,
    ⟨(some 60), .idx 9 (.t 59) (.c (.rv (.one (.dat (.val (.int .i64 (1))))))), none⟩,
    ⟨(some 61), .load true 9 (.t 60), none⟩,
    ⟨(some 62), .call (.c (.rv (.one (.fn 18 [])))) [(.t 61), (.c (.rv (.one (.dat (.val (.int .i64 (1))))))), (.c (.rv (.one (.dat (.val (.int .i64 (9)))))))], none⟩,
    ⟨(some 58), .mov (.t 62), none⟩,
    ⟨(some 63), .ext (.t 58) 0, none⟩,
    ⟨(some 64), .ext (.t 58) 1, none⟩,
    ⟨(some 9), .mov (.t 63), none⟩,
    ⟨(some 10), .mov (.t 64), none⟩]) (.seq (.reg [
    ⟨(some 66), .mov (.t 4), none⟩,
    ⟨(some 67), .idx 9 (.t 66) (.c (.rv (.one (.dat (.val (.int .i64 (1))))))), none⟩,
    ⟨(some 68), .load true 9 (.t 67), none⟩,
    ⟨(some 69), .bsl 1 [(.dat (.val (.int .u8 (0))))] 1 [(0, (.c (.rv (.one (.dat (.val (.int .u8 (122))))))))], none⟩,
    ⟨(some 70), .idb (.t 69), none⟩,
    ⟨(some 71), .call (.c (.rv (.one (.fn 20 [])))) [(.t 68), (.c (.rv (.one (.dat (.val (.int .i64 (3))))))), (.t 70)], none⟩,
    ⟨(some 65), .mov (.t 71), none⟩,
    ⟨(some 72), .ext (.t 65) 0, none⟩,
    ⟨(some 73), .ext (.t 65) 1, none⟩,
    ⟨(some 11), .alloc [(.dat (.val (.int .i64 (0)))), .esl, .esl, (.dat (.val (.string ⟨#[]⟩))), (.dat (.val (.int .i64 (0)))), .esl, (.dat (.val (.int .i64 (0)))), (.dat (.val (.int .i64 (0)))), (.dat (.val (.int .i64 (0))))], none⟩,
    ⟨none, .store 9 (.t 11) (.t 72), none⟩,
    ⟨(some 12), .mov (.t 73), none⟩]) (.ghost (.seq (.reg [
    ⟨(some 74), .mov (.t 10), none⟩,
    ⟨(some 75), .bin .eql (.t 74) (.c (.rv (.one (.dat (.val (.int .i64 (0))))))), none⟩,
    ⟨(some 76), .mov (.t 75), none⟩,
    ⟨(some 77), .mov (.t 12), (some (76, true))⟩,
    ⟨(some 78), .bin .eql (.t 77) (.c (.rv (.one (.dat (.val (.int .i64 (0))))))), (some (76, true))⟩,
    ⟨(some 79), .pick (.t 76) (.t 78) (.c (.rv (.one (.dat (.val (.bool false)))))), none⟩,
    ⟨(some 80), .mov (.t 79), none⟩,
    ⟨(some 81), .mov (.t 9), (some (80, true))⟩,
    ⟨(some 82), .b2s (.t 81), (some (80, true))⟩,
    ⟨(some 83), .bin .eql (.t 82) (.c (.rv (.one (.dat (.val (.string ⟨#[98]⟩)))))), (some (80, true))⟩,
    ⟨(some 84), .pick (.t 80) (.t 83) (.c (.rv (.one (.dat (.val (.bool false)))))), none⟩,
    ⟨(some 85), .mov (.t 84), none⟩,
    ⟨(some 86), .fadr 1 (.t 11), (some (85, true))⟩,
    ⟨(some 87), .load false 1 (.t 86), (some (85, true))⟩,
    ⟨(some 88), .len 1 (.t 87), (some (85, true))⟩,
    ⟨(some 89), .bin .eql (.t 88) (.c (.rv (.one (.dat (.val (.int .i64 (4))))))), (some (85, true))⟩,
    ⟨(some 90), .pick (.t 85) (.t 89) (.c (.rv (.one (.dat (.val (.bool false)))))), none⟩,
    ⟨(some 91), .mov (.t 90), none⟩,
    ⟨(some 92), .mov (.t 4), (some (91, true))⟩,
    ⟨(some 93), .call (.c (.rv (.one (.fn 10 [])))) [(.t 92), (.c (.rv (.one (.dat (.val (.int .i64 (0))))))), (.c (.rv (.one (.dat (.val (.string ⟨#[102]⟩))))))], (some (91, true))⟩,
    ⟨(some 94), .bin .eql (.t 93) (.c (.rv (.one (.dat (.val (.int .i64 (1))))))), (some (91, true))⟩,
    ⟨(some 95), .pick (.t 91) (.t 94) (.c (.rv (.one (.dat (.val (.bool false)))))), none⟩,
    ⟨(some 96), .mov (.t 95), none⟩,
    ⟨(some 97), .mov (.t 6), (some (96, true))⟩,
    ⟨(some 98), .call (.c (.rv (.one (.fn 10 [])))) [(.t 97), (.c (.rv (.one (.dat (.val (.int .i64 (0))))))), (.c (.rv (.one (.dat (.val (.string ⟨#[102]⟩))))))], (some (96, true))⟩,
    ⟨(some 99), .bin .lss (.t 98) (.c (.rv (.one (.dat (.val (.int .i64 (0))))))), (some (96, true))⟩,
    ⟨(some 100), .pick (.t 96) (.t 99) (.c (.rv (.one (.dat (.val (.bool false)))))), none⟩,
    ⟨(some 101), .mov (.t 100), none⟩,
    ⟨(some 102), .mov (.t 4), (some (101, true))⟩,
    ⟨(some 103), .idx 9 (.t 102) (.c (.rv (.one (.dat (.val (.int .i64 (0))))))), (some (101, true))⟩,
    ⟨(some 104), .load true 9 (.t 103), (some (101, true))⟩,
    ⟨(some 105), .call (.c (.rv (.one (.fn 22 [])))) [(.t 104)], (some (101, true))⟩,
    ⟨(some 106), .len 1 (.t 105), (some (101, true))⟩,
    ⟨(some 107), .bin .eql (.t 106) (.c (.rv (.one (.dat (.val (.int .i64 (1))))))), (some (101, true))⟩,
    ⟨(some 108), .pick (.t 101) (.t 107) (.c (.rv (.one (.dat (.val (.bool false)))))), none⟩,
    ⟨(some 0), .mov (.t 108), none⟩]) .ret)))))))))⟩
def c41 : LF := ⟨42, [.tmp 4], (.seq (.reg [
    ⟨(some 4), .mov (.c (.rv (.one .esl))), none⟩]) (.seq (.reg [
    ⟨(some 8), .mov (.t 0), none⟩,
    ⟨(some 9), .mov (.t 1), none⟩,
    ⟨(some 10), .call (.c (.rv (.one (.fn 46 [])))) [(.t 8), (.t 9)], none⟩,
    ⟨(some 5), .mov (.t 10), none⟩]) (.seq (.seq (.reg [
    ⟨(some 11), .mov (.t 5), none⟩,
    ⟨(some 12), .bin .eql (.t 11) (.c (.rv (.one (.dat (.val (.int .i64 (-1))))))), none⟩]) (.cond (.t 12) (.seq (.reg [
    ⟨(some 13), .mov (.t 0), none⟩,
    ⟨(some 4), .mov (.t 13), none⟩]) .ret) .skip)) (.seq (.seq (.reg [
    ⟨(some 14), .mov (.t 5), none⟩,
    ⟨(some 15), .bin .add (.t 14) (.c (.rv (.one (.dat (.val (.int .i64 (1))))))), none⟩,
    ⟨(some 6), .mov (.t 15), none⟩]) (.block 0 (.loop (.seq (.seq (.reg [
    ⟨(some 16), .mov (.t 6), none⟩,
    ⟨(some 17), .mov (.t 0), none⟩,
    ⟨(some 18), .len 1 (.t 17), none⟩,
    ⟨(some 19), .bin .lss (.t 16) (.t 18), none⟩]) (.cond (.t 19) .skip (.exit 0))) (.seq (.block 1 (.seq (.reg [
    ⟨(some 22), .mov (.t 0), none⟩,
    ⟨(some 23), .mov (.t 6), none⟩,
    ⟨(some 24), .idx 2 (.t 22) (.t 23), none⟩,
    ⟨(some 25), .load true 2 (.t 24), none⟩,
    ⟨(some 7), .alloc [(.dat (.val (.string ⟨#[]⟩))), (.dat (.val (.int .i64 (0))))], none⟩,
    ⟨none, .store 2 (.t 7) (.t 25), none⟩]) (.seq (.reg [
    ⟨(some 26), .mov (.t 1), none⟩,
    ⟨(some 27), .load true 2 (.t 7), none⟩,
    ⟨(some 28), .call (.t 26) [(.t 27)], none⟩,
    ⟨(some 29), .un .not (.t 28), none⟩]) (.cond (.t 29) (.seq (.reg [
    ⟨(some 30), .mov (.t 0), none⟩,
    ⟨(some 31), .mov (.t 5), none⟩,
    ⟨(some 32), .load true 2 (.t 7), none⟩,
    ⟨(some 33), .idx 2 (.t 30) (.t 31), none⟩,
    ⟨none, .store 2 (.t 33) (.t 32), none⟩]) (.reg [
    ⟨(some 34), .mov (.t 5), none⟩,
    ⟨(some 35), .bin .add (.t 34) (.c (.rv (.one (.dat (.val (.int .i64 (1))))))), none⟩,
    ⟨(some 5), .mov (.t 35), none⟩])) .skip)))) (.reg [
    ⟨(some 20), .mov (.t 6), none⟩,
    ⟨(some 21), .bin .add (.t 20) (.c (.rv (.one (.dat (.val (.int .i64 (1))))))), none⟩,
    ⟨(some 6), .mov (.t 21), none⟩])))))) (.seq (.reg [
    ⟨(some 36), .mov (.t 0), none⟩,
    ⟨(some 37), .mov (.t 5), none⟩,
    ⟨(some 38), .slc 2 (.t 36) (some (.t 37)) none none, none⟩,
    ⟨none, .clr 2 [(.dat (.val (.string ⟨#[]⟩))), (.dat (.val (.int .i64 (0))))] (.t 38), none⟩]) (.seq (.reg [
    ⟨(some 39), .mov (.t 0), none⟩,
    ⟨(some 40), .mov (.t 5), none⟩,
    ⟨(some 41), .slc 2 (.t 39) none (some (.t 40)) none, none⟩,
    ⟨(some 4), .mov (.t 41), none⟩]) .ret))))))⟩
def c42 : LF := ⟨8, [.tmp 3], (.seq (.reg [
    ⟨(some 2), .box (.t 0), none⟩,
    ⟨(some 3), .mov (.c (.rv (.one (.dat (.val (.bool false)))))), none⟩]) (.seq (.reg [
    ⟨(some 4), .fadr 0 (.t 2), none⟩,
    ⟨(some 5), .load false 1 (.t 4), none⟩,
    ⟨(some 6), .load false 1 (.t 1), none⟩,
    ⟨(some 7), .bin .eql (.t 5) (.t 6), none⟩,
    ⟨(some 3), .mov (.t 7), none⟩]) .ret))⟩
def c46 : LF := ⟨19, [.tmp 4], (.seq (.reg [
    ⟨(some 4), .mov (.c (.rv (.one (.dat (.val (.int .i64 (0))))))), none⟩]) (.seq (.seq (.reg [
    ⟨(some 6), .mov (.t 0), none⟩,
    ⟨(some 7), .len 1 (.t 6), none⟩,
    ⟨(some 8), .mov (.c (.rv (.one (.dat (.val (.int .i64 (0))))))), none⟩]) (.block 0 (.loop (.seq (.reg [
    ⟨(some 9), .bin .lss (.t 8) (.t 7), none⟩]) (.seq (.cond (.t 9) .skip (.exit 0)) (.seq (.block 1 (.seq (.reg [
    ⟨(some 10), .mov (.t 8), none⟩,
    ⟨(some 5), .mov (.t 10), none⟩]) (.seq (.reg [
    ⟨(some 11), .mov (.t 1), none⟩,
    ⟨(some 12), .mov (.t 0), none⟩,
    ⟨(some 13), .mov (.t 5), none⟩,
    ⟨(some 14), .idx 2 (.t 12) (.t 13), none⟩,
    ⟨(some 15), .load true 2 (.t 14), none⟩,
    ⟨(some 16), .call (.t 11) [(.t 15)], none⟩]) (.cond (.t 16) (.seq (.reg [
    ⟨(some 17), .mov (.t 5), none⟩,
    ⟨(some 4), .mov (.t 17), none⟩]) .ret) .skip)))) (.reg [
    ⟨(some 18), .bin .add (.t 8) (.c (.rv (.one (.dat (.val (.int .i64 (1))))))), none⟩,
    ⟨(some 8), .mov (.t 18), none⟩]))))))) (.seq (.reg [
    ⟨(some 4), .mov (.c (.rv (.one (.dat (.val (.int .i64 (-1))))))), none⟩]) .ret)))⟩
/-! Remove of the closed fact; the closed fact -/
inductive CcsVw (σ : Nat → Nat) (m : Mem) (Z : Nat → Prop) : List CC → List CC → Prop
  | nil : CcsVw σ m Z [] []
  | cons {c c' : CC} {r r' : List CC} (h : VwC σ m Z none c c') (hr : CcsVw σ m Z r r') : CcsVw σ m Z (c :: r) (c' :: r')
theorem CcsVw.len {σ : Nat → Nat} {m : Mem} {Z : Nat → Prop} {cs cs' : List CC} (h : CcsVw σ m Z cs cs') : cs.length = cs'.length := by
  induction h <;> simp [*]
theorem CcsVw.get {σ : Nat → Nat} {m : Mem} {Z : Nat → Prop} {cs cs' : List CC} (h : CcsVw σ m Z cs cs') : ∀ (i : Nat) c c', cs[i]? = some c → cs'[i]? = some c' → VwC σ m Z none c c' := by
  induction h with
  | nil => intro i c c' h; simp at h
  | cons h hr ih =>
    intro i c c' h1 h2
    cases i with
    | zero => simp at h1 h2; subst h1 h2; exact h
    | succ i => exact ih i c c' (by simpa using h1) (by simpa using h2)
theorem CcsVw.agg {σ : Nat → Nat} {m : Mem} {Z : Nat → Prop} {cs cs' : List CC} (h : CcsVw σ m Z cs cs') : VwV σ m Z (.rv (.agg cs)) (.rv (.agg cs')) := .rv (.agg h.len h.get)
theorem l42 : lowF Try.prog Try.f42 = some c42 := by kernel_rfl
theorem l46 : lowF Try.prog Try.f46 = some c46 := by kernel_rfl
theorem l41 : lowF Try.prog Try.f41 = some c41 := by kernel_rfl
theorem l16 : lowF Try.prog Try.f16 = some c16.er := by kernel_rfl
theorem l9 : lowF Try.prog Try.f9 = some c9 := by kernel_rfl
theorem l24 : lowF Try.prog Try.f24 = some c24.er := by kernel_rfl
def sFc : List Dt := [.val (.string sF)]
set_option maxRecDepth 100000 in
theorem clo42_body : body Try.prog c42 [entC (sF, 1), .rv (.one (.ptr 0 0))] [.var (sFc.map .dat)] (fun r m => r = vBool true ∧ ∃ ex, m = .var (sFc.map .dat) :: ex) := by
  refine ⟨?_, _, rfl⟩
  show vBool (sF.toList == sF.toList) = vBool true
  simp
set_option maxRecDepth 100000 in
theorem clo42 (K : CV → Mem → Prop) (h : K (vBool true) [.var (sFc.map .dat)]) : ACall Try.prog 42 [entC (sF, 1), .rv (.one (.ptr 0 0))] [.var (sFc.map .dat)] K :=
  acall_trim rfl (acall_body Try.func42 l42 rfl (Nat.le_of_ble_eq_true rfl) clo42_body) h
set_option maxRecDepth 100000 in
theorem idx46_body : body Try.prog c46 [.rv (.one (.row 0 2 0 none)), .rv (.one (.fn 42 [1]))] [.row 2 (dRows [entW (sF, 1)]), .var (sFc.map .dat)] (fun r m => r = vInt .i64 0 ∧ m = [.row 2 (dRows [entW (sF, 1)]), .var (sFc.map .dat)]) := by
  refine loop_keep (fun k => k ≤ 0) [0, 1, 7] (fun k => [(8, vInt .i64 0)]) (fun _ => [.row 2 (dRows [entW (sF, 1)]), .var (sFc.map .dat)]) (fun k => 0) 0 (Nat.zero_le _) ?_ (fun k hk => ?_)
  · refine View.of 2 [0, 1] [] rfl rfl rfl rfl rfl rfl ?_ ?_
    · repeat (first | exact .nil | refine .junk ?_ | refine .eq rfl ?_)
    · exact .put (notF rfl) rfl (.rowDE rfl) (.put (notF rfl) rfl (.varDE rfl) (.nil _))
  refine acall_look (args0 := [entC (sF, 1), .rv (.one (.ptr 0 0))]) (cs := sFc) 1 rfl rfl (r0 := vBool true) rfl (fun K hK => clo42 K hK) ?_
  exact ⟨rfl, rfl⟩
set_option maxRecDepth 100000 in
theorem del_body2 : body Try.prog c41 [.rv (.one (.row 0 2 0 none)), .rv (.one (.fn 42 [1]))] [.row 2 (dRows [entW (sF, 1)]), .var (sFc.map .dat)]
    (fun r m => r = .rv (.one (.row 0 2 0 (some 0))) ∧ m = [.row 2 [[.dat (.val (.string ⟨#[]⟩)), .dat (.val (.int .i64 0))]], .var (sFc.map .dat)]) := by
  refine (acall_body Try.func46 l46 rfl (Nat.le_of_ble_eq_true rfl) idx46_body).mono fun r m ⟨hr, hm⟩ => ?_
  subst hr hm
  refine loop_keep (fun k => k ≤ 0) [0] (fun k => [(5, vInt .i64 0), (6, vInt .i64 1)]) (fun _ => [.row 2 (dRows [entW (sF, 1)]), .var (sFc.map .dat)]) (fun k => 0) 0 (Nat.zero_le _) ?_ (fun k hk => ?_)
  · refine View.of 2 [0, 1] [] rfl rfl rfl rfl rfl rfl ?_ ?_
    · repeat (first | exact .nil | refine .junk ?_ | refine .eq rfl ?_)
    · exact .put (notF rfl) rfl (.rowDE rfl) (.put (notF rfl) rfl (.varDE rfl) (.nil _))
  exact ⟨rfl, rfl⟩
set_option maxRecDepth 100000 in
theorem del_ok2 {m : Mem} {K : CV → Mem → Prop} (a b : Nat) (hab : nodupN [a, b] = true) (hlt : allLt m.length [a, b] = true) (ha : nth m a = some (.row 2 (dRows [entW (sF, 1)]))) (hb : nth m b = some (.var (sFc.map .dat)))
    (h : K (.rv (.one (.row a 2 0 (some 0)))) (weave m [a, b] [.row 2 [[.dat (.val (.string ⟨#[]⟩)), .dat (.val (.int .i64 0))]], .var (sFc.map .dat)])) : ACall Try.prog 41 [.rv (.one (.row a 2 0 none)), .rv (.one (.fn 42 [b]))] m K := by
  refine acall_borrow [a, b] m.length rfl rfl hab hlt (args0 := [.rv (.one (.row 0 2 0 none)), .rv (.one (.fn 42 [1]))]) rfl (m0 := [.row 2 (dRows [entW (sF, 1)]), .var (sFc.map .dat)]) (fun i b' hi => ?_) (acall_body Try.func41 l41 rfl (Nat.le_of_ble_eq_true rfl) del_body2) (fun r1 m1 hr => ?_)
  · match i, hi with
    | 0, hi => cases hi; exact .inr ⟨fun h => h, _, by rw [nth_eq] at ha; exact ha, .rowDE rfl⟩
    | 1, hi => cases hi; exact .inr ⟨fun h => h, _, by rw [nth_eq] at hb; exact hb, .varDE rfl⟩
    | n + 2, hi => simp at hi
  · obtain ⟨rfl, rfl⟩ := hr
    exact ⟨by simp, h⟩
def G88 : LC := unW (sndW (sndW (sndW (sndW (sndW (sndW (sndW (sndW (sndW c16.code)))))))))
theorem findB : findW [rootB, fileB] [(sF, 1)] 0 sF = 1 := by decide +kernel
theorem findA : findW [rootA, fileA] [] 0 sF = -1 := by decide +kernel
set_option maxRecDepth 100000 in
set_option maxHeartbeats 8000000 in
theorem removeB_body : body Try.prog c16 [objsV [rootB, fileB], vInt .i64 0, vStr sF] [] (fun r m => r = .tup [objsR [rootA, fileA], iRV 1, iRV 0]) := by
  refine sfind_ok [rootB, fileB] 0 (by simp) rfl [(sF, 1)] rfl (by simp) sF ?_
  rw [findB]
  refine ownE_ok [rootB, fileB] fitB 0 ?_
  refine del_ok2 2 0 rfl rfl rfl rfl ?_
  have hfin : aw Try.prog 0 G88 (endK Try.prog c16.res (fun r m => r = .tup [objsR [rootA, fileA], iRV 1, iRV 0])) ⟨mkE 90 [(9, vInt .i64 1), (10, objsV [rootA, fileA])], []⟩ := rfl
  refine ⟨_, View.of 3 [] [1, 2] rfl rfl rfl rfl rfl rfl ?_ (.nil _), hfin⟩
  iterate 9 refine .junk ?_
  refine .eq rfl ?_
  refine .put (.rv (.one (.frz (p := none) ?_))) ?_
  · refine RowsFz.frz (Z := fun k => memN [1, 2] k = true) (ds := [rootA.enc, fileA.enc]) ?_ rfl rfl
    refine .cons ?_ (.cons ?_ .nil)
    · exact .cons (.dat _) (.cons (.dat _) (.cons (FrzD.row 2 2 0 (some 0) [[.dat (.val (.string ⟨#[]⟩)), .dat (.val (.int .i64 0))]] [[.val (.string ⟨#[]⟩), .val (.int .i64 0)]] rfl rfl rfl (fun i cs es h1 h2 => by
        match i, h1, h2 with
        | 0, h1, h2 => cases h1; cases h2; rfl
        | n + 1, h1, h2 => simp at h1) (fun i cs es j c d h1 h2 h3 h4 => by
        match i, h1, h2 with
        | 0, h1, h2 =>
          cases h1; cases h2
          match j, h3, h4 with
          | 0, h3, h4 => cases h3; cases h4; exact .dat _
          | 1, h3, h4 => cases h3; cases h4; exact .dat _
          | n + 2, h3, h4 => simp at h3
        | n + 1, h1, h2 => simp at h1)) (.cons (.dat _) (.cons (.dat _) (.cons (.dat _) (.cons (.dat _) (.cons (.dat _) (.cons (.dat _) .nil))))))))
    · exact .cons (.dat _) (.cons (.dat _) (.cons (.dat _) (.cons (.dat _) (.cons (.dat _) (.cons (.dat _) (.cons (.dat _) (.cons (.dat _) (.cons (.dat _) .nil))))))))
  repeat (first | exact .nil | refine .junk ?_)
set_option maxRecDepth 100000 in
theorem removeB_ok {m : Mem} {K : CV → Mem → Prop} (h : K (.tup [objsR [rootA, fileA], iRV 1, iRV 0]) m) : ACall Try.prog 16 [objsV [rootB, fileB], vInt .i64 0, vStr sF] m K := by
  refine acall_frame (K0 := fun r _ => r = .tup [objsR [rootA, fileA], iRV 1, iRV 0]) (acall_body_g Try.func16 l16 rfl (Nat.le_of_ble_eq_true rfl) removeB_body) (by simp [objsV, vInt, vStr, CV.isD, CC.isD, RV.isD]) fun r m1 hr => ?_
  subst hr
  exact ⟨_, FrzV.self rfl, h⟩
theorem rootFz {m : Mem} {Z : Nat → Prop} {p : Option Nat} : CcsFz m Z p [.dat (.val (.int .i64 2)), .esl, .esl, .dat (.val (.string ⟨#[]⟩)), .dat (.val (.int .i64 (-1))), .esl, .dat (.val (.int .i64 (-1))), .dat (.val (.int .i64 1)), .dat (.val (.int .i64 0))] rootA.enc :=
  .cons (.dat _) (.cons (.esl 1) (.cons (.esl 2) (.cons (.dat _) (.cons (.dat _) (.cons (.esl 4) (.cons (.dat _) (.cons (.dat _) (.cons (.dat _) .nil))))))))
set_option maxRecDepth 100000 in
theorem snew_body : body Try.prog c9 [] [] (fun r m => ∃ r' m', View 0 ⟨[r], m⟩ ⟨[r'], m'⟩ ∧ r' = objsV [rootA] ∧ m' = []) :=
  ⟨_, [], View.of 1 [] [0] rfl rfl rfl rfl rfl rfl (.put (.rv (.one (.frz (RowsFz.frz (Z := fun k => memN [0] k = true) (.cons rootFz .nil) rfl rfl)))) .nil) (.nil _), rfl, rfl⟩
set_option maxRecDepth 100000 in
theorem snew_ok {m : Mem} {K : CV → Mem → Prop} (h : K (objsV [rootA]) m) : ACall Try.prog 9 [] m K := by
  refine acall_frame (K0 := fun r m => r = objsV [rootA] ∧ m = []) (acall_view (acall_body Try.func9 l9 rfl (Nat.le_of_ble_eq_true rfl) snew_body) fun r m1 h => h) (by simp) fun r m1 hr => ?_
  obtain ⟨rfl, rfl⟩ := hr
  exact ⟨_, FrzV.self rfl, h⟩
theorem mkA : makeS [rootA] fileA = ([rootA, fileA], 1, 0) := rfl
theorem readB : readS fileB.kind fileB.data 1 9 = ([[.val (.int .u8 98)]], 0) := rfl
def fileC : Obj := ⟨1, [[.val (.int .u8 97)], [.val (.int .u8 98)], [.val (.int .u8 0)], [.val (.int .u8 122)]], [], ⟨#[]⟩, -1, [], -1, 1, 0⟩
theorem writeB : writeS fileB 3 [[.val (.int .u8 122)]] = (fileC, 0) := rfl
theorem strB : ((strOfNums [98]).toList == (ByteArray.mk #[98]).toList) = true := by decide +kernel
theorem fitO : fileB.fit := fitB.2 _ (by simp)
def G74 : LC := unW (sndW (sndW (sndW (sndW (sndW (sndW (sndW c24.code)))))))
set_option maxRecDepth 100000 in
set_option maxHeartbeats 8000000 in
theorem seg74 (X : List (List Dt)) (s : ByteArray) (hn : ∃ xs, numsC (X.map fun ds => ds.map CC.dat) = some xs ∧ strOfNums xs = s) (c : ByteArray) (hc : c = ByteArray.mk #[98]) (hx : (s.toList == c.toList) = true) : aw Try.prog 0 G74 (endK Try.prog c24.res (fun r m => r = vBool true))
    ⟨mkE 109 [(4, objsV [rootB, fileB]), (6, objsV [rootA, fileA]), (9, slV 1 X), (10, vInt .i64 0), (11, .rv (.one (.ptr 0 0))), (12, vInt .i64 0)], [.var (fileC.enc.map .dat)]⟩ := by
  obtain ⟨xs, hn, hs⟩ := hn
  refine ok_some hn ?_
  refine bB_yes (t := ((strOfNums xs).toList == (ByteArray.mk #[98]).toList)) (by rw [hs, ← hc]; exact hx) ?_
  refine sfind_ok [rootB, fileB] 0 (by simp) rfl [(sF, 1)] rfl (by simp) sF ?_
  rw [findB]
  refine sfind_ok [rootA, fileA] 0 (by simp) rfl [] rfl (by simp) sF ?_
  rw [findA]
  refine names_ok rootB [(sF, 1)] rfl (by simp) ?_
  exact rfl
set_option maxRecDepth 100000 in
set_option maxHeartbeats 8000000 in
theorem alive5_body : body Try.prog c24 [] [] (fun r m => r = vBool true) := by
  refine snew_ok ?_
  refine acall_pre (args' := [objsV [rootA], fileA.cv]) (m' := [.dead]) (View.of 1 [0] [0] rfl rfl rfl rfl rfl rfl (.eq rfl (.put (CcsVw.agg (.cons (.ren (.dat _)) (.cons (.frz (FrzD.rowD (Z := fun k => memN [0] k = true) (ds := fileA.data) rfl rfl 0 none)) (.cons (.frz (.esl 2)) (.cons (.ren (.dat _)) (.cons (.ren (.dat _)) (.cons (.frz (.esl 4)) (.cons (.ren (.dat _)) (.cons (.ren (.dat _)) (.cons (.ren (.dat _)) .nil)))))))))) .nil)) (.dead (.nil _))) ?_
  refine make_ok [rootA] ⟨by simp, fun o ho => fitA.2 o (by simp at ho; simp [ho])⟩ fileA ?_
  rw [mkA]
  refine enterA_ok ?_
  refine removeB_ok ?_
  refine read_ok fileB fitO.1 1 9 (by omega) (by omega) ?_
  rw [readB]
  refine acall_pre (args' := [fileB.cv, vInt .i64 3, slV 1 [[.val (.int .u8 122)]]]) (m' := [.dead, .dead]) (View.of 2 [0, 1] [1] rfl rfl rfl rfl rfl rfl (.eq rfl (.eq rfl (.put (.rv (.one (.frz (FrzD.rowD (Z := fun k => memN [1] k = true) (ds := [[.val (.int .u8 122)]]) rfl rfl 0 none)))) .nil))) (.dead (.dead (.nil _)))) ?_
  refine write_ok fileB fitO 3 [[.val (.int .u8 122)]] (by simp) ?_
  rw [writeB]
  have hfin := seg74 [[.val (.int .u8 98)]] (strOfNums [98]) ⟨[98], rfl, rfl⟩ (ByteArray.mk #[98]) rfl strB
  refine ⟨_, View.of 3 [2] [] rfl rfl rfl rfl rfl rfl ?_ ?_, hfin⟩
  · repeat (first | exact .nil | refine .junk ?_ | refine .eq rfl ?_)
  · exact .put (notF rfl) rfl (.eq rfl (by simp)) (.nil _)
set_option maxRecDepth 100000 in
theorem alive5_ok {m : Mem} {K : CV → Mem → Prop} (h : K (vBool true) m) : ACall Try.prog 24 [] m K :=
  acall_val_g Try.func24 l24 rfl (Nat.le_of_ble_eq_true rfl) alive5_body rfl rfl h

def c5 : LF := ⟨95, [.tmp 8], (.seq (.reg [
    ⟨(some 8), .mov (.c (.rv (.one (.dat (.val (.bool false)))))), none⟩]) (.seq (.seq (.reg [
    ⟨(some 17), .call (.c (.rv (.one (.fn 24 [])))) [], none⟩,
    ⟨(some 18), .un .not (.t 17), none⟩]) (.cond (.t 18) (.seq (.reg [
    ⟨(some 8), .mov (.c (.rv (.one (.dat (.val (.bool false)))))), none⟩]) .ret) .skip)) (.seq (.reg [
    ⟨(some 19), .mov (.t 0), none⟩,
    ⟨(some 20), .build [(.dat (.val (.int .i64 (0)))), .esl, .esl, (.dat (.val (.string ⟨#[]⟩))), (.dat (.val (.int .i64 (0)))), .esl, (.dat (.val (.int .i64 (0)))), (.dat (.val (.int .i64 (0)))), (.dat (.val (.int .i64 (0))))] [(0, 1, (.c (.rv (.one (.dat (.val (.int .i64 (1)))))))), (1, 1, (.t 19))], none⟩,
    ⟨(some 9), .alloc [(.dat (.val (.int .i64 (0)))), .esl, .esl, (.dat (.val (.string ⟨#[]⟩))), (.dat (.val (.int .i64 (0)))), .esl, (.dat (.val (.int .i64 (0)))), (.dat (.val (.int .i64 (0)))), (.dat (.val (.int .i64 (0))))], none⟩,
    ⟨none, .store 9 (.t 9) (.t 20), none⟩]) (.seq (.reg [
    ⟨(some 22), .load true 9 (.t 9), none⟩,
    ⟨(some 23), .mov (.t 1), none⟩,
    ⟨(some 24), .mov (.t 2), none⟩,
    ⟨(some 25), .call (.c (.rv (.one (.fn 20 [])))) [(.t 22), (.t 23), (.t 24)], none⟩,
    ⟨(some 21), .mov (.t 25), none⟩,
    ⟨(some 26), .ext (.t 21) 0, none⟩,
    ⟨(some 27), .ext (.t 21) 1, none⟩,
    ⟨(some 10), .alloc [(.dat (.val (.int .i64 (0)))), .esl, .esl, (.dat (.val (.string ⟨#[]⟩))), (.dat (.val (.int .i64 (0)))), .esl, (.dat (.val (.int .i64 (0)))), (.dat (.val (.int .i64 (0)))), (.dat (.val (.int .i64 (0))))], none⟩,
    ⟨none, .store 9 (.t 10) (.t 26), none⟩,
    ⟨(some 11), .mov (.t 27), none⟩]) (.seq (.seq (.reg [
    ⟨(some 28), .mov (.t 11), none⟩,
    ⟨(some 29), .bin .neq (.t 28) (.c (.rv (.one (.dat (.val (.int .i64 (0))))))), none⟩,
    ⟨(some 30), .mov (.t 29), none⟩,
    ⟨(some 31), .mov (.t 3), (some (30, false))⟩,
    ⟨(some 32), .bin .lss (.t 31) (.c (.rv (.one (.dat (.val (.int .i64 (0))))))), (some (30, false))⟩,
    ⟨(some 33), .pick (.t 30) (.c (.rv (.one (.dat (.val (.bool true)))))) (.t 32), none⟩,
    ⟨(some 34), .mov (.t 33), none⟩,
    ⟨(some 35), .mov (.t 3), (some (34, false))⟩,
    ⟨(some 36), .bin .geq (.t 35) (.c (.rv (.one (.dat (.val (.int .i64 (60))))))), (some (34, false))⟩,
    ⟨(some 37), .pick (.t 34) (.c (.rv (.one (.dat (.val (.bool true)))))) (.t 36), none⟩]) (.cond (.t 37) (.seq (.reg [
    ⟨(some 8), .mov (.c (.rv (.one (.dat (.val (.bool true)))))), none⟩]) .ret) .skip)) (.seq (.reg [
    ⟨(some 39), .load true 9 (.t 10), none⟩,
    ⟨(some 40), .mov (.t 1), none⟩,
    ⟨(some 41), .mov (.t 2), none⟩,
    ⟨(some 42), .len 1 (.t 41), none⟩,
    ⟨(some 43), .call (.c (.rv (.one (.fn 18 [])))) [(.t 39), (.t 40), (.t 42)], none⟩,
    ⟨(some 38), .mov (.t 43), none⟩,
    ⟨(some 44), .ext (.t 38) 0, none⟩,
    ⟨(some 45), .ext (.t 38) 1, none⟩,
    ⟨(some 12), .mov (.t 44), none⟩,
    ⟨(some 11), .mov (.t 45), none⟩]) (.seq (.seq (.reg [
    ⟨(some 46), .mov (.t 11), none⟩,
    ⟨(some 47), .bin .neq (.t 46) (.c (.rv (.one (.dat (.val (.int .i64 (0))))))), none⟩,
    ⟨(some 48), .mov (.t 47), none⟩,
    ⟨(some 49), .mov (.t 12), (some (48, false))⟩,
    ⟨(some 50), .b2s (.t 49), (some (48, false))⟩,
    ⟨(some 51), .mov (.t 2), (some (48, false))⟩,
    ⟨(some 52), .b2s (.t 51), (some (48, false))⟩,
    ⟨(some 53), .bin .neq (.t 50) (.t 52), (some (48, false))⟩,
    ⟨(some 54), .pick (.t 48) (.c (.rv (.one (.dat (.val (.bool true)))))) (.t 53), none⟩]) (.cond (.t 54) (.seq (.reg [
    ⟨(some 8), .mov (.c (.rv (.one (.dat (.val (.bool false)))))), none⟩]) .ret) .skip)) (.seq (.seq (.reg [
    ⟨(some 55), .mov (.t 3), none⟩,
    ⟨(some 56), .mov (.t 1), none⟩,
    ⟨(some 57), .bin .geq (.t 55) (.t 56), none⟩,
    ⟨(some 58), .mov (.t 57), none⟩,
    ⟨(some 59), .mov (.t 3), (some (58, true))⟩,
    ⟨(some 60), .mov (.t 1), (some (58, true))⟩,
    ⟨(some 61), .bin .sub (.t 59) (.t 60), (some (58, true))⟩,
    ⟨(some 62), .mov (.t 2), (some (58, true))⟩,
    ⟨(some 63), .len 1 (.t 62), (some (58, true))⟩,
    ⟨(some 64), .bin .lss (.t 61) (.t 63), (some (58, true))⟩,
    ⟨(some 65), .pick (.t 58) (.t 64) (.c (.rv (.one (.dat (.val (.bool false)))))), none⟩]) (.cond (.t 65) (.seq (.reg [
    ⟨(some 8), .mov (.c (.rv (.one (.dat (.val (.bool true)))))), none⟩]) .ret) .skip)) (.ghost (.seq (.reg [
    ⟨(some 67), .load true 9 (.t 9), none⟩,
    ⟨(some 68), .mov (.t 3), none⟩,
    ⟨(some 69), .call (.c (.rv (.one (.fn 18 [])))) [(.t 67), (.t 68), (.c (.rv (.one (.dat (.val (.int .i64 (1)))))))], none⟩,
    ⟨(some 66), .mov (.t 69), none⟩,
    ⟨(some 70), .ext (.t 66) 0, none⟩,
    ⟨(some 71), .ext (.t 66) 1, none⟩,
    ⟨(some 13), .mov (.t 70), none⟩,
    ⟨(some 14), .mov (.t 71), none⟩]) (.seq (.reg [
    ⟨(some 73), .load true 9 (.t 10), none⟩,
    ⟨(some 74), .mov (.t 3), none⟩,
    ⟨(some 75), .call (.c (.rv (.one (.fn 18 [])))) [(.t 73), (.t 74), (.c (.rv (.one (.dat (.val (.int .i64 (1)))))))], none⟩,
    ⟨(some 72), .mov (.t 75), none⟩,
    ⟨(some 76), .ext (.t 72) 0, none⟩,
    ⟨(some 77), .ext (.t 72) 1, none⟩,
    ⟨(some 15), .mov (.t 76), none⟩,
    ⟨(some 16), .mov (.t 77), none⟩]) (.seq (.seq (.reg [
    ⟨(some 78), .mov (.t 13), none⟩,
    ⟨(some 79), .len 1 (.t 78), none⟩,
    ⟨(some 80), .bin .eql (.t 79) (.c (.rv (.one (.dat (.val (.int .i64 (0))))))), none⟩]) (.cond (.t 80) (.seq (.reg [
    ⟨(some 81), .mov (.t 15), none⟩,
    ⟨(some 82), .len 1 (.t 81), none⟩,
    ⟨(some 83), .bin .eql (.t 82) (.c (.rv (.one (.dat (.val (.int .i64 (0))))))), none⟩,
    ⟨(some 84), .mov (.t 83), none⟩,
    ⟨(some 85), .mov (.t 15), (some (84, false))⟩,
    ⟨(some 86), .idx 1 (.t 85) (.c (.rv (.one (.dat (.val (.int .i64 (0))))))), (some (84, false))⟩,
    ⟨(some 87), .load false 1 (.t 86), (some (84, false))⟩,
    ⟨(some 88), .bin .eql (.t 87) (.c (.rv (.one (.dat (.val (.int .u8 (0))))))), (some (84, false))⟩,
    ⟨(some 89), .pick (.t 84) (.c (.rv (.one (.dat (.val (.bool true)))))) (.t 88), none⟩,
    ⟨(some 8), .mov (.t 89), none⟩]) .ret) .skip)) (.seq (.reg [
    ⟨(some 90), .mov (.t 13), none⟩,
    ⟨(some 91), .b2s (.t 90), none⟩,
    ⟨(some 92), .mov (.t 15), none⟩,
    ⟨(some 93), .b2s (.t 92), none⟩,
    ⟨(some 94), .bin .eql (.t 91) (.t 93), none⟩,
    ⟨(some 8), .mov (.t 94), none⟩]) .ret)))))))))))))⟩
/-! the law StoreWrites -/
theorem l5 : lowF Try.prog Try.f5 = some c5.er := by kernel_rfl
theorem cut1 (D : List (List Dt)) (W : Nat) : cutD D W 1 = match D[W]? with | some x => [x] | none => [] := by
  unfold cutD
  by_cases h : W < D.length
  · have hm : minN W D.length = W := by unfold minN; rw [if_neg (by omega)]
    have h1 : minN 1 (D.length - W) = 1 := by unfold minN; rw [if_neg (by omega)]
    rw [hm, h1, List.getElem?_eq_getElem h, List.take_succ_eq_append_getElem h, List.drop_left' (by simp; omega)]
  · have hm : minN W D.length = D.length := by unfold minN; split <;> omega
    rw [hm, List.getElem?_eq_none (by omega)]
    simp
theorem wpad_len (d : List (List Dt)) (n : Nat) : (wpad d n).length = d.length + (n - d.length) := by simp [wpad]
theorem wdata_cut (d : List (List Dt)) (A : Nat) (b : List (List Dt)) : cutD (wdata d A b) A b.length = b := by
  unfold wdata
  by_cases h : b.length = 0
  · rw [if_pos h, h]
    have : b = [] := List.eq_nil_of_length_eq_zero h
    rw [this]
    unfold cutD
    have h0 : ∀ k, minN 0 k = 0 := fun k => by unfold minN; split <;> omega
    rw [h0]
    simp
  · rw [if_neg h]
    have hp := wpad_len d (A + b.length)
    generalize wpad d (A + b.length) = P at hp
    have hle : A + b.length ≤ P.length := by omega
    have hl : (splice P A b).length = P.length := splice_len hle
    unfold cutD
    have hm : minN A (splice P A b).length = A := by unfold minN; rw [if_neg (by omega)]
    have h1 : minN b.length ((splice P A b).length - A) = b.length := by unfold minN; rw [if_neg (by omega)]
    rw [hm, h1, splice, ← List.append_assoc, List.take_left' (by simp; omega), List.drop_left' (by simp; omega)]
theorem wdata_get (d : List (List Dt)) (A : Nat) (b : List (List Dt)) (W : Nat) (h : ¬ (A ≤ W ∧ W < A + b.length)) :
    (∃ x, d[W]? = some x ∧ (wdata d A b)[W]? = some x) ∨ (d[W]? = none ∧ ((wdata d A b)[W]? = none ∨ (wdata d A b)[W]? = some zb)) := by
  unfold wdata
  by_cases h0 : b.length = 0
  · rw [if_pos h0]
    cases hd : d[W]? with
    | some x => exact .inl ⟨x, rfl, rfl⟩
    | none => exact .inr ⟨rfl, .inl rfl⟩
  · rw [if_neg h0]
    have hp := wpad_len d (A + b.length)
    have hle : A + b.length ≤ (wpad d (A + b.length)).length := by omega
    rw [splice_get hle, if_neg h, wpad]
    by_cases hw : W < d.length
    · rw [List.getElem?_append_left hw, List.getElem?_eq_getElem hw]
      exact .inl ⟨_, rfl, rfl⟩
    · rw [List.getElem?_append_right (by omega), List.getElem?_eq_none (by omega), List.getElem?_replicate]
      refine .inr ⟨rfl, ?_⟩
      split
      · exact .inr rfl
      · exact .inl rfl
def byD (l : List Int) : List (List Dt) := l.map fun b => [.val (.int .u8 b)]
theorem numsC_byD : ∀ b : List Int, numsC ((byD b).map fun ds => ds.map .dat) = some b
  | [] => rfl
  | x :: r => by
    have := numsC_byD r
    simp only [byD, List.map_cons, List.map_nil, numsC] at this ⊢
    rw [this]
def objD (d : List (List Dt)) : Obj := ⟨1, d, [], ⟨#[]⟩, 0, [], 0, 0, 0⟩
theorem objArgs (d : List (List Dt)) (x y : CV) : ArgsL [.rv (.agg [.dat (.val (.int .i64 1)), .dat (.sl 1 d), .esl, .dat (.val (.string ⟨#[]⟩)), .dat (.val (.int .i64 0)), .esl, .dat (.val (.int .i64 0)), .dat (.val (.int .i64 0)), .dat (.val (.int .i64 0))]), x, y] [(objD d).cv, x, y] :=
  .agg (.cons (.same _) (.cons (.same _) (.cons (.esl 2) (.cons (.same _) (.cons (.same _) (.cons (.esl 4) (.cons (.same _) (.cons (.same _) (.cons (.same _) .nil))))))))) (.same _ (.same _ .nil))
theorem byD_at {d : List Int} {W : Nat} {x : List Dt} (h : (byD d)[W]? = some x) : ∃ z : Int, x = [.val (.int .u8 z)] := by
  rw [byD, List.getElem?_map] at h
  obtain ⟨z, _, rfl⟩ := Option.map_eq_some_iff.1 h
  exact ⟨z, rfl⟩
def G67 : LC := unW (sndW (sndW (sndW (sndW (sndW (sndW (sndW (sndW c5.code))))))))
theorem readD (d : List (List Dt)) (W : Nat) : readS (objD d).kind (objD d).data (W : Nat) 1 = (cutD d W 1, 0) := by
  rw [readS, if_neg (by simp [objD]), if_neg (by simp [objD]), if_neg (by omega)]
  rfl
set_option maxRecDepth 100000 in
set_option maxHeartbeats 16000000 in
theorem seg67 (d : List Int) (D : List (List Dt)) (W : Nat) (hW : W ≤ 60) (hdl : (byD d).length ≤ 4194304) (hDl : D.length ≤ 4194304)
    (hget : (∃ x, (byD d)[W]? = some x ∧ D[W]? = some x) ∨ (byD d)[W]? = none ∧ (D[W]? = none ∨ D[W]? = some zb)) :
    aw Try.prog 0 G67 (endK Try.prog c5.res (fun r m => r = vBool true))
      ⟨mkE 95 [(3, vInt .i64 (W : Nat)), (9, .rv (.one (.ptr 0 0))), (10, .rv (.one (.ptr 1 0)))],
        [.var [.dat (.val (.int .i64 1)), .dat (.sl 1 (byD d)), .esl, .dat (.val (.string ⟨#[]⟩)), .dat (.val (.int .i64 0)), .esl, .dat (.val (.int .i64 0)), .dat (.val (.int .i64 0)), .dat (.val (.int .i64 0))], .var ((objD D).enc.map .dat)]⟩ := by
  refine acall_le (objArgs (byD d) _ _) (read_ok (objD (byD d)) hdl (W : Nat) 1 (by omega) (by omega) ?_)
  rw [readD]
  refine read_ok (objD D) hDl (W : Nat) 1 (by omega) (by omega) ?_
  rw [readD]
  rw [cut1, cut1]
  rcases hget with ⟨x, h1, h2⟩ | ⟨h1, h2 | h2⟩
  · rw [h1, h2]
    obtain ⟨z, rfl⟩ := byD_at h1
    show vBool _ = vBool true
    simp
  · rw [h1, h2]
    exact rfl
  · rw [h1, h2]
    exact rfl
set_option maxRecDepth 100000 in
set_option maxHeartbeats 16000000 in
theorem writes_body (d b : List Int) (hd : d.length ≤ 1048576) (hb : b.length ≤ 1048576) (at' wh : Int) : body Try.prog c5 [slV 1 (byD d), vInt .i64 at', slV 1 (byD b), vInt .i64 wh] [] (fun r m => r = vBool true) := by
  have hdl : (byD d).length ≤ 4194304 := by rw [byD, List.length_map]; omega
  have hbl : (byD b).length ≤ 4194304 := by rw [byD, List.length_map]; omega
  have hfit : (objD (byD d)).fit := ⟨hdl, by simp [objD], by simp [objD], fun q hq => by simp [objD] at hq⟩
  refine alive5_ok ?_
  refine acall_le (objArgs (byD d) _ _) (write_ok (objD (byD d)) hfit at' (byD b) hbl ?_)
  by_cases h1 : at' < 0
  · have e : writeS (objD (byD d)) at' (byD b) = (nilO, 3) := by
      rw [writeS, if_neg (by simp [objD]), if_neg (by simp [objD]), if_pos h1]
    rw [e]
    exact rfl
  by_cases h2 : at' > 60 ∨ ((byD b).length : Int) > 60 - at'
  · have e : writeS (objD (byD d)) at' (byD b) = (nilO, 15) := by
      rw [writeS, if_neg (by simp [objD]), if_neg (by simp [objD]), if_neg h1, if_pos h2]
    rw [e]
    exact rfl
  obtain ⟨A, rfl⟩ : ∃ A : Nat, at' = A := ⟨at'.toNat, by omega⟩
  have e : writeS (objD (byD d)) (A : Int) (byD b) = (objD (wdata (byD d) A (byD b)), 0) := by
    rw [writeS, if_neg (by simp [objD]), if_neg (by simp [objD]), if_neg h1, if_neg h2]
    rfl
  rw [e]
  have hA : A ≤ 60 := by omega
  refine bB_dec (fun h3 => ?_) (fun h3 => ?_)
  · exact rfl
  refine bB_dec (fun h4 => ?_) (fun h4 => ?_)
  · exact rfl
  have h3 : ¬ wh < 0 := h3
  have h4 : ¬ wh ≥ 60 := h4
  obtain ⟨W, rfl⟩ : ∃ W : Nat, wh = W := ⟨wh.toNat, by omega⟩
  have hbn : ((byD b).length : Int) ≤ 60 - A := by omega
  have hDl : (wdata (byD d) A (byD b)).length ≤ 4194304 := by
    unfold wdata
    split
    · exact hdl
    · have hp := wpad_len (byD d) (A + (byD b).length)
      rw [splice_len (by omega)]
      omega
  have hcut := wdata_cut (byD d) A (byD b)
  have hget := wdata_get (byD d) A (byD b) W
  generalize wdata (byD d) A (byD b) = D at hDl hcut hget
  refine read_ok (objD D) hDl (A : Nat) ((byD b).length : Nat) (by omega) (by omega) ?_
  have e2 : readS (objD D).kind (objD D).data (A : Nat) ((byD b).length : Nat) = (byD b, 0) := by
    rw [readS, if_neg (by simp [objD]), if_neg (by simp [objD]), if_neg (by omega)]
    show (cutD D A (byD b).length, (0 : Int)) = _
    rw [hcut]
  rw [e2]
  refine ok_some (numsC_byD b) ?_
  refine ok_some (numsC_byD b) ?_
  refine bB_no (by simp) ?_
  have view : ∀ e, EnvVw (sg [0, 1] 2) [.var [.dat (.val (.int .i64 1)), .dat (.sl 1 (byD d)), .esl, .dat (.val (.string ⟨#[]⟩)), .dat (.val (.int .i64 0)), .esl, .dat (.val (.int .i64 0)), .dat (.val (.int .i64 0)), .dat (.val (.int .i64 0))], .var ((objD D).enc.map .dat)] (fun k => memN [] k = true) e (mkE 95 [(3, vInt .i64 (W : Nat)), (9, .rv (.one (.ptr 0 0))), (10, .rv (.one (.ptr 1 0)))]) →
      View 0 ⟨e, [.var [.dat (.val (.int .i64 1)), .dat (.sl 1 (byD d)), .esl, .dat (.val (.string ⟨#[]⟩)), .dat (.val (.int .i64 0)), .esl, .dat (.val (.int .i64 0)), .dat (.val (.int .i64 0)), .dat (.val (.int .i64 0))], .var ((objD D).enc.map .dat)]⟩ ⟨mkE 95 [(3, vInt .i64 (W : Nat)), (9, .rv (.one (.ptr 0 0))), (10, .rv (.one (.ptr 1 0)))],
        [.var [.dat (.val (.int .i64 1)), .dat (.sl 1 (byD d)), .esl, .dat (.val (.string ⟨#[]⟩)), .dat (.val (.int .i64 0)), .esl, .dat (.val (.int .i64 0)), .dat (.val (.int .i64 0)), .dat (.val (.int .i64 0))], .var ((objD D).enc.map .dat)]⟩ := fun e he =>
    View.of 2 [0, 1] [] rfl rfl rfl rfl rfl rfl he (.put (notF rfl) rfl (.eq rfl (by simp)) (.put (notF rfl) rfl (.eq rfl (by simp)) (.nil _)))
  refine bB_dec (fun h5 => ?_) (fun h5 => ?_)
  · have h5 : (W : Int) ≥ (A : Int) := h5
    have hw : IntKind.i64.wrap ((W : Int) - (A : Int)) = ((W - A : Nat) : Int) := by
      rw [show (W : Int) - (A : Int) = ((W - A : Nat) : Int) by omega, wrapN (by omega)]
    refine bB_dec (fun h6 => ?_) (fun h6 => ?_)
    · exact rfl
    · have h6 : ¬ IntKind.i64.wrap ((W : Int) - (A : Int)) < ((byD b).length : Int) := h6
      rw [hw] at h6
      refine ⟨_, view _ ?_, seg67 d D W (by omega) hdl hDl (hget (by omega))⟩
      repeat (first | exact .nil | refine .junk ?_ | refine .eq rfl ?_)
  · have h5 : ¬ (W : Int) ≥ (A : Int) := h5
    refine ⟨_, view _ ?_, seg67 d D W (by omega) hdl hDl (hget (by omega))⟩
    repeat (first | exact .nil | refine .junk ?_ | refine .eq rfl ?_)
set_option maxRecDepth 100000 in
theorem writes_ok (d b : List Int) (hd : d.length ≤ 1048576) (hb : b.length ≤ 1048576) (at' wh : Int) : ACall Try.prog 5 [slV 1 (byD d), vInt .i64 at', slV 1 (byD b), vInt .i64 wh] [] (fun r m => r = vBool true) :=
  acall_body_g Try.func5 l5 rfl (Nat.le_of_ble_eq_true rfl) (writes_body d b hd hb at' wh)


end Go.Proofs.Ytecmaolfellofaa
