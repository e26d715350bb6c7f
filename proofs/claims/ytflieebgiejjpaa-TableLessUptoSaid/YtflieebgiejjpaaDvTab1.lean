import Derived.Test.YtflieebgiejjpaaAmR
import Derived.Test.YtflieebgiejjpaaAmU
import Derived.Test.YtflieebgiejjpaaRows
import Derived.Test.YtflieebgiejjpaaAmY
set_option linter.unusedVariables false
set_option linter.unusedSimpArgs false
namespace Go.Proofs.Ytflieebgiejjpaa
open Go.AM Go.ChangeShapes Go.WideShapes Go.ChangeAt Go.RowKit
def c24 : LF := ⟨28, [.cell true 2 4, .tmp 5], (.seq (.reg [
    ⟨(some 4), .alloc [(.dat (.val (.int .i64 (0)))), (.dat (.val (.int .i64 (0))))], none⟩,
    ⟨(some 5), .mov (.c (.rv (.one (.dat (.val (.int .i64 (0))))))), none⟩]) (.seq (.seq (.reg [
    ⟨(some 6), .mov (.t 1), none⟩,
    ⟨(some 7), .bin .lss (.t 6) (.c (.rv (.one (.dat (.val (.int .i64 (0))))))), none⟩,
    ⟨(some 8), .mov (.t 7), none⟩,
    ⟨(some 9), .mov (.t 1), (some (8, false))⟩,
    ⟨(some 10), .mov (.t 0), (some (8, false))⟩,
    ⟨(some 11), .len 1 (.t 10), (some (8, false))⟩,
    ⟨(some 12), .bin .geq (.t 9) (.t 11), (some (8, false))⟩,
    ⟨(some 13), .pick (.t 8) (.c (.rv (.one (.dat (.val (.bool true)))))) (.t 12), none⟩,
    ⟨(some 14), .mov (.t 13), none⟩,
    ⟨(some 15), .mov (.t 0), (some (14, false))⟩,
    ⟨(some 16), .mov (.t 1), (some (14, false))⟩,
    ⟨(some 17), .idx 3 (.t 15) (.t 16), (some (14, false))⟩,
    ⟨(some 18), .fadr 0 (.t 17), (some (14, false))⟩,
    ⟨(some 19), .load false 1 (.t 18), (some (14, false))⟩,
    ⟨(some 20), .un .not (.t 19), (some (14, false))⟩,
    ⟨(some 21), .pick (.t 14) (.c (.rv (.one (.dat (.val (.bool true)))))) (.t 20), none⟩]) (.cond (.t 21) (.seq (.reg [
    ⟨(some 22), .build [(.dat (.val (.int .i64 (0)))), (.dat (.val (.int .i64 (0))))] [], none⟩,
    ⟨none, .store 2 (.t 4) (.t 22), none⟩,
    ⟨(some 5), .mov (.c (.rv (.one (.dat (.val (.int .i64 (6))))))), none⟩]) .ret) .skip)) (.seq (.reg [
    ⟨(some 23), .mov (.t 0), none⟩,
    ⟨(some 24), .mov (.t 1), none⟩,
    ⟨(some 25), .idx 3 (.t 23) (.t 24), none⟩,
    ⟨(some 26), .fadr 1 (.t 25), none⟩,
    ⟨(some 27), .load true 2 (.t 26), none⟩,
    ⟨none, .store 2 (.t 4) (.t 27), none⟩,
    ⟨(some 5), .mov (.c (.rv (.one (.dat (.val (.int .i64 (0))))))), none⟩]) .ret)))⟩
def c25 : LF := ⟨28, [.cell true 2 4, .tmp 5], (.seq (.reg [
    ⟨(some 4), .alloc [(.dat (.val (.int .i64 (0)))), (.dat (.val (.int .i64 (0))))], none⟩,
    ⟨(some 5), .mov (.c (.rv (.one (.dat (.val (.int .i64 (0))))))), none⟩]) (.seq (.seq (.reg [
    ⟨(some 6), .mov (.t 1), none⟩,
    ⟨(some 7), .bin .lss (.t 6) (.c (.rv (.one (.dat (.val (.int .i64 (0))))))), none⟩,
    ⟨(some 8), .mov (.t 7), none⟩,
    ⟨(some 9), .mov (.t 1), (some (8, false))⟩,
    ⟨(some 10), .mov (.t 0), (some (8, false))⟩,
    ⟨(some 11), .len 1 (.t 10), (some (8, false))⟩,
    ⟨(some 12), .bin .geq (.t 9) (.t 11), (some (8, false))⟩,
    ⟨(some 13), .pick (.t 8) (.c (.rv (.one (.dat (.val (.bool true)))))) (.t 12), none⟩,
    ⟨(some 14), .mov (.t 13), none⟩,
    ⟨(some 15), .mov (.t 0), (some (14, false))⟩,
    ⟨(some 16), .mov (.t 1), (some (14, false))⟩,
    ⟨(some 17), .idx 3 (.t 15) (.t 16), (some (14, false))⟩,
    ⟨(some 18), .fadr 0 (.t 17), (some (14, false))⟩,
    ⟨(some 19), .load false 1 (.t 18), (some (14, false))⟩,
    ⟨(some 20), .un .not (.t 19), (some (14, false))⟩,
    ⟨(some 21), .pick (.t 14) (.c (.rv (.one (.dat (.val (.bool true)))))) (.t 20), none⟩]) (.cond (.t 21) (.seq (.reg [
    ⟨(some 22), .build [(.dat (.val (.int .i64 (0)))), (.dat (.val (.int .i64 (0))))] [], none⟩,
    ⟨none, .store 2 (.t 4) (.t 22), none⟩,
    ⟨(some 5), .mov (.c (.rv (.one (.dat (.val (.int .i64 (6))))))), none⟩]) .ret) .skip)) (.seq (.reg [
    ⟨(some 23), .mov (.t 0), none⟩,
    ⟨(some 24), .mov (.t 1), none⟩,
    ⟨(some 25), .idx 3 (.t 23) (.t 24), none⟩,
    ⟨(some 26), .fadr 1 (.t 25), none⟩,
    ⟨(some 27), .load true 2 (.t 26), none⟩,
    ⟨none, .store 2 (.t 4) (.t 27), none⟩,
    ⟨(some 5), .mov (.c (.rv (.one (.dat (.val (.int .i64 (0))))))), none⟩]) .ret)))⟩
def c26 : LF := ⟨44, [.tmp 4, .tmp 5, .tmp 6], (.seq (.reg [
    ⟨(some 3), .box (.t 1), none⟩,
    ⟨(some 4), .mov (.c (.rv (.one .esl))), none⟩,
    ⟨(some 5), .mov (.c (.rv (.one (.dat (.val (.int .i64 (0))))))), none⟩,
    ⟨(some 6), .mov (.c (.rv (.one (.dat (.val (.int .i64 (0))))))), none⟩]) (.seq (.seq (.reg [
    ⟨(some 9), .fadr 1 (.t 3), none⟩,
    ⟨(some 10), .load false 1 (.t 9), none⟩,
    ⟨(some 11), .call (.c (.rv (.one (.fn 82 [])))) [(.t 10)], none⟩,
    ⟨(some 12), .un .not (.t 11), none⟩,
    ⟨(some 13), .mov (.t 12), none⟩,
    ⟨(some 14), .fadr 0 (.t 3), (some (13, false))⟩,
    ⟨(some 15), .load false 1 (.t 14), (some (13, false))⟩,
    ⟨(some 16), .bin .lss (.t 15) (.c (.rv (.one (.dat (.val (.int .i64 (0))))))), (some (13, false))⟩,
    ⟨(some 17), .pick (.t 13) (.c (.rv (.one (.dat (.val (.bool true)))))) (.t 16), none⟩]) (.cond (.t 17) (.seq (.reg [
    ⟨(some 4), .mov (.c (.rv (.one .esl))), none⟩,
    ⟨(some 5), .mov (.c (.rv (.one (.dat (.val (.int .i64 (0))))))), none⟩,
    ⟨(some 6), .mov (.c (.rv (.one (.dat (.val (.int .i64 (3))))))), none⟩]) .ret) .skip)) (.seq (.reg [
    ⟨(some 18), .mov (.t 0), none⟩,
    ⟨(some 19), .call (.c (.rv (.one (.fn 83 [])))) [(.t 18), (.c (.rv (.one (.fn 84 []))))], none⟩,
    ⟨(some 7), .mov (.t 19), none⟩]) (.seq (.seq (.reg [
    ⟨(some 20), .mov (.t 7), none⟩,
    ⟨(some 21), .bin .lss (.t 20) (.c (.rv (.one (.dat (.val (.int .i64 (0))))))), none⟩]) (.cond (.t 21) (.seq (.seq (.reg [
    ⟨(some 22), .mov (.t 0), none⟩,
    ⟨(some 23), .len 1 (.t 22), none⟩,
    ⟨(some 24), .bin .geq (.t 23) (.c (.rv (.one (.dat (.val (.int .i64 (10))))))), none⟩]) (.cond (.t 24) (.seq (.reg [
    ⟨(some 4), .mov (.c (.rv (.one .esl))), none⟩,
    ⟨(some 5), .mov (.c (.rv (.one (.dat (.val (.int .i64 (0))))))), none⟩,
    ⟨(some 6), .mov (.c (.rv (.one (.dat (.val (.int .i64 (15))))))), none⟩]) .ret) .skip)) (.reg [
    ⟨(some 25), .mov (.t 0), none⟩,
    ⟨(some 26), .len 1 (.t 25), none⟩,
    ⟨(some 7), .mov (.t 26), none⟩])) .skip)) (.seq (.reg [
    ⟨(some 27), .mov (.t 0), none⟩,
    ⟨(some 28), .call (.c (.rv (.one (.fn 85 [])))) [(.t 27)], none⟩,
    ⟨(some 8), .mov (.t 28), none⟩]) (.seq (.seq (.reg [
    ⟨(some 29), .mov (.t 7), none⟩,
    ⟨(some 30), .mov (.t 8), none⟩,
    ⟨(some 31), .len 1 (.t 30), none⟩,
    ⟨(some 32), .bin .eql (.t 29) (.t 31), none⟩]) (.cond (.t 32) (.reg [
    ⟨(some 33), .mov (.t 8), none⟩,
    ⟨(some 34), .build [(.dat (.val (.bool false))), (.dat (.val (.int .i64 (0)))), (.dat (.val (.int .i64 (0))))] [], none⟩,
    ⟨(some 35), .bsl 3 [(.dat (.val (.bool false))), (.dat (.val (.int .i64 (0)))), (.dat (.val (.int .i64 (0))))] 1 [(0, (.t 34))], none⟩,
    ⟨(some 36), .app 3 24 (.t 33) (.t 35), none⟩,
    ⟨(some 8), .mov (.t 36), none⟩]) .skip)) (.seq (.reg [
    ⟨(some 37), .mov (.t 8), none⟩,
    ⟨(some 38), .mov (.t 7), none⟩,
    ⟨(some 39), .load true 2 (.t 3), none⟩,
    ⟨(some 40), .build [(.dat (.val (.bool false))), (.dat (.val (.int .i64 (0)))), (.dat (.val (.int .i64 (0))))] [(0, 1, (.c (.rv (.one (.dat (.val (.bool true))))))), (1, 2, (.t 39))], none⟩,
    ⟨(some 41), .idx 3 (.t 37) (.t 38), none⟩,
    ⟨none, .store 3 (.t 41) (.t 40), none⟩]) (.seq (.reg [
    ⟨(some 42), .mov (.t 8), none⟩,
    ⟨(some 43), .mov (.t 7), none⟩,
    ⟨(some 4), .mov (.t 42), none⟩,
    ⟨(some 5), .mov (.t 43), none⟩,
    ⟨(some 6), .mov (.c (.rv (.one (.dat (.val (.int .i64 (0))))))), none⟩]) .ret))))))))⟩
def c30 : LF := ⟨44, [.tmp 4, .tmp 5], (.seq (.reg [
    ⟨(some 4), .mov (.c (.rv (.one .esl))), none⟩,
    ⟨(some 5), .mov (.c (.rv (.one (.dat (.val (.int .i64 (0))))))), none⟩]) (.seq (.seq (.reg [
    ⟨(some 13), .mov (.t 0), none⟩,
    ⟨(some 14), .mov (.t 1), none⟩,
    ⟨(some 15), .call (.c (.rv (.one (.fn 25 [])))) [(.t 13), (.t 14)], none⟩,
    ⟨(some 12), .mov (.t 15), none⟩,
    ⟨(some 16), .ext (.t 12) 0, none⟩,
    ⟨(some 17), .ext (.t 12) 1, none⟩,
    ⟨(some 6), .alloc [(.dat (.val (.int .i64 (0)))), (.dat (.val (.int .i64 (0))))], none⟩,
    ⟨none, .store 2 (.t 6) (.t 16), none⟩,
    ⟨(some 7), .mov (.t 17), none⟩]) (.seq (.reg [
    ⟨(some 18), .mov (.t 7), none⟩,
    ⟨(some 19), .bin .neq (.t 18) (.c (.rv (.one (.dat (.val (.int .i64 (0))))))), none⟩]) (.cond (.t 19) (.seq (.reg [
    ⟨(some 20), .mov (.t 7), none⟩,
    ⟨(some 4), .mov (.c (.rv (.one .esl))), none⟩,
    ⟨(some 5), .mov (.t 20), none⟩]) .ret) .skip))) (.seq (.reg [
    ⟨(some 8), .mov (.c (.rv (.one .esl))), none⟩]) (.seq (.reg [
    ⟨(some 9), .mov (.c (.rv (.one (.dat (.val (.int .i64 (0))))))), none⟩]) (.seq (.seq (.reg [
    ⟨(some 21), .mov (.t 0), none⟩,
    ⟨(some 22), .len 1 (.t 21), none⟩,
    ⟨(some 23), .mov (.c (.rv (.one (.dat (.val (.int .i64 (0))))))), none⟩]) (.block 0 (.loop (.seq (.reg [
    ⟨(some 24), .bin .lss (.t 23) (.t 22), none⟩]) (.seq (.cond (.t 24) .skip (.exit 0)) (.seq (.block 1 (.seq (.reg [
    ⟨(some 25), .mov (.t 23), none⟩,
    ⟨(some 26), .idx 3 (.t 21) (.t 23), none⟩,
    ⟨(some 27), .load true 3 (.t 26), none⟩,
    ⟨(some 11), .alloc [(.dat (.val (.bool false))), (.dat (.val (.int .i64 (0)))), (.dat (.val (.int .i64 (0))))], none⟩,
    ⟨(some 10), .mov (.t 25), none⟩,
    ⟨none, .store 3 (.t 11) (.t 27), none⟩]) (.seq (.seq (.reg [
    ⟨(some 28), .mov (.t 10), none⟩,
    ⟨(some 29), .mov (.t 1), none⟩,
    ⟨(some 30), .bin .eql (.t 28) (.t 29), none⟩]) (.cond (.t 30) (.reg [
    ⟨(some 31), .build [(.dat (.val (.bool false))), (.dat (.val (.int .i64 (0)))), (.dat (.val (.int .i64 (0))))] [], none⟩,
    ⟨none, .store 3 (.t 11) (.t 31), none⟩]) .skip)) (.seq (.reg [
    ⟨(some 32), .mov (.t 8), none⟩,
    ⟨(some 33), .load true 3 (.t 11), none⟩,
    ⟨(some 34), .bsl 3 [(.dat (.val (.bool false))), (.dat (.val (.int .i64 (0)))), (.dat (.val (.int .i64 (0))))] 1 [(0, (.t 33))], none⟩,
    ⟨(some 35), .app 3 24 (.t 32) (.t 34), none⟩,
    ⟨(some 8), .mov (.t 35), none⟩]) (.seq (.reg [
    ⟨(some 36), .fadr 0 (.t 11), none⟩,
    ⟨(some 37), .load false 1 (.t 36), none⟩]) (.cond (.t 37) (.reg [
    ⟨(some 38), .mov (.t 10), none⟩,
    ⟨(some 39), .bin .add (.t 38) (.c (.rv (.one (.dat (.val (.int .i64 (1))))))), none⟩,
    ⟨(some 9), .mov (.t 39), none⟩]) .skip)))))) (.reg [
    ⟨(some 40), .bin .add (.t 23) (.c (.rv (.one (.dat (.val (.int .i64 (1))))))), none⟩,
    ⟨(some 23), .mov (.t 40), none⟩]))))))) (.seq (.reg [
    ⟨(some 41), .mov (.t 8), none⟩,
    ⟨(some 42), .mov (.t 9), none⟩,
    ⟨(some 43), .slc 3 (.t 41) none (some (.t 42)) none, none⟩,
    ⟨(some 4), .mov (.t 43), none⟩,
    ⟨(some 5), .mov (.c (.rv (.one (.dat (.val (.int .i64 (0))))))), none⟩]) .ret))))))⟩
def c34 : LF := ⟨24, [.tmp 4, .tmp 5, .tmp 6], (.seq (.reg [
    ⟨(some 4), .mov (.c (.rv (.one .esl))), none⟩,
    ⟨(some 5), .mov (.c (.rv (.one (.dat (.val (.int .i64 (0))))))), none⟩,
    ⟨(some 6), .mov (.c (.rv (.one (.dat (.val (.int .i64 (0))))))), none⟩]) (.seq (.reg [
    ⟨(some 10), .mov (.t 0), none⟩,
    ⟨(some 11), .mov (.t 1), none⟩,
    ⟨(some 12), .call (.c (.rv (.one (.fn 24 [])))) [(.t 10), (.t 11)], none⟩,
    ⟨(some 9), .mov (.t 12), none⟩,
    ⟨(some 13), .ext (.t 9) 0, none⟩,
    ⟨(some 14), .ext (.t 9) 1, none⟩,
    ⟨(some 7), .alloc [(.dat (.val (.int .i64 (0)))), (.dat (.val (.int .i64 (0))))], none⟩,
    ⟨none, .store 2 (.t 7) (.t 13), none⟩,
    ⟨(some 8), .mov (.t 14), none⟩]) (.seq (.seq (.reg [
    ⟨(some 15), .mov (.t 8), none⟩,
    ⟨(some 16), .bin .neq (.t 15) (.c (.rv (.one (.dat (.val (.int .i64 (0))))))), none⟩]) (.cond (.t 16) (.seq (.reg [
    ⟨(some 17), .mov (.t 8), none⟩,
    ⟨(some 4), .mov (.c (.rv (.one .esl))), none⟩,
    ⟨(some 5), .mov (.c (.rv (.one (.dat (.val (.int .i64 (0))))))), none⟩,
    ⟨(some 6), .mov (.t 17), none⟩]) .ret) .skip)) (.seq (.reg [
    ⟨(some 18), .mov (.t 0), none⟩,
    ⟨(some 19), .load true 2 (.t 7), none⟩,
    ⟨(some 20), .call (.c (.rv (.one (.fn 26 [])))) [(.t 18), (.t 19)], none⟩,
    ⟨(some 21), .ext (.t 20) 0, none⟩,
    ⟨(some 22), .ext (.t 20) 1, none⟩,
    ⟨(some 23), .ext (.t 20) 2, none⟩,
    ⟨(some 4), .mov (.t 21), none⟩,
    ⟨(some 5), .mov (.t 22), none⟩,
    ⟨(some 6), .mov (.t 23), none⟩]) .ret))))⟩
def c37 : LF := ⟨28, [.cell true 2 6, .tmp 7], (.seq (.reg [
    ⟨(some 6), .alloc [(.dat (.val (.int .i64 (0)))), (.dat (.val (.int .i64 (0))))], none⟩,
    ⟨(some 7), .mov (.c (.rv (.one (.dat (.val (.int .i64 (0))))))), none⟩]) (.seq (.reg [
    ⟨(some 11), .mov (.t 0), none⟩,
    ⟨(some 12), .mov (.t 1), none⟩,
    ⟨(some 13), .call (.c (.rv (.one (.fn 24 [])))) [(.t 11), (.t 12)], none⟩,
    ⟨(some 10), .mov (.t 13), none⟩,
    ⟨(some 14), .ext (.t 10) 0, none⟩,
    ⟨(some 15), .ext (.t 10) 1, none⟩,
    ⟨(some 8), .alloc [(.dat (.val (.int .i64 (0)))), (.dat (.val (.int .i64 (0))))], none⟩,
    ⟨none, .store 2 (.t 8) (.t 14), none⟩,
    ⟨(some 9), .mov (.t 15), none⟩]) (.seq (.seq (.reg [
    ⟨(some 16), .mov (.t 9), none⟩,
    ⟨(some 17), .bin .eql (.t 16) (.c (.rv (.one (.dat (.val (.int .i64 (0))))))), none⟩,
    ⟨(some 18), .mov (.t 17), none⟩,
    ⟨(some 19), .mov (.t 2), (some (18, true))⟩,
    ⟨(some 20), .fadr 1 (.t 8), (some (18, true))⟩,
    ⟨(some 21), .load false 1 (.t 20), (some (18, true))⟩,
    ⟨(some 22), .call (.c (.rv (.one (.fn 86 [])))) [(.t 19), (.t 21)], (some (18, true))⟩,
    ⟨(some 23), .un .not (.t 22), (some (18, true))⟩,
    ⟨(some 24), .pick (.t 18) (.t 23) (.c (.rv (.one (.dat (.val (.bool false)))))), none⟩]) (.cond (.t 24) (.seq (.reg [
    ⟨(some 25), .build [(.dat (.val (.int .i64 (0)))), (.dat (.val (.int .i64 (0))))] [], none⟩,
    ⟨none, .store 2 (.t 6) (.t 25), none⟩,
    ⟨(some 7), .mov (.c (.rv (.one (.dat (.val (.int .i64 (10))))))), none⟩]) .ret) .skip)) (.seq (.reg [
    ⟨(some 26), .load true 2 (.t 8), none⟩,
    ⟨(some 27), .mov (.t 9), none⟩,
    ⟨none, .store 2 (.t 6) (.t 26), none⟩,
    ⟨(some 7), .mov (.t 27), none⟩]) .ret))))⟩
def c82 : LF := ⟨9, [.tmp 2], (.seq (.reg [
    ⟨(some 2), .mov (.c (.rv (.one (.dat (.val (.bool false)))))), none⟩]) (.seq (.reg [
    ⟨(some 3), .mov (.t 0), none⟩,
    ⟨(some 4), .bin .geq (.t 3) (.c (.rv (.one (.dat (.val (.int .i64 (0))))))), none⟩,
    ⟨(some 5), .mov (.t 4), none⟩,
    ⟨(some 6), .mov (.t 0), (some (5, true))⟩,
    ⟨(some 7), .bin .leq (.t 6) (.c (.rv (.one (.dat (.val (.int .i64 (4095))))))), (some (5, true))⟩,
    ⟨(some 8), .pick (.t 5) (.t 7) (.c (.rv (.one (.dat (.val (.bool false)))))), none⟩,
    ⟨(some 2), .mov (.t 8), none⟩]) .ret))⟩
def c83 : LF := ⟨19, [.tmp 4], (.seq (.reg [
    ⟨(some 4), .mov (.c (.rv (.one (.dat (.val (.int .i64 (0))))))), none⟩]) (.seq (.seq (.reg [
    ⟨(some 6), .mov (.t 0), none⟩,
    ⟨(some 7), .len 1 (.t 6), none⟩,
    ⟨(some 8), .mov (.c (.rv (.one (.dat (.val (.int .i64 (0))))))), none⟩]) (.block 0 (.loop (.seq (.reg [
    ⟨(some 9), .bin .lss (.t 8) (.t 7), none⟩]) (.seq (.cond (.t 9) .skip (.exit 0)) (.seq (.block 1 (.seq (.reg [
    ⟨(some 10), .mov (.t 8), none⟩,
    ⟨(some 5), .mov (.t 10), none⟩]) (.seq (.reg [
    ⟨(some 11), .mov (.t 1), none⟩,
    ⟨(some 12), .mov (.t 0), none⟩,
    ⟨(some 13), .mov (.t 5), none⟩,
    ⟨(some 14), .idx 3 (.t 12) (.t 13), none⟩,
    ⟨(some 15), .load true 3 (.t 14), none⟩,
    ⟨(some 16), .call (.t 11) [(.t 15)], none⟩]) (.cond (.t 16) (.seq (.reg [
    ⟨(some 17), .mov (.t 5), none⟩,
    ⟨(some 4), .mov (.t 17), none⟩]) .ret) .skip)))) (.reg [
    ⟨(some 18), .bin .add (.t 8) (.c (.rv (.one (.dat (.val (.int .i64 (1))))))), none⟩,
    ⟨(some 8), .mov (.t 18), none⟩]))))))) (.seq (.reg [
    ⟨(some 4), .mov (.c (.rv (.one (.dat (.val (.int .i64 (-1))))))), none⟩]) .ret)))⟩
def c84 : LF := ⟨6, [.tmp 2], (.seq (.reg [
    ⟨(some 1), .box (.t 0), none⟩,
    ⟨(some 2), .mov (.c (.rv (.one (.dat (.val (.bool false)))))), none⟩]) (.seq (.reg [
    ⟨(some 3), .fadr 0 (.t 1), none⟩,
    ⟨(some 4), .load false 1 (.t 3), none⟩,
    ⟨(some 5), .un .not (.t 4), none⟩,
    ⟨(some 2), .mov (.t 5), none⟩]) .ret))⟩
def c85 : LF := ⟨8, [.tmp 2], (.seq (.reg [
    ⟨(some 2), .mov (.c (.rv (.one .esl))), none⟩]) (.seq (.seq (.reg [
    ⟨(some 3), .mov (.t 0), none⟩,
    ⟨(some 4), .snil false (.t 3), none⟩]) (.cond (.t 4) (.seq (.reg [
    ⟨(some 2), .mov (.c (.rv (.one .esl))), none⟩]) .ret) .skip)) (.seq (.reg [
    ⟨(some 5), .bsl 3 [(.dat (.val (.bool false))), (.dat (.val (.int .i64 (0)))), (.dat (.val (.int .i64 (0))))] 0 [], none⟩,
    ⟨(some 6), .mov (.t 0), none⟩,
    ⟨(some 7), .app 3 24 (.t 5) (.t 6), none⟩,
    ⟨(some 2), .mov (.t 7), none⟩]) .ret)))⟩
def c86 : LF := ⟨9, [.tmp 4], (.seq (.reg [
    ⟨(some 4), .mov (.c (.rv (.one (.dat (.val (.bool false)))))), none⟩]) (.seq (.reg [
    ⟨(some 5), .mov (.t 0), none⟩,
    ⟨(some 6), .mov (.t 1), none⟩,
    ⟨(some 7), .bin .andNot (.t 5) (.t 6), none⟩,
    ⟨(some 8), .bin .eql (.t 7) (.c (.rv (.one (.dat (.val (.int .i64 (0))))))), none⟩,
    ⟨(some 4), .mov (.t 8), none⟩]) .ret))⟩
def c87 : LF := ⟨17, [.cell true 12 2], (.seq (.reg [
    ⟨(some 2), .alloc [(.dat (.val (.bool false))), (.dat (.val (.bool false))), (.dat (.val (.bool false))), (.dat (.val (.bool false))), (.dat (.val (.bool false))), (.dat (.val (.bool false))), (.dat (.val (.bool false))), (.dat (.val (.bool false))), (.dat (.val (.bool false))), (.dat (.val (.bool false))), (.dat (.val (.bool false))), (.dat (.val (.bool false)))], none⟩]) (.seq (.reg [
    ⟨(some 3), .alloc [(.dat (.val (.bool false))), (.dat (.val (.bool false))), (.dat (.val (.bool false))), (.dat (.val (.bool false))), (.dat (.val (.bool false))), (.dat (.val (.bool false))), (.dat (.val (.bool false))), (.dat (.val (.bool false))), (.dat (.val (.bool false))), (.dat (.val (.bool false))), (.dat (.val (.bool false))), (.dat (.val (.bool false)))], none⟩]) (.seq (.seq (.reg [
    ⟨(some 5), .mov (.c (.rv (.one (.dat (.val (.int .i64 (0))))))), none⟩]) (.block 0 (.loop (.seq (.reg [
    ⟨(some 6), .bin .lss (.t 5) (.c (.rv (.one (.dat (.val (.int .i64 (12))))))), none⟩]) (.seq (.cond (.t 6) .skip (.exit 0)) (.seq (.block 1 (.seq (.reg [
    ⟨(some 7), .mov (.t 5), none⟩,
    ⟨(some 4), .mov (.t 7), none⟩]) (.seq (.reg [
    ⟨(some 8), .mov (.t 4), none⟩,
    ⟨(some 9), .mov (.t 0), none⟩,
    ⟨(some 10), .bin .rem (.t 9) (.c (.rv (.one (.dat (.val (.int .i64 (2))))))), none⟩,
    ⟨(some 11), .bin .eql (.t 10) (.c (.rv (.one (.dat (.val (.int .i64 (1))))))), none⟩,
    ⟨(some 12), .idxa 12 1 (.t 3) (.t 8), none⟩,
    ⟨none, .store 1 (.t 12) (.t 11), none⟩]) (.reg [
    ⟨(some 13), .mov (.t 0), none⟩,
    ⟨(some 14), .bin .quo (.t 13) (.c (.rv (.one (.dat (.val (.int .i64 (2))))))), none⟩,
    ⟨(some 0), .mov (.t 14), none⟩])))) (.reg [
    ⟨(some 15), .bin .add (.t 5) (.c (.rv (.one (.dat (.val (.int .i64 (1))))))), none⟩,
    ⟨(some 5), .mov (.t 15), none⟩]))))))) (.seq (.reg [
    ⟨(some 16), .load true 12 (.t 3), none⟩,
    ⟨none, .store 12 (.t 2) (.t 16), none⟩]) .ret))))⟩
structure Cap where
  opn : Int
  rts : Int
deriving DecidableEq
structure Slot where
  has : Bool
  cap : Cap
deriving DecidableEq
def Slot.enc (s : Slot) : List Dt := [.val (.bool s.has), .val (.int .i64 s.cap.opn), .val (.int .i64 s.cap.rts)]
def slotsD (l : List Slot) : Dt := .sl 3 (l.map Slot.enc)
def slotsV (l : List Slot) : CV := .rv (.one (.dat (slotsD l)))
def Cap.rv (c : Cap) : RV := .agg [.dat (.val (.int .i64 c.opn)), .dat (.val (.int .i64 c.rts))]
def iRV (n : Int) : RV := .one (.dat (.val (.int .i64 n)))

theorem l24 : lowF Try.prog Try.f24 = some c24 := by kernel_rfl
def getS (l : List Slot) (fd : Int) : Cap × Int :=
  match (if 0 ≤ fd then l[fd.toNat]? else none) with
  | some s => if s.has then (s.cap, 0) else (⟨0, 0⟩, 6)
  | none => (⟨0, 0⟩, 6)
set_option maxRecDepth 100000 in
theorem get_body (l : List Slot) (fd : Int) : body Try.prog c24 [slotsV l, vInt .i64 fd] [] (fun r m => r = .tup [(getS l fd).1.rv, iRV (getS l fd).2]) := by
  refine bB_split (fun h => ?_) (fun h => ?_)
  · have h : fd < 0 := of_decide_eq_true h
    show CV.tup _ = CV.tup _
    rw [getS, if_neg (by omega)]; rfl
  · have h : ¬ fd < 0 := of_decide_eq_false h
    refine bB_split (fun h2 => ?_) (fun h2 => ?_)
    · have h2 : fd ≥ ((l.map Slot.enc).length : Int) := of_decide_eq_true h2
      simp at h2
      show CV.tup _ = CV.tup _
      rw [getS, if_pos (by omega), List.getElem?_eq_none (by omega)]; rfl
    · have h2 : ¬ fd ≥ ((l.map Slot.enc).length : Int) := of_decide_eq_false h2
      simp at h2
      have hlt : fd.toNat < l.length := by omega
      have hg : getZ (l.map Slot.enc) fd = some (l[fd.toNat].enc) := by
        rw [getZ_eq, if_pos (by omega), List.getElem?_map, List.getElem?_eq_getElem hlt]; rfl
      have hs : getS l fd = if l[fd.toNat].has then (l[fd.toNat].cap, 0) else (⟨0, 0⟩, 6) := by
        rw [getS, if_pos (by omega), List.getElem?_eq_getElem hlt]
      refine ok_some hg ?_
      refine bB_split (fun h3 => ?_) (fun h3 => ?_)
      · have h3 : l[fd.toNat].has = false := by simpa using h3
        show CV.tup _ = CV.tup _
        rw [hs, h3]; rfl
      · have h3 : l[fd.toNat].has = true := by simpa using h3
        refine ok_some hg ?_
        show CV.tup _ = CV.tup _
        rw [hs, h3]; rfl
theorem get_ok (l : List Slot) (fd : Int) {m : Mem} {K : CV → Mem → Prop} (h : K (.tup [(getS l fd).1.rv, iRV (getS l fd).2]) m) : ACall Try.prog 24 [slotsV l, vInt .i64 fd] m K :=
  acall_val Try.func24 l24 rfl (Nat.le_of_ble_eq_true rfl) (get_body l fd) rfl rfl h

theorem l85 : lowF Try.prog Try.f85 = some c85 := by kernel_rfl
set_option maxRecDepth 100000 in
theorem clone_body (l : List Slot) (hb : l.length ≤ 2097152) : body Try.prog c85 [slotsV l] [] (fun r m => FrzV m r (slotsV l)) := by
  have big : ((([] : List (List CC)).length + ((l.map Slot.enc).map fun ds => ds.map CC.dat).length) * 24) ≤ 140737488355328 := by simp; omega
  have fr : ∀ m : Mem, m[1]? = some (.row 3 ([] ++ ((l.map Slot.enc).map fun ds => ds.map CC.dat))) → FrzV m (.rv (.one (.row 1 3 0 none))) (slotsV l) := fun m hm =>
    .rv (.one (FrzC.rowD (by simpa using hm) 0 none))
  refine bB_split (fun h => ?_) (fun h => ?_)
  · have hl : l = [] := List.eq_nil_of_length_eq_zero (by simpa using Nat.eq_of_beq_eq_true h)
    refine ⟨?_, ?_⟩
    · show FrzV _ (.rv (.one .esl)) (slotsV l)
      rw [hl]
      exact .rv (.one (.esl 3))
    · refine ⟨big, ?_⟩
      exact fr _ rfl
  · refine ⟨big, ?_⟩
    exact fr _ rfl
theorem clone_ok (l : List Slot) (hb : l.length ≤ 2097152) {m : Mem} {K : CV → Mem → Prop} (h : K (slotsV l) m) : ACall Try.prog 85 [slotsV l] m K :=
  acall_frame (acall_body Try.func85 l85 rfl (Nat.le_of_ble_eq_true rfl) (clone_body l hb)) (by simp [slotsV, CV.isD, CC.isD]) fun r m1 hf => ⟨_, hf, h⟩

theorem l82 : lowF Try.prog Try.f82 = some c82 := by kernel_rfl
theorem l83 : lowF Try.prog Try.f83 = some c83 := by kernel_rfl
theorem l84 : lowF Try.prog Try.f84 = some c84 := by kernel_rfl
def rightB (n : Int) : Bool := decide (n ≥ 0) && decide (n ≤ 4095)
set_option maxRecDepth 100000 in
theorem right_body (n : Int) : body Try.prog c82 [vInt .i64 n] [] (fun r m => r = vBool (rightB n)) := by
  refine bB_split (fun h => ?_) (fun h => ?_)
  · show vBool _ = vBool _
    unfold rightB; rw [h]; rfl
  · show vBool _ = vBool _
    unfold rightB; rw [h]; rfl
theorem right_ok (n : Int) {m : Mem} {K : CV → Mem → Prop} (h : K (vBool (rightB n)) m) : ACall Try.prog 82 [vInt .i64 n] m K :=
  acall_val Try.func82 l82 rfl (Nat.le_of_ble_eq_true rfl) (right_body n) rfl rfl h
def Slot.cv (s : Slot) : CV := .rv (.agg (s.enc.map .dat))
set_option maxRecDepth 100000 in
theorem free_body (s : Slot) : body Try.prog c84 [s.cv] [] (fun r m => r = vBool (!s.has)) := by
  show vBool _ = vBool _
  rfl
theorem free_ok (s : Slot) {m : Mem} {K : CV → Mem → Prop} (h : K (vBool (!s.has)) m) : ACall Try.prog 84 [s.cv] m K :=
  acall_val Try.func84 l84 rfl (Nat.le_of_ble_eq_true rfl) (free_body s) rfl rfl h
def idxOf {α : Type} (p : α → Bool) (l : List α) : Int := match l.findIdx? p with | some i => (i : Int) | none => -1
set_option maxRecDepth 100000 in
set_option maxHeartbeats 1000000 in
theorem index_body (l : List Slot) (hb : l.length ≤ 2097152) (f : Nat) (p : Slot → Bool) (hf : ∀ (s : Slot) (m : Mem) (K : CV → Mem → Prop), K (vBool (p s)) m → ACall Try.prog f [s.cv] m K) :
    body Try.prog c83 [slotsV l, .rv (.one (.fn f []))] [] (fun r m => r = vInt .i64 (idxOf p l)) := by
  refine loop_upd (fun k => k ≤ l.length ∧ ∀ (i : Nat) s, i < k → l[i]? = some s → p s = false) (fun k => [(8, vInt .i64 (k : Nat)), (5, .junk), (9, .junk), (10, .junk), (11, .junk), (12, .junk), (13, .junk), (14, .junk), (15, .junk), (16, .junk), (17, .junk), (18, .junk)])
    (fun _ => []) (fun k => l.length - k) 0 ⟨Nat.zero_le _, fun i s h => absurd h (Nat.not_lt_zero i)⟩ (weak_env (Nat.zero_le _) ?_) (fun k hk => ?_)
  · repeat (first | exact .nil | refine .junk ?_ | refine .keep ?_)
  · refine bB_split (fun h => ?_) (fun h => ?_)
    · have hlt : k < l.length := by
        have h : (k : Int) < ((l.map Slot.enc).length : Int) := of_decide_eq_true h
        simp at h
        omega
      have hg : getZ (l.map Slot.enc) (k : Nat) = some (l[k].enc) := by
        rw [getZ_nat, List.getElem?_map, List.getElem?_eq_getElem hlt]; rfl
      refine ok_some hg ?_
      refine hf l[k] _ _ ?_
      refine bB_split (fun h3 => ?_) (fun h3 => ?_)
      · show vInt _ _ = vInt _ _
        have : l.findIdx? p = some k := by
          rw [List.findIdx?_eq_some_iff_getElem]
          refine ⟨hlt, h3, fun j hj => ?_⟩
          have := hk.2 j l[j] hj (List.getElem?_eq_getElem (by omega))
          simp [this]
        rw [idxOf, this]
      · refine ⟨k + 1, ⟨hlt, fun i s hi hs => ?_⟩, ?_, weak_env (Nat.zero_le _) ?_⟩
        · rcases Nat.lt_or_ge i k with h5 | h5
          · exact hk.2 i s h5 hs
          · have : i = k := by omega
            subst this
            rw [List.getElem?_eq_getElem hlt] at hs
            cases hs
            exact h3
        · show l.length - (k + 1) < l.length - k
          omega
        · repeat (first | exact .nil | refine .junk ?_ | refine .put (next_i64 (by omega)) ?_ | refine .keep ?_)
    · have hge : ¬ (k : Int) < ((l.map Slot.enc).length : Int) := of_decide_eq_false h
      simp at hge
      show vInt _ _ = vInt _ _
      have : l.findIdx? p = none := by
        rw [List.findIdx?_eq_none_iff]
        intro s hs
        obtain ⟨i, hi⟩ := List.getElem?_of_mem hs
        have := (List.getElem?_eq_some_iff.1 hi).1
        simpa using hk.2 i s (by omega) hi
      rw [idxOf, this]
theorem index_ok (l : List Slot) (hb : l.length ≤ 2097152) (f : Nat) (p : Slot → Bool) (hf : ∀ (s : Slot) (m : Mem) (K : CV → Mem → Prop), K (vBool (p s)) m → ACall Try.prog f [s.cv] m K) {m : Mem} {K : CV → Mem → Prop}
    (h : K (vInt .i64 (idxOf p l)) m) : ACall Try.prog 83 [slotsV l, .rv (.one (.fn f []))] m K :=
  acall_val Try.func83 l83 rfl (Nat.le_of_ble_eq_true rfl) (index_body l hb f p hf) rfl rfl h

def slotRows (l : List Slot) : List (List CC) := (l.map Slot.enc).map fun ds => ds.map CC.dat
set_option maxRecDepth 100000 in
theorem clone_body2 (l : List Slot) (hb : l.length ≤ 2097152) : body Try.prog c85 [slotsV l] [] (fun r m => (l = [] ∧ r = .rv (.one .esl)) ∨ (r = .rv (.one (.row 1 3 0 none)) ∧ m[1]? = some (.row 3 ([] ++ slotRows l)))) := by
  have big : ((([] : List (List CC)).length + ((l.map Slot.enc).map fun ds => ds.map CC.dat).length) * 24) ≤ 140737488355328 := by simp; omega
  refine bB_split (fun h => ?_) (fun h => ?_)
  · have hl : l = [] := List.eq_nil_of_length_eq_zero (by simpa using Nat.eq_of_beq_eq_true h)
    exact ⟨.inl ⟨hl, rfl⟩, big, .inr ⟨rfl, rfl⟩⟩
  · exact ⟨big, .inr ⟨rfl, rfl⟩⟩
theorem clone_row (l : List Slot) (hb : l.length ≤ 2097152) {m : Mem} {K : CV → Mem → Prop} (h1 : l = [] → K (.rv (.one .esl)) m) (h2 : K (.rv (.one (.row m.length 3 0 none))) (m ++ [.row 3 (slotRows l)])) :
    ACall Try.prog 85 [slotsV l] m K := by
  refine acall_row (acall_body Try.func85 l85 rfl (Nat.le_of_ble_eq_true rfl) (clone_body2 l hb)) (by simp [slotsV, CV.isD, CC.isD]) fun r m1 hr => ?_
  rcases hr with ⟨hl, rfl⟩ | ⟨rfl, hm⟩
  · exact .inl ⟨rfl, h1 hl⟩
  · refine .inr ⟨1, 3, slotRows l, rfl, by simpa using hm, fun cs hcs c hc => ?_, fun i cs j d hi hj => ?_, h2⟩
    · simp only [slotRows, List.mem_map] at hcs
      obtain ⟨ds, ⟨s, _, rfl⟩, rfl⟩ := hcs
      obtain ⟨d, _, rfl⟩ := List.mem_map.1 hc
      exact ⟨d, rfl⟩
    · have hcs := List.mem_of_getElem? hi
      simp only [slotRows, List.mem_map] at hcs
      obtain ⟨ds, ⟨s, _, rfl⟩, rfl⟩ := hcs
      have hd := List.mem_of_getElem? hj
      simp only [Slot.enc, List.map_cons, List.map_nil, List.mem_cons, CC.dat.injEq, List.not_mem_nil, or_false] at hd
      rcases hd with rfl | rfl | rfl <;> exact ⟨_, rfl⟩

theorem l26 : lowF Try.prog Try.f26 = some c26 := by kernel_rfl
def putAt (l : List Slot) (c : Cap) (k : Nat) : List Slot := if k < l.length then l.set k ⟨true, c⟩ else l ++ [⟨true, c⟩]
def Cap.cv (c : Cap) : CV := .rv c.rv
set_option maxRecDepth 100000 in
set_option maxHeartbeats 1000000 in
/-- what Put answers -/
def putS (l : List Slot) (c : Cap) : List Slot × Int × Int :=
  if rightB c.rts = false ∨ c.opn < 0 then ([], 0, 3) else
  match l.findIdx? (fun s => !s.has) with
  | some k => (l.set k ⟨true, c⟩, k, 0)
  | none => if l.length ≥ 10 then ([], 0, 15) else (l ++ [⟨true, c⟩], l.length, 0)
def slotsR (l : List Slot) : RV := .one (.dat (slotsD l))
theorem frz3 {m : Mem} {a b : RV} {x y : Int} (h : FrzR m a b) : FrzV m (.tup [a, iRV x, iRV y]) (.tup [b, iRV x, iRV y]) := by
  refine .tup rfl fun i r r' h1 h2 => ?_
  match i, h1, h2 with
  | 0, h1, h2 => cases h1; cases h2; exact h
  | 1, h1, h2 => cases h1; cases h2; exact FrzR.self rfl
  | 2, h1, h2 => cases h1; cases h2; exact FrzR.self rfl
theorem put_bad {l : List Slot} {c : Cap} {m : Mem} (h : rightB c.rts = false ∨ c.opn < 0) : FrzV m (.tup [.one .esl, iRV 0, iRV 3]) (.tup [slotsR (putS l c).1, iRV (putS l c).2.1, iRV (putS l c).2.2]) := by
  rw [putS, if_pos h]; exact frz3 (.one (.esl 3))
theorem put_full {l : List Slot} {c : Cap} {m : Mem} (h : ¬ (rightB c.rts = false ∨ c.opn < 0)) (hk : l.findIdx? (fun s => !s.has) = none) (hl : l.length ≥ 10) :
    FrzV m (.tup [.one .esl, iRV 0, iRV 15]) (.tup [slotsR (putS l c).1, iRV (putS l c).2.1, iRV (putS l c).2.2]) := by
  rw [putS, if_neg h, hk]; simp only; rw [if_pos hl]; exact frz3 (.one (.esl 3))
theorem put_new {l : List Slot} {c : Cap} {m : Mem} {id : Nat} (h : ¬ (rightB c.rts = false ∨ c.opn < 0)) (hk : l.findIdx? (fun s => !s.has) = none) (hl : ¬ l.length ≥ 10) (hm : m[id]? = some (.row 3 (slotRows (l ++ [⟨true, c⟩])))) :
    FrzV m (.tup [.one (.row id 3 0 none), iRV ((l.map Slot.enc).length : Nat), iRV 0]) (.tup [slotsR (putS l c).1, iRV (putS l c).2.1, iRV (putS l c).2.2]) := by
  rw [putS, if_neg h, hk, List.length_map]; simp only; rw [if_neg hl]; exact frz3 (.one (FrzC.rowD hm 0 none))
theorem put_old {l : List Slot} {c : Cap} {m : Mem} {id k : Nat} (h : ¬ (rightB c.rts = false ∨ c.opn < 0)) (hk : l.findIdx? (fun s => !s.has) = some k) (hm : m[id]? = some (.row 3 (slotRows (l.set k ⟨true, c⟩)))) :
    FrzV m (.tup [.one (.row id 3 0 none), iRV k, iRV 0]) (.tup [slotsR (putS l c).1, iRV (putS l c).2.1, iRV (putS l c).2.2]) := by
  rw [putS, if_neg h, hk]; exact frz3 (.one (FrzC.rowD hm 0 none))

set_option maxRecDepth 100000 in
set_option maxHeartbeats 2000000 in
theorem put_body (l : List Slot) (hb : l.length ≤ 2097152) (c : Cap) : body Try.prog c26 [slotsV l, .rv c.rv] [] (fun r m => FrzV m r (.tup [slotsR (putS l c).1, iRV (putS l c).2.1, iRV (putS l c).2.2])) := by
  refine right_ok c.rts ?_
  refine bB_split (fun h => ?_) (fun hr => ?_)
  · exact put_bad (.inl (by simpa using h))
  · refine bB_split (fun h => ?_) (fun ho => ?_)
    · exact put_bad (.inr (of_decide_eq_true h))
    · have hok : ¬ (rightB c.rts = false ∨ c.opn < 0) := by
        have := of_decide_eq_false ho
        simp at hr
        simp [hr]
        omega
      refine index_ok l hb 84 (fun s => !s.has) (fun s m K h => free_ok s h) ?_
      cases hk : l.findIdx? (fun s => !s.has) with
      | none =>
        have hi : idxOf (fun s : Slot => !s.has) l = -1 := by rw [idxOf, hk]
        rw [hi]
        refine bB_split (fun h => ?_) (fun h => ?_)
        · have hge : l.length ≥ 10 := by
            have h := of_decide_eq_true h
            simp at h
            omega
          exact put_full hok hk hge
        · have hlt : ¬ l.length ≥ 10 := by
            have h := of_decide_eq_false h
            simp at h
            omega
          refine clone_row l hb (fun hl => ?_) ?_
          · subst hl
            refine ⟨by decide, ?_⟩
            exact put_new hok hk hlt rfl
          · refine bB_yes (by simp [slotRows, lenOf]) ?_
            refine ⟨by simp [slotRows, subL]; omega, ?_⟩
            have hlen : (slotRows l).length = l.length := by simp [slotRows]
            refine ok_some (idxZ_nat (k := (l.map Slot.enc).length) (by simp [slotRows, lenOf, subL])) ?_
            refine ok_some (x := [CC.dat (.val (.bool false)), CC.dat (.val (.int .i64 0)), CC.dat (.val (.int .i64 0))]) (by simp [nth_eq, slotRows, subL, addN]) ?_
            refine put_new (id := 3) hok hk hlt ?_
            refine congrArg (fun x => some (Bk.row 3 x)) ?_
            show setN (slotRows l ++ [[CC.dat (.val (.bool false)), CC.dat (.val (.int .i64 0)), CC.dat (.val (.int .i64 0))]]) (l.map Slot.enc).length [CC.dat (.val (.bool true)), CC.dat (.val (.int .i64 c.opn)), CC.dat (.val (.int .i64 c.rts))] = _
            rw [setN_eq, List.length_map, ← hlen, List.set_append_right _ _ (Nat.le_refl _), Nat.sub_self]
            simp [slotRows, Slot.enc]
      | some k =>
        have hi : idxOf (fun s : Slot => !s.has) l = (k : Int) := by rw [idxOf, hk]
        have hkl : k < l.length := (List.findIdx?_eq_some_iff_getElem.1 hk).1
        rw [hi]
        refine clone_row l hb (fun hl => ?_) ?_
        · subst hl; simp at hkl
        · have hlen : (slotRows l).length = l.length := by simp [slotRows]
          refine bB_no (by simp [hlen, lenOf]; omega) ?_
          refine ok_some (idxZ_nat (k := k) (by simp [hlen, lenOf]; omega)) ?_
          refine ok_some (x := (l[k].enc).map .dat) (by simp [nth_eq, slotRows, addN, hkl]) ?_
          refine put_old (id := 1) hok hk ?_
          refine congrArg (fun x => some (Bk.row 3 x)) ?_
          show setN (slotRows l) k [CC.dat (.val (.bool true)), CC.dat (.val (.int .i64 c.opn)), CC.dat (.val (.int .i64 c.rts))] = _
          rw [setN_eq]
          simp [slotRows, Slot.enc]
theorem put_ok (l : List Slot) (hb : l.length ≤ 2097152) (c : Cap) {m : Mem} {K : CV → Mem → Prop} (h : K (.tup [slotsR (putS l c).1, iRV (putS l c).2.1, iRV (putS l c).2.2]) m) : ACall Try.prog 26 [slotsV l, .rv c.rv] m K :=
  acall_frame (acall_body Try.func26 l26 rfl (Nat.le_of_ble_eq_true rfl) (put_body l hb c)) (by simp [slotsV, Cap.rv, CV.isD, CC.isD]) fun r m1 hf => ⟨_, hf, h⟩

theorem l25 : lowF Try.prog Try.f25 = some c25 := by kernel_rfl
theorem rget_ok (l : List Slot) (fd : Int) {m : Mem} {K : CV → Mem → Prop} (h : K (.tup [(getS l fd).1.rv, iRV (getS l fd).2]) m) : ACall Try.prog 25 [slotsV l, vInt .i64 fd] m K :=
  acall_val Try.func25 l25 rfl (Nat.le_of_ble_eq_true rfl) (get_body l fd) rfl rfl h
theorem l34 : lowF Try.prog Try.f34 = some c34 := by kernel_rfl
/-- what Dup answers -/
def dupS (l : List Slot) (fd : Int) : List Slot × Int × Int := if (getS l fd).2 = 0 then putS l (getS l fd).1 else ([], 0, (getS l fd).2)
set_option maxRecDepth 100000 in
theorem dup_body (l : List Slot) (hb : l.length ≤ 2097152) (fd : Int) : body Try.prog c34 [slotsV l, vInt .i64 fd] [] (fun r m => FrzV m r (.tup [slotsR (dupS l fd).1, iRV (dupS l fd).2.1, iRV (dupS l fd).2.2])) := by
  refine get_ok l fd ?_
  refine bB_split (fun h => ?_) (fun h => ?_)
  · have h : ¬ (getS l fd).2 = 0 := by simpa using h
    rw [dupS, if_neg h]
    exact frz3 (.one (.esl 3))
  · have h : (getS l fd).2 = 0 := by simpa using h
    rw [dupS, if_pos h]
    refine put_ok l hb (getS l fd).1 ?_
    exact FrzV.self rfl
theorem dup_ok (l : List Slot) (hb : l.length ≤ 2097152) (fd : Int) {m : Mem} {K : CV → Mem → Prop} (h : K (.tup [slotsR (dupS l fd).1, iRV (dupS l fd).2.1, iRV (dupS l fd).2.2]) m) : ACall Try.prog 34 [slotsV l, vInt .i64 fd] m K :=
  acall_frame (acall_body Try.func34 l34 rfl (Nat.le_of_ble_eq_true rfl) (dup_body l hb fd)) (by simp [slotsV, vInt, CV.isD, CC.isD]) fun r m1 hf => ⟨_, hf, h⟩
end Go.Proofs.Ytflieebgiejjpaa
