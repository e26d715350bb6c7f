import Derived.Test.YtjofmgkcllffnaaAmZ2
import Derived.Test.YtjofmgkcllffnaaDvGi
import Derived.Test.YtjofmgkcllffnaaAmY
set_option linter.unusedVariables false
set_option linter.unusedSimpArgs false
namespace Go.Proofs.Ytjofmgkcllffnaa
open Go.AM Go.ChangeShapes Go.WideShapes Go.ChangeAt Go.RowKit
def c3 : LF := ⟨230, [.tmp 4], (.seq (.reg [
    ⟨(some 4), .mov (.c (.rv (.one (.dat (.val (.bool false)))))), none⟩]) (.seq (.seq (.reg [
    ⟨(some 15), .call (.c (.rv (.one (.fn 7 [])))) [], none⟩,
    ⟨(some 16), .un .not (.t 15), none⟩]) (.cond (.t 16) (.seq (.reg [
    ⟨(some 4), .mov (.c (.rv (.one (.dat (.val (.bool false)))))), none⟩]) .ret) .skip)) (.seq (.reg [
    ⟨(some 17), .mov (.t 0), none⟩,
    ⟨(some 18), .call (.c (.rv (.one (.fn 9 [])))) [(.t 17)], none⟩,
    ⟨(some 19), .call (.c (.rv (.one (.fn 8 [])))) [(.t 18)], none⟩,
    ⟨(some 5), .alloc [.esl, .esl, .esl], none⟩,
    ⟨none, .store 3 (.t 5) (.t 19), none⟩]) (.seq (.reg [
    ⟨(some 21), .load true 3 (.t 5), none⟩,
    ⟨(some 22), .mov (.t 1), none⟩,
    ⟨(some 23), .call (.c (.rv (.one (.fn 10 [])))) [(.t 21), (.t 22)], none⟩,
    ⟨(some 20), .mov (.t 23), none⟩,
    ⟨(some 24), .ext (.t 20) 0, none⟩,
    ⟨(some 25), .ext (.t 20) 1, none⟩,
    ⟨(some 26), .ext (.t 20) 2, none⟩,
    ⟨(some 27), .ext (.t 20) 3, none⟩,
    ⟨(some 6), .alloc [.esl, .esl, .esl], none⟩,
    ⟨none, .store 3 (.t 6) (.t 24), none⟩,
    ⟨(some 7), .mov (.t 25), none⟩,
    ⟨(some 8), .mov (.t 26), none⟩,
    ⟨(some 9), .mov (.t 27), none⟩]) (.seq (.seq (.reg [
    ⟨(some 28), .mov (.t 1), none⟩,
    ⟨(some 29), .bin .lss (.t 28) (.c (.rv (.one (.dat (.val (.int .i64 (0))))))), none⟩,
    ⟨(some 30), .mov (.t 29), none⟩,
    ⟨(some 31), .mov (.t 1), (some (30, false))⟩,
    ⟨(some 32), .fadr 2 (.t 5), (some (30, false))⟩,
    ⟨(some 33), .load false 1 (.t 32), (some (30, false))⟩,
    ⟨(some 34), .len 1 (.t 33), (some (30, false))⟩,
    ⟨(some 35), .bin .geq (.t 31) (.t 34), (some (30, false))⟩,
    ⟨(some 36), .pick (.t 30) (.c (.rv (.one (.dat (.val (.bool true)))))) (.t 35), none⟩,
    ⟨(some 37), .mov (.t 36), none⟩,
    ⟨(some 38), .fadr 2 (.t 5), (some (37, false))⟩,
    ⟨(some 39), .load false 1 (.t 38), (some (37, false))⟩,
    ⟨(some 40), .mov (.t 1), (some (37, false))⟩,
    ⟨(some 41), .idx 4 (.t 39) (.t 40), (some (37, false))⟩,
    ⟨(some 42), .fadr 0 (.t 41), (some (37, false))⟩,
    ⟨(some 43), .load false 1 (.t 42), (some (37, false))⟩,
    ⟨(some 44), .un .not (.t 43), (some (37, false))⟩,
    ⟨(some 45), .pick (.t 37) (.c (.rv (.one (.dat (.val (.bool true)))))) (.t 44), none⟩]) (.cond (.t 45) (.seq (.reg [
    ⟨(some 46), .mov (.t 9), none⟩,
    ⟨(some 47), .bin .eql (.t 46) (.c (.rv (.one (.dat (.val (.int .i64 (6))))))), none⟩,
    ⟨(some 4), .mov (.t 47), none⟩]) .ret) .skip)) (.seq (.seq (.reg [
    ⟨(some 48), .mov (.t 9), none⟩,
    ⟨(some 49), .bin .neq (.t 48) (.c (.rv (.one (.dat (.val (.int .i64 (0))))))), none⟩]) (.cond (.t 49) (.seq (.reg [
    ⟨(some 50), .mov (.t 9), none⟩,
    ⟨(some 51), .bin .eql (.t 50) (.c (.rv (.one (.dat (.val (.int .i64 (15))))))), none⟩,
    ⟨(some 52), .mov (.t 51), none⟩,
    ⟨(some 53), .fadr 2 (.t 6), (some (52, true))⟩,
    ⟨(some 54), .load false 1 (.t 53), (some (52, true))⟩,
    ⟨(some 55), .len 1 (.t 54), (some (52, true))⟩,
    ⟨(some 56), .bin .eql (.t 55) (.c (.rv (.one (.dat (.val (.int .i64 (0))))))), (some (52, true))⟩,
    ⟨(some 57), .pick (.t 52) (.t 56) (.c (.rv (.one (.dat (.val (.bool false)))))), none⟩,
    ⟨(some 4), .mov (.t 57), none⟩]) .ret) .skip)) (.seq (.seq (.draw [
    ⟨(some 58), .mov (.t 7), none⟩,
    ⟨(some 59), .bin .lss (.t 58) (.c (.rv (.one (.dat (.val (.int .i64 (1))))))), none⟩,
    ⟨(some 60), .mov (.t 59), none⟩,
    ⟨(some 61), .mov (.t 7), (some (60, false))⟩,
    ⟨(some 62), .fadr 2 (.t 6), (some (60, false))⟩,
    ⟨(some 63), .load false 1 (.t 62), (some (60, false))⟩,
    ⟨(some 64), .len 1 (.t 63), (some (60, false))⟩,
    ⟨(some 65), .bin .geq (.t 61) (.t 64), (some (60, false))⟩,
    ⟨(some 66), .pick (.t 60) (.c (.rv (.one (.dat (.val (.bool true)))))) (.t 65), none⟩,
    ⟨(some 67), .mov (.t 66), none⟩,
    ⟨(some 68), .mov (.t 7), (some (67, false))⟩,
    ⟨(some 69), .fadr 2 (.t 5), (some (67, false))⟩,
    ⟨(some 70), .load false 1 (.t 69), (some (67, false))⟩,
    ⟨(some 71), .len 1 (.t 70), (some (67, false))⟩,
    ⟨(some 72), .bin .lss (.t 68) (.t 71), (some (67, false))⟩,
    ⟨(some 73), .mov (.t 72), (some (67, false))⟩,
    ⟨(some 74), .fadr 2 (.t 5), (some (73, true))⟩,
    ⟨(some 75), .load false 1 (.t 74), (some (73, true))⟩,
    ⟨(some 76), .mov (.t 7), (some (73, true))⟩,
    ⟨(some 77), .idx 4 (.t 75) (.t 76), (some (73, true))⟩,
    ⟨(some 78), .fadr 0 (.t 77), (some (73, true))⟩,
    ⟨(some 79), .load false 1 (.t 78), (some (73, true))⟩,
    ⟨(some 80), .pick (.t 73) (.t 79) (.c (.rv (.one (.dat (.val (.bool false)))))), (some (67, false))⟩,
    ⟨(some 81), .pick (.t 67) (.c (.rv (.one (.dat (.val (.bool true)))))) (.t 80), none⟩,
    ⟨(some 82), .mov (.t 81), none⟩,
    ⟨(some 83), .fadr 2 (.t 6), (some (82, false))⟩,
    ⟨(some 84), .load false 1 (.t 83), (some (82, false))⟩,
    ⟨(some 85), .mov (.t 7), (some (82, false))⟩,
    ⟨(some 86), .idx 4 (.t 84) (.t 85), (some (82, false))⟩,
    ⟨(some 87), .fadr 1 (.t 86), (some (82, false))⟩,
    ⟨(some 88), .load false 1 (.t 87), (some (82, false))⟩,
    ⟨(some 89), .fadr 2 (.t 5), (some (82, false))⟩,
    ⟨(some 90), .load false 1 (.t 89), (some (82, false))⟩,
    ⟨(some 91), .mov (.t 1), (some (82, false))⟩,
    ⟨(some 92), .idx 4 (.t 90) (.t 91), (some (82, false))⟩,
    ⟨(some 93), .fadr 1 (.t 92), (some (82, false))⟩,
    ⟨(some 94), .load false 1 (.t 93), (some (82, false))⟩,
    ⟨(some 95), .beq true (.t 88) (.t 94), (some (82, false))⟩,
    ⟨(some 96), .pick (.t 82) (.c (.rv (.one (.dat (.val (.bool true)))))) (.t 95), none⟩,
    ⟨(some 97), .mov (.t 96), none⟩,
    ⟨(some 98), .fadr 2 (.t 6), (some (97, false))⟩,
    ⟨(some 99), .load false 1 (.t 98), (some (97, false))⟩,
    ⟨(some 100), .mov (.t 7), (some (97, false))⟩,
    ⟨(some 101), .idx 4 (.t 99) (.t 100), (some (97, false))⟩,
    ⟨(some 102), .fadr 0 (.t 101), (some (97, false))⟩,
    ⟨(some 103), .load false 1 (.t 102), (some (97, false))⟩,
    ⟨(some 104), .un .not (.t 103), (some (97, false))⟩,
    ⟨(some 105), .pick (.t 97) (.c (.rv (.one (.dat (.val (.bool true)))))) (.t 104), none⟩,
    ⟨(some 106), .mov (.t 105), none⟩,
    ⟨(some 107), .fadr 2 (.t 6), (some (106, false))⟩,
    ⟨(some 108), .load false 1 (.t 107), (some (106, false))⟩,
    ⟨(some 109), .mov (.t 7), (some (106, false))⟩,
    ⟨(some 110), .idx 4 (.t 108) (.t 109), (some (106, false))⟩,
    ⟨(some 111), .fadr 3 (.t 110), (some (106, false))⟩,
    ⟨(some 112), .load false 1 (.t 111), (some (106, false))⟩,
    ⟨(some 113), .fadr 2 (.t 5), (some (106, false))⟩,
    ⟨(some 114), .load false 1 (.t 113), (some (106, false))⟩,
    ⟨(some 115), .mov (.t 1), (some (106, false))⟩,
    ⟨(some 116), .idx 4 (.t 114) (.t 115), (some (106, false))⟩,
    ⟨(some 117), .fadr 3 (.t 116), (some (106, false))⟩,
    ⟨(some 118), .load false 1 (.t 117), (some (106, false))⟩,
    ⟨(some 119), .call (.c (.rv (.one (.fn 11 [])))) [(.t 112), (.t 118)], (some (106, false))⟩,
    ⟨(some 120), .un .not (.t 119), (some (106, false))⟩,
    ⟨(some 121), .pick (.t 106) (.c (.rv (.one (.dat (.val (.bool true)))))) (.t 120), none⟩]
    [(.cons 0 none (.cons 1 none (.cons 2 none (.cons 3 none (.cons 4 none (.cons 5 none (.cons 6 none (.cons 7 none (.cons 8 none (.cons 9 none (.cons 10 none (.cons 11 none (.cons 12 none (.cons 13 none (.cons 14 none (.cons 15 none (.cons 16 none (.cons 17 none (.cons 18 none (.cons 19 none (.cons 20 none (.cons 21 none (.cons 22 none (.cons 23 none (.cons 24 none (.cons 25 none (.cons 26 none (.cons 27 none (.cons 28 none (.cons 29 none (.cons 30 none (.cons 31 none (.cons 32 none (.cons 33 none (.cons 34 none (.cons 35 none (.cons 36 none (.cons 37 none (.cons 38 none (.cons 39 none (.cons 40 none (.cons 41 none (.cons 42 none (.cons 43 none (.cons 44 none (.cons 45 none (.cons 46 none (.cons 47 none (.cons 48 none (.cons 49 none (.cons 50 none (.cons 51 none (.cons 52 none (.cons 53 none (.cons 54 none (.cons 55 none (.cons 56 none (.cons 57 none (.cons 58 none (.cons 59 none (.cons 60 none (.cons 61 (some []) (.cons 62 none (.cons 63 none .nil))))))))))))))))))))))))))))))))))))))))))))))))))))))))))))))))]) (.cond (.t 121) (.seq (.reg [
    ⟨(some 4), .mov (.c (.rv (.one (.dat (.val (.bool false)))))), none⟩]) .ret) .skip)) (.ghost (.seq (.reg [
    ⟨(some 123), .fadr 2 (.t 6), none⟩,
    ⟨(some 124), .load false 1 (.t 123), none⟩,
    ⟨(some 125), .mov (.t 1), none⟩,
    ⟨(some 126), .idx 4 (.t 124) (.t 125), none⟩,
    ⟨(some 127), .fadr 3 (.t 126), none⟩,
    ⟨(some 128), .load false 1 (.t 127), none⟩,
    ⟨(some 129), .mov (.t 8), none⟩,
    ⟨(some 130), .call (.c (.rv (.one (.fn 12 [])))) [(.t 128), (.t 129)], none⟩,
    ⟨(some 122), .mov (.t 130), none⟩,
    ⟨(some 131), .ext (.t 122) 0, none⟩,
    ⟨(some 132), .ext (.t 122) 1, none⟩,
    ⟨(some 10), .alloc [(.dat (.val (.int .i64 (0)))), (.dat (.val (.int .i64 (0))))], none⟩,
    ⟨none, .store 2 (.t 10) (.t 131), none⟩,
    ⟨(some 11), .mov (.t 132), none⟩]) (.seq (.seq (.reg [
    ⟨(some 133), .mov (.t 11), none⟩,
    ⟨(some 134), .bin .neq (.t 133) (.c (.rv (.one (.dat (.val (.int .i64 (0))))))), none⟩,
    ⟨(some 135), .mov (.t 134), none⟩,
    ⟨(some 136), .fadr 1 (.t 10), (some (135, false))⟩,
    ⟨(some 137), .load false 1 (.t 136), (some (135, false))⟩,
    ⟨(some 138), .bin .neq (.t 137) (.c (.rv (.one (.dat (.val (.int .i64 (3200))))))), (some (135, false))⟩,
    ⟨(some 139), .pick (.t 135) (.c (.rv (.one (.dat (.val (.bool true)))))) (.t 138), none⟩,
    ⟨(some 140), .mov (.t 139), none⟩,
    ⟨(some 141), .fadr 0 (.t 10), (some (140, false))⟩,
    ⟨(some 142), .load false 1 (.t 141), (some (140, false))⟩,
    ⟨(some 143), .bin .lss (.t 142) (.c (.rv (.one (.dat (.val (.int .i64 (0))))))), (some (140, false))⟩,
    ⟨(some 144), .pick (.t 140) (.c (.rv (.one (.dat (.val (.bool true)))))) (.t 143), none⟩,
    ⟨(some 145), .mov (.t 144), none⟩,
    ⟨(some 146), .fadr 0 (.t 10), (some (145, false))⟩,
    ⟨(some 147), .load false 1 (.t 146), (some (145, false))⟩,
    ⟨(some 148), .fadr 1 (.t 6), (some (145, false))⟩,
    ⟨(some 149), .load false 1 (.t 148), (some (145, false))⟩,
    ⟨(some 150), .len 1 (.t 149), (some (145, false))⟩,
    ⟨(some 151), .bin .geq (.t 147) (.t 150), (some (145, false))⟩,
    ⟨(some 152), .pick (.t 145) (.c (.rv (.one (.dat (.val (.bool true)))))) (.t 151), none⟩]) (.cond (.t 152) (.seq (.reg [
    ⟨(some 4), .mov (.c (.rv (.one (.dat (.val (.bool false)))))), none⟩]) .ret) .skip)) (.seq (.reg [
    ⟨(some 153), .fadr 1 (.t 6), none⟩,
    ⟨(some 154), .load false 1 (.t 153), none⟩,
    ⟨(some 155), .fadr 0 (.t 10), none⟩,
    ⟨(some 156), .load false 1 (.t 155), none⟩,
    ⟨(some 157), .idx 2 (.t 154) (.t 156), none⟩,
    ⟨(some 158), .fadr 0 (.t 157), none⟩,
    ⟨(some 159), .load false 1 (.t 158), none⟩,
    ⟨(some 12), .mov (.t 159), none⟩]) (.seq (.seq (.reg [
    ⟨(some 160), .fadr 0 (.t 6), none⟩,
    ⟨(some 161), .load false 1 (.t 160), none⟩,
    ⟨(some 162), .mov (.t 12), none⟩,
    ⟨(some 163), .call (.c (.rv (.one (.fn 13 [])))) [(.t 161), (.t 162), (.c (.rv (.one (.dat (.val (.int .i64 (5)))))))], none⟩,
    ⟨(some 164), .un .not (.t 163), none⟩,
    ⟨(some 165), .mov (.t 164), none⟩,
    ⟨(some 166), .fadr 0 (.t 6), (some (165, false))⟩,
    ⟨(some 167), .load false 1 (.t 166), (some (165, false))⟩,
    ⟨(some 168), .mov (.t 12), (some (165, false))⟩,
    ⟨(some 169), .idx 9 (.t 167) (.t 168), (some (165, false))⟩,
    ⟨(some 170), .fadr 6 (.t 169), (some (165, false))⟩,
    ⟨(some 171), .load false 1 (.t 170), (some (165, false))⟩,
    ⟨(some 172), .mov (.t 7), (some (165, false))⟩,
    ⟨(some 173), .bin .neq (.t 171) (.t 172), (some (165, false))⟩,
    ⟨(some 174), .pick (.t 165) (.c (.rv (.one (.dat (.val (.bool true)))))) (.t 173), none⟩]) (.cond (.t 174) (.seq (.reg [
    ⟨(some 4), .mov (.c (.rv (.one (.dat (.val (.bool false)))))), none⟩]) .ret) .skip)) (.seq (.reg [
    ⟨(some 176), .fadr 2 (.t 6), none⟩,
    ⟨(some 177), .load false 1 (.t 176), none⟩,
    ⟨(some 178), .mov (.t 1), none⟩,
    ⟨(some 179), .idx 4 (.t 177) (.t 178), none⟩,
    ⟨(some 180), .fadr 3 (.t 179), none⟩,
    ⟨(some 181), .load false 1 (.t 180), none⟩,
    ⟨(some 182), .mov (.t 8), none⟩,
    ⟨(some 183), .call (.c (.rv (.one (.fn 14 [])))) [(.t 181), (.t 182)], none⟩,
    ⟨(some 175), .mov (.t 183), none⟩,
    ⟨(some 184), .ext (.t 175) 0, none⟩,
    ⟨(some 185), .ext (.t 175) 1, none⟩,
    ⟨(some 13), .mov (.t 184), none⟩,
    ⟨(some 11), .mov (.t 185), none⟩]) (.seq (.seq (.reg [
    ⟨(some 186), .mov (.t 11), none⟩,
    ⟨(some 187), .bin .neq (.t 186) (.c (.rv (.one (.dat (.val (.int .i64 (0))))))), none⟩,
    ⟨(some 188), .mov (.t 187), none⟩,
    ⟨(some 189), .mov (.t 13), (some (188, false))⟩,
    ⟨(some 190), .fadr 2 (.t 5), (some (188, false))⟩,
    ⟨(some 191), .load false 1 (.t 190), (some (188, false))⟩,
    ⟨(some 192), .mov (.t 1), (some (188, false))⟩,
    ⟨(some 193), .idx 4 (.t 191) (.t 192), (some (188, false))⟩,
    ⟨(some 194), .fadr 3 (.t 193), (some (188, false))⟩,
    ⟨(some 195), .load false 1 (.t 194), (some (188, false))⟩,
    ⟨(some 196), .call (.c (.rv (.one (.fn 11 [])))) [(.t 189), (.t 195)], (some (188, false))⟩,
    ⟨(some 197), .un .not (.t 196), (some (188, false))⟩,
    ⟨(some 198), .pick (.t 188) (.c (.rv (.one (.dat (.val (.bool true)))))) (.t 197), none⟩]) (.cond (.t 198) (.seq (.reg [
    ⟨(some 4), .mov (.c (.rv (.one (.dat (.val (.bool false)))))), none⟩]) .ret) .skip)) (.seq (.seq (.reg [
    ⟨(some 199), .fadr 2 (.t 5), none⟩,
    ⟨(some 200), .load false 1 (.t 199), none⟩,
    ⟨(some 201), .len 1 (.t 200), none⟩,
    ⟨(some 202), .mov (.c (.rv (.one (.dat (.val (.int .i64 (0))))))), none⟩]) (.block 0 (.loop (.seq (.reg [
    ⟨(some 203), .bin .lss (.t 202) (.t 201), none⟩]) (.seq (.cond (.t 203) .skip (.exit 0)) (.seq (.block 1 (.seq (.reg [
    ⟨(some 204), .mov (.t 202), none⟩,
    ⟨(some 14), .mov (.t 204), none⟩]) (.seq (.draw [
    ⟨(some 205), .mov (.t 14), none⟩,
    ⟨(some 206), .mov (.t 1), none⟩,
    ⟨(some 207), .bin .neq (.t 205) (.t 206), none⟩,
    ⟨(some 208), .mov (.t 207), none⟩,
    ⟨(some 209), .mov (.t 14), (some (208, true))⟩,
    ⟨(some 210), .mov (.t 7), (some (208, true))⟩,
    ⟨(some 211), .bin .neq (.t 209) (.t 210), (some (208, true))⟩,
    ⟨(some 212), .pick (.t 208) (.t 211) (.c (.rv (.one (.dat (.val (.bool false)))))), none⟩,
    ⟨(some 213), .mov (.t 212), none⟩,
    ⟨(some 214), .fadr 2 (.t 5), (some (213, true))⟩,
    ⟨(some 215), .load false 1 (.t 214), (some (213, true))⟩,
    ⟨(some 216), .mov (.t 14), (some (213, true))⟩,
    ⟨(some 217), .idx 4 (.t 215) (.t 216), (some (213, true))⟩,
    ⟨(some 218), .fadr 3 (.t 217), (some (213, true))⟩,
    ⟨(some 219), .load false 1 (.t 218), (some (213, true))⟩,
    ⟨(some 220), .fadr 2 (.t 6), (some (213, true))⟩,
    ⟨(some 221), .load false 1 (.t 220), (some (213, true))⟩,
    ⟨(some 222), .mov (.t 14), (some (213, true))⟩,
    ⟨(some 223), .idx 4 (.t 221) (.t 222), (some (213, true))⟩,
    ⟨(some 224), .fadr 3 (.t 223), (some (213, true))⟩,
    ⟨(some 225), .load false 1 (.t 224), (some (213, true))⟩,
    ⟨(some 226), .call (.c (.rv (.one (.fn 11 [])))) [(.t 219), (.t 225)], (some (213, true))⟩,
    ⟨(some 227), .un .not (.t 226), (some (213, true))⟩,
    ⟨(some 228), .pick (.t 213) (.t 227) (.c (.rv (.one (.dat (.val (.bool false)))))), none⟩]
    [(.cons 0 none (.cons 1 none (.cons 2 none (.cons 3 none (.cons 4 none (.cons 5 none (.cons 6 none (.cons 7 none (.cons 8 none (.cons 9 none (.cons 10 none (.cons 11 none (.cons 12 none (.cons 13 none (.cons 14 none (.cons 15 none (.cons 16 none (.cons 17 none (.cons 18 none (.cons 19 none (.cons 20 none (.cons 21 (some []) (.cons 22 none (.cons 23 none .nil))))))))))))))))))))))))]) (.cond (.t 228) (.seq (.reg [
    ⟨(some 4), .mov (.c (.rv (.one (.dat (.val (.bool false)))))), none⟩]) .ret) .skip)))) (.reg [
    ⟨(some 229), .bin .add (.t 202) (.c (.rv (.one (.dat (.val (.int .i64 (1))))))), none⟩,
    ⟨(some 202), .mov (.t 229), none⟩]))))))) (.seq (.reg [
    ⟨(some 4), .mov (.c (.rv (.one (.dat (.val (.bool true)))))), none⟩]) .ret))))))))))))))))⟩
/-! the law ProcsFork -/
theorem l3 : lowF Try.prog Try.f3 = some c3.er := by kernel_rfl
theorem putL_has {S : List Sl3} (h : ∀ s, s ∈ S → s.has = true) (i : Nat) {rts : Int} (h0 : 0 ≤ rts) (h1 : rts ≤ 4095) : putL S (i : Nat) rts = if S.length ≥ 10 then (([] : List Sl3), (0 : Int), (15 : Int)) else (S ++ [Sl3.mk true ((i : Nat) : Int) rts], ((S.length : Nat) : Int), (0 : Int)) := by
  have hr : Tb.rightB rts = true := by unfold Tb.rightB; simp [h0, h1]
  have hf : (S.map toT).findIdx? (fun s => !s.has) = none := by
    rw [List.findIdx?_eq_none_iff]
    intro x hx
    obtain ⟨s, hs, rfl⟩ := List.mem_map.1 hx
    show (!s.has) = false
    rw [h s hs]; rfl
  have hp : Tb.putS (S.map toT) ⟨(i : Nat), rts⟩ = if S.length ≥ 10 then (([] : List Tb.Slot), (0 : Int), (15 : Int)) else (S.map toT ++ [Tb.Slot.mk true (Tb.Cap.mk ((i : Nat) : Int) rts)], ((S.length : Nat) : Int), (0 : Int)) := by
    unfold Tb.putS
    rw [if_neg (by rw [hr]; simp), hf]
    simp only [List.length_map]
  unfold putL
  rw [hp]
  by_cases h10 : S.length ≥ 10
  · rw [if_pos h10, if_pos h10]; rfl
  · rw [if_neg h10, if_neg h10]
    simp only [List.map_append, List.map_map, List.map_cons, List.map_nil]
    rw [show ofT ∘ toT = id from rfl, List.map_id]
    rfl
theorem tget_ok (S : List Sl3) (fd : Int) {m : Mem} {K : CV → Mem → Prop} (h : K (.tup [(Tb.getS (S.map toT) fd).1.rv, iRV (Tb.getS (S.map toT) fd).2]) m) : ACall Try.prog 12 [sl3V S, vInt .i64 fd] m K := by
  have := Tb.rget_ok (S.map toT) fd (m := m) (K := K) h
  have e : Tb.slotsV (S.map toT) = sl3V S := by
    show CV.rv (.one (.dat (Tb.slotsD (S.map toT)))) = _
    rw [slotsD_eq]; rfl
  rw [e] at this
  exact this
theorem tget_new (S : List Sl3) (o r : Int) : Tb.getS ((S ++ [Sl3.mk true o r]).map toT) ((S.length : Nat) : Int) = (Tb.Cap.mk o r, 0) := by
  unfold Tb.getS
  rw [if_pos (by omega), show ((S.length : Nat) : Int).toNat = S.length from rfl, List.getElem?_map, List.getElem?_append_right (Nat.le_refl _)]
  simp [toT]
theorem setOp_spec (ops : List Opn) (o : Opn) : (setOp ops (openI ops) o)[openI ops]? = some o ∧ openI ops < (setOp ops (openI ops) o).length ∧ openI ops ≤ ops.length ∧ (∀ h : openI ops < ops.length, ops[openI ops].obj < 0) := by
  unfold openI
  cases h : opF ops with
  | none =>
    simp only [Option.getD_none]
    refine ⟨?_, ?_, Nat.le_refl _, fun hh => absurd hh (Nat.lt_irrefl _)⟩
    · rw [setOp, if_pos rfl]; simp
    · rw [setOp, if_pos rfl]; simp
  | some i =>
    have hi := opF_lt h
    have hs := (List.findIdx?_eq_some_iff_getElem.1 h).2.1
    simp only [Option.getD_some]
    refine ⟨?_, ?_, Nat.le_of_lt hi, fun _ => by simpa using hs⟩
    · rw [setOp, if_neg (by omega)]; simp [hi]
    · rw [setOp, if_neg (by omega)]; simpa using hi
/-- closed, the one put is gone -/
theorem lastN_all (l : List Tb.Slot) : ∀ j, j ≤ l.length → (∀ (i : Nat) s, i < j → l[i]? = some s → s.has = true) → Tb.lastN (l.take j) = j
  | 0, _, _ => rfl
  | j + 1, hj, h => by
    have hlt : j < l.length := by omega
    rw [Tb.lastN_take l j hlt, h j l[j] (Nat.lt_succ_self j) (List.getElem?_eq_getElem hlt)]
    rfl
theorem close_new (S : List Sl3) (hh : ∀ s, s ∈ S → s.has = true) (o r : Int) : Tb.closeS ((S ++ [Sl3.mk true o r]).map toT) ((S.length : Nat) : Int) = (S.map toT, 0) := by
  unfold Tb.closeS
  rw [tget_new, if_pos rfl, show ((S.length : Nat) : Int).toNat = S.length from rfl]
  have e : ((S ++ [Sl3.mk true o r]).map toT).set S.length Tb.noSlot = S.map toT ++ [Tb.noSlot] := by
    rw [List.map_append, List.set_append_right (h := by simp)]
    simp
  rw [e]
  have hall : ∀ (i : Nat) s, i < S.length → (S.map toT ++ [Tb.noSlot])[i]? = some s → s.has = true := fun i s hi hs => by
    rw [List.getElem?_append_left (by simpa using hi), List.getElem?_map, List.getElem?_eq_getElem hi] at hs
    cases hs
    exact hh _ (List.getElem_mem hi)
  have h1 := lastN_all (S.map toT ++ [Tb.noSlot]) S.length (by simp) hall
  have hs2 : (S.map toT ++ [Tb.noSlot])[S.length]? = some Tb.noSlot := by rw [List.getElem?_append_right (by simp)]; simp
  have h2 : Tb.lastN (S.map toT ++ [Tb.noSlot]) = S.length := by
    have := Tb.lastN_take' hs2
    rw [List.take_of_length_le (by simp), show Tb.noSlot.has = false from rfl, if_neg (by simp), h1] at this
    exact this
  rw [h2, List.take_left' (by simp)]
theorem tclose_ok (S : List Sl3) (hb : S.length ≤ 2097152) (fd : Int) {m : Mem} {K : CV → Mem → Prop} (h : K (.tup [Tb.slotsR (Tb.closeS (S.map toT) fd).1, iRV (Tb.closeS (S.map toT) fd).2]) m) : ACall Try.prog 14 [sl3V S, vInt .i64 fd] m K := by
  have := Tb.rclose_ok (S.map toT) (by simpa using hb) fd (m := m) (K := K) h
  have e : Tb.slotsV (S.map toT) = sl3V S := by
    show CV.rv (.one (.dat (Tb.slotsD (S.map toT)))) = _
    rw [slotsD_eq]; rfl
  rw [e] at this
  exact this
theorem slotsR_of (S : List Sl3) : Tb.slotsR (S.map toT) = sl3R S := by
  rw [slotsR_eq, List.map_map, show ofT ∘ toT = id from rfl, List.map_id]
/-- what Fork of a process that lives is -/
structure FkOK (k : Kr) (n c i kk : Nat) (x : Kr) : Prop where
  c1 : 1 ≤ c
  cn : c ≠ n
  cx : c < x.ps.length
  nx : n < x.ps.length
  lx : k.ps.length ≤ x.ps.length
  dead : ∀ h : c < k.ps.length, (k.ps[c]).live = false
  child : ∀ (h : n < k.ps.length) (h2 : c < x.ps.length), x.ps[c] = ⟨true, k.ps[n].fenced, 0, k.ps[n].slots⟩
  par : ∀ (h : n < k.ps.length) (h2 : n < x.ps.length), x.ps[n] = { k.ps[n] with slots := k.ps[n].slots ++ [Sl3.mk true ((i : Nat) : Int) 3200] }
  oth : ∀ (q : Nat) (h : q < k.ps.length) (h2 : q < x.ps.length), q ≠ n → q ≠ c → x.ps[q] = k.ps[q]
  opn : x.ops[i]? = some ⟨(kk : Nat), 0⟩
  obj : x.l[kk]? = some (procO (c : Nat))
theorem fork_cases (k : Kr) (hk : Swp k) (n : Nat) (hn : n < k.ps.length) (hl : k.ps[n].live = true) :
    forkS k (n : Int) = (nilK, 0, 0, 15) ∨ ∃ (c i kk : Nat) (x : Kr), forkS k (n : Int) = (x, ((c : Nat) : Int), ((k.ps[n].slots.length : Nat) : Int), 0) ∧ FkOK k n c i kk x := by
  have hS : forkS k (n : Int) = if pfreeS k.l k.ps < 0 then (nilK, 0, 0, 15) else forkE k.l k.ops (forkP k.ps n (pfreeS k.l k.ps).toNat) n (pfreeS k.l k.ps) := by
    rw [forkS, if_neg (by rw [live_of hn hl]; simp)]; rfl
  rw [hS]
  by_cases hneg : pfreeS k.l k.ps < 0
  · left; rw [if_pos hneg]
  rw [if_neg hneg]
  obtain ⟨c, hc⟩ : ∃ c : Nat, pfreeS k.l k.ps = (c : Int) := ⟨(pfreeS k.l k.ps).toNat, by omega⟩
  obtain ⟨hcl, _, _, hcd⟩ := pfreeG_spec k.l k.ps 8 0 c hc (Nat.zero_le _)
  rw [hc, show ((c : Nat) : Int).toNat = c from rfl]
  have hdead : ∀ h : c < k.ps.length, (k.ps[c]).live = false := fun h => by
    have := hcd h
    rw [pdead, List.getElem?_eq_getElem h] at this
    simp at this
    exact this.1
  have hcn : c ≠ n := fun e => by
    subst e
    rw [hdead hn] at hl
    cases hl
  have hc1 : 1 ≤ c := by
    rcases Nat.eq_zero_or_pos c with h0 | h0
    · exfalso
      obtain ⟨p0, hp0, hl0⟩ := hk.first
      have h00 : 0 < k.ps.length := by omega
      rw [List.getElem?_eq_getElem h00] at hp0
      cases hp0
      subst h0
      rw [hdead h00] at hl0
      cases hl0
    · exact h0
  generalize hP : forkP k.ps n c = P
  have hPf : P.length ≥ k.ps.length ∧ c < P.length ∧ P[c]? = some ⟨true, k.ps[n].fenced, 0, k.ps[n].slots⟩ ∧ ∀ (q : Nat), q < k.ps.length → q ≠ c → P[q]? = k.ps[q]? := by
    rw [← hP, forkP, List.getElem?_eq_getElem hn]
    simp only []
    by_cases he : c = k.ps.length
    · rw [if_pos he]
      refine ⟨by simp, by simp; omega, by rw [he]; simp, fun q hq _ => List.getElem?_append_left hq⟩
    · rw [if_neg he]
      refine ⟨by simp, by simp; omega, by rw [List.getElem?_set_self (by omega)], fun q _ hq => List.getElem?_set_ne (Ne.symm hq)⟩
  obtain ⟨hP1, hP2, hP3, hP4⟩ := hPf
  have hnP : n < P.length := by omega
  have hPn : P[n]? = some k.ps[n] := by rw [hP4 n hn (Ne.symm hcn), List.getElem?_eq_getElem hn]
  have hPn' : P[n] = k.ps[n] := by rw [List.getElem?_eq_getElem hnP] at hPn; exact Option.some.inj hPn
  have hhas := hk.has _ (List.getElem_mem hn)
  unfold forkE
  by_cases hA : (makeS k.l (procO (c : Nat))).2.2 ≠ 0
  · left
    rw [if_pos hA]
    have : (makeS k.l (procO (c : Nat))).2.2 = 15 := by
      unfold makeS at hA ⊢
      split at hA
      · exact absurd rfl hA
      · split at hA
        · rename_i h; rw [if_pos h]
        · exact absurd rfl hA
    rw [this]
  rw [if_neg hA]
  obtain ⟨kk, hkk, hobj⟩ : ∃ kk : Nat, (makeS k.l (procO (c : Nat))).2.1 = (kk : Int) ∧ (makeS k.l (procO (c : Nat))).1[kk]? = some (procO (c : Nat)) := by
    unfold makeS at hA ⊢
    split at hA
    · rename_i j hj
      have := (List.findIdx?_eq_some_iff_getElem.1 hj).1
      exact ⟨j, rfl, by rw [List.getElem?_set_self (by omega)]⟩
    · split at hA
      · exact absurd (by decide) hA
      · rename_i h
        rw [if_neg h]
        exact ⟨k.l.length, rfl, by simp⟩
  rw [hkk]
  generalize (makeS k.l (procO (c : Nat))).1 = L at hobj
  have hsa : slotsAt P n = k.ps[n].slots := by rw [slotsAt, hPn]
  have hput := putL_has hhas (openI k.ops) (rts := 3200) (by omega) (by omega)
  by_cases hfull : (opF k.ops = none ∧ k.ops.length ≥ 60)
  · left
    have he : openedS ⟨L, k.ops, P⟩ n (kk : Nat) 3200 = (nilK, 0, 15) := by rw [openedS, if_pos hfull]
    rw [he]; rfl
  by_cases h10 : k.ps[n].slots.length ≥ 10
  · left
    have he : openedS ⟨L, k.ops, P⟩ n (kk : Nat) 3200 = (nilK, 0, 15) := by
      rw [openedS, if_neg hfull, hsa, hput, if_pos h10]; rfl
    rw [he]; rfl
  right
  have he : openedS ⟨L, k.ops, P⟩ n (kk : Nat) 3200 = (Kr.mk L (setOp k.ops (openI k.ops) ⟨(kk : Nat), 0⟩) (setSl P n (k.ps[n].slots ++ [Sl3.mk true ((openI k.ops : Nat) : Int) 3200])), ((k.ps[n].slots.length : Nat) : Int), (0 : Int)) := by
    rw [openedS, if_neg hfull, hsa, hput, if_neg h10]; rfl
  rw [he]
  have hSl : setSl P n (k.ps[n].slots ++ [Sl3.mk true ((openI k.ops : Nat) : Int) 3200]) = P.set n { k.ps[n] with slots := k.ps[n].slots ++ [Sl3.mk true ((openI k.ops : Nat) : Int) 3200] } := by rw [setSl, hPn]
  rw [hSl]
  obtain ⟨hO1, _, _, _⟩ := setOp_spec k.ops ⟨(kk : Nat), 0⟩
  refine ⟨c, openI k.ops, kk, _, rfl, ⟨hc1, hcn, by simpa using hP2, by simpa using hnP, by simpa using hP1, hdead, fun h h2 => ?_, fun h h2 => ?_, fun q h h2 hq1 hq2 => ?_, hO1, hobj⟩⟩
  · have h2 : c < P.length := by simpa using h2
    rw [List.getElem?_eq_getElem h2] at hP3
    rw [List.getElem_set_ne (Ne.symm hcn)]
    exact Option.some.inj hP3
  · simp
  · have h2 : q < P.length := by simpa using h2
    have := hP4 q h hq2
    rw [List.getElem?_eq_getElem h2, List.getElem?_eq_getElem h] at this
    rw [List.getElem_set_ne (Ne.symm hq1)]
    exact Option.some.inj this
def G123 : LC := unG (sndS (sndS (sndS (sndS (sndS (sndS (sndS c3.code)))))))
set_option maxRecDepth 100000 in
set_option maxHeartbeats 16000000 in
theorem seg123 (k : Kr) (hk : Swp k) (n : Nat) (hn : n < k.ps.length) (c i kk : Nat) (x : Kr) (hx : FkOK k n c i kk x) :
    aw Try.prog 0 G123 (endK Try.prog c3.res (fun r m => r = vBool true))
      ⟨mkE 230 [(1, vInt .i64 (n : Nat)), (5, .rv (.one (.ptr 0 0))), (6, .rv (.one (.ptr 1 0))), (7, vInt .i64 (c : Nat)), (8, vInt .i64 (k.ps[n].slots.length : Nat))], [.var ((kC k.l k.ops k.ps).map .dat), .var ((kC x.l x.ops x.ps).map .dat)]⟩ := by
  have hkr := hk.kr
  have hlp := hkr.lp
  have gxn := prc_get hx.nx
  rw [hx.par hn hx.nx] at gxn
  have gkn := prc_get hn
  have hsl := hkr.sl _ (List.getElem_mem hn)
  have hhas := hk.has _ (List.getElem_mem hn)
  have hoth := hx.oth
  have hlx := hx.lx
  have hgO : getZ (x.ops.map Opn.enc) (i : Nat) = some [.val (.int .i64 (kk : Nat)), .val (.int .i64 0)] := by
    rw [getZ_nat, List.getElem?_map, hx.opn]; rfl
  have hil := (List.getElem?_eq_some_iff.1 hx.opn).1
  have hgL : getZ (x.l.map Obj.enc) (kk : Nat) = some (procO (c : Nat)).enc := by
    rw [getZ_nat, List.getElem?_map, hx.obj]; rfl
  have hkl := (List.getElem?_eq_some_iff.1 hx.obj).1
  have hke := (List.getElem?_eq_some_iff.1 hx.obj).2
  have hIs : isS x.l (kk : Nat) 5 = true := by simp [isS, hkl, hke, procO]
  generalize k.ps[n] = y at gxn gkn hsl hhas
  obtain ⟨live, fenced, cd, S⟩ := y
  have hsl : S.length ≤ 10 := hsl
  have hhas : ∀ s, s ∈ S → s.has = true := hhas
  refine ok_some gxn ?_
  refine tget_ok (S ++ [Sl3.mk true ((i : Nat) : Int) 3200]) (S.length : Nat) ?_
  rw [tget_new]
  refine bB_dec (fun h1 => ?_) (fun h1 => ?_)
  · exfalso
    have h1 : (i : Int) ≥ ((x.ops.map Opn.enc).length : Int) := h1
    rw [List.length_map] at h1
    omega
  refine ok_some hgO ?_
  refine is_ok x.l (kk : Nat) 5 ?_
  rw [hIs]
  refine ok_some hgL ?_
  refine bB_no (by simp [procO]) ?_
  refine ok_some gxn ?_
  refine tclose_ok (S ++ [Sl3.mk true ((i : Nat) : Int) 3200]) (by simp; omega) (S.length : Nat) ?_
  rw [close_new S hhas, slotsR_of]
  refine ok_some gkn ?_
  refine ssame_ok S (by omega) ?_
  refine loop_keep (fun q => q ≤ k.ps.length) [1, 5, 6, 7, 201] (fun q => [(202, vInt .i64 (q : Nat))]) (fun _ => [.var ((kC k.l k.ops k.ps).map .dat), .var ((kC x.l x.ops x.ps).map .dat)]) (fun q => k.ps.length - q) 0 (Nat.zero_le _) ?_ (fun q hq => ?_)
  · refine View.of 3 [0, 1] [] rfl rfl rfl rfl rfl rfl ?_ ?_
    · repeat (first | exact .nil | refine .junk ?_ | refine .eq rfl ?_)
    · exact .put (notF rfl) rfl (.eq rfl (by simp [kC])) (.put (notF rfl) rfl (.eq rfl (by simp [kC])) (.nil _))
  have hq : q ≤ k.ps.length := hq
  refine bB_dec (fun h => ?_) (fun h => ?_)
  · have hlt : q < k.ps.length := by
      have h : (q : Int) < ((k.ps.map Prc.enc).length : Int) := h
      rw [List.length_map] at h
      omega
    refine bB_bne (fun hq1 => ?_) (fun hq1 => ?_)
    · have hq1 : q ≠ n := by
        have hq1 : (q : Int) ≠ (n : Int) := hq1
        omega
      refine bB_bne (fun hq2 => ?_) (fun hq2 => ?_)
      · have hq2 : q ≠ c := by
          have hq2 : (q : Int) ≠ (c : Int) := hq2
          omega
        have hqx : q < x.ps.length := by omega
        have g1 := prc_get hlt
        have g2 := prc_get hqx
        rw [hoth q hlt hqx hq1 hq2] at g2
        have hs2 := hkr.sl _ (List.getElem_mem hlt)
        generalize k.ps[q] = z at g1 g2 hs2
        refine ok_some g1 ?_
        refine ok_some g2 ?_
        refine ssame_ok z.slots (by omega) ?_
        refine ⟨trivial, ?_⟩
        refine ⟨q + 1, hlt, (show k.ps.length - (q + 1) < k.ps.length - q by omega), View.of 2 [0, 1] [] rfl rfl rfl rfl rfl rfl ?_ ?_⟩
        · repeat (first | exact .nil | refine .junk ?_ | refine .put (.ren (next_i64 (by omega)).symm) ?_ | refine .eq rfl ?_)
        · exact .put (notF rfl) rfl (.eq rfl (by simp [kC])) (.put (notF rfl) rfl (.eq rfl (by simp [kC])) (.nil _))
      · refine ⟨trivial, q + 1, hlt, (show k.ps.length - (q + 1) < k.ps.length - q by omega), View.of 2 [0, 1] [] rfl rfl rfl rfl rfl rfl ?_ ?_⟩
        · repeat (first | exact .nil | refine .junk ?_ | refine .put (.ren (next_i64 (by omega)).symm) ?_ | refine .eq rfl ?_)
        · exact .put (notF rfl) rfl (.eq rfl (by simp [kC])) (.put (notF rfl) rfl (.eq rfl (by simp [kC])) (.nil _))
    · refine ⟨trivial, q + 1, hlt, (show k.ps.length - (q + 1) < k.ps.length - q by omega), View.of 2 [0, 1] [] rfl rfl rfl rfl rfl rfl ?_ ?_⟩
      · repeat (first | exact .nil | refine .junk ?_ | refine .put (.ren (next_i64 (by omega)).symm) ?_ | refine .eq rfl ?_)
      · exact .put (notF rfl) rfl (.eq rfl (by simp [kC])) (.put (notF rfl) rfl (.eq rfl (by simp [kC])) (.nil _))
  · exact rfl
set_option maxRecDepth 100000 in
set_option maxHeartbeats 16000000 in
theorem pfork_body (b : List Int) (hb : BYb b) (p : Int) : body Try.prog c3 [.rv (.one (.dat (.sl 1 (byD b)))), vInt .i64 p] [] (fun r m => r = vBool true) := by
  refine alive10_ok ?_
  refine build_ok b hb fun l op ps hgk => ?_
  refine fsweep_ok ⟨l, op, ps⟩ hgk.sz fun x hx hxz => ?_
  obtain ⟨k, hke, hk⟩ := swk_ok hgk hx hxz
  rw [hke]
  clear hke hx hxz hgk
  have hkr := hk.kr
  have hlp := hkr.lp
  refine fork_ok k hkr (by have := hk.l40; omega) p ?_
  cases hlv : liveB k.ps p with
  | false =>
    have he : forkS k p = (nilK, 0, 0, 6) := by rw [forkS, if_pos hlv]
    rw [he]
    refine bB_dec (fun h0 => ?_) (fun h0 => ?_)
    · exact rfl
    obtain ⟨n, rfl⟩ : ∃ n : Nat, p = n := ⟨p.toNat, by have h0 : ¬ p < 0 := h0; omega⟩
    refine bB_dec (fun h1 => ?_) (fun h1 => ?_)
    · exact rfl
    have hn : n < k.ps.length := by
      have h1 : ¬ (n : Int) ≥ ((k.ps.map Prc.enc).length : Int) := h1
      rw [List.length_map] at h1
      omega
    have hg := prc_get hn
    have hlf : k.ps[n].live = false := by simpa [liveB, hn] using hlv
    rw [hlf] at hg
    refine ok_some hg ?_
    exact rfl
  | true =>
    obtain ⟨n, rfl, hn, hln⟩ := live_yes hlv
    have hg := prc_get hn
    rw [hln] at hg
    rcases fork_cases k hk n hn hln with he | ⟨c, i, kk, x, he, hF⟩
    · rw [he]
      refine bB_dec (fun h1 => ?_) (fun h1 => ?_)
      · exfalso
        have h1 : (n : Int) ≥ ((k.ps.map Prc.enc).length : Int) := h1
        rw [List.length_map] at h1
        omega
      refine ok_some hg ?_
      exact rfl
    · rw [he]
      have hfin := seg123 k hk n hn c i kk x hF
      have gxc := prc_get hF.cx
      rw [hF.child hn hF.cx] at gxc
      have hc1 := hF.c1
      have hcx := hF.cx
      have hsl := hkr.sl _ (List.getElem_mem hn)
      have hdead := hF.dead
      refine bB_dec (fun h1 => ?_) (fun h1 => ?_)
      · exfalso
        have h1 : (n : Int) ≥ ((k.ps.map Prc.enc).length : Int) := h1
        rw [List.length_map] at h1
        omega
      refine ok_some hg ?_
      refine bB_dec (fun h2 => ?_) (fun h2 => ?_)
      · exfalso
        have h2 : (c : Int) < 1 := h2
        omega
      refine bB_dec (fun h3 => ?_) (fun h3 => ?_)
      · exfalso
        have h3 : (c : Int) ≥ ((x.ps.map Prc.enc).length : Int) := h3
        rw [List.length_map] at h3
        omega
      generalize k.ps[n] = y at hg gxc hsl hfin
      obtain ⟨live, fenced, cd, S⟩ := y
      have hsl : S.length ≤ 10 := hsl
      have view : ∀ e, EnvVw (sg [0, 1] 2) [.var ((kC k.l k.ops k.ps).map .dat), .var ((kC x.l x.ops x.ps).map .dat)] (fun k => memN [] k = true) e (mkE 230 [(1, vInt .i64 (n : Nat)), (5, .rv (.one (.ptr 0 0))), (6, .rv (.one (.ptr 1 0))), (7, vInt .i64 (c : Nat)), (8, vInt .i64 (S.length : Nat))]) →
          View 0 ⟨e, [.var ((kC k.l k.ops k.ps).map .dat), .var ((kC x.l x.ops x.ps).map .dat)]⟩ ⟨mkE 230 [(1, vInt .i64 (n : Nat)), (5, .rv (.one (.ptr 0 0))), (6, .rv (.one (.ptr 1 0))), (7, vInt .i64 (c : Nat)), (8, vInt .i64 (S.length : Nat))], [.var ((kC k.l k.ops k.ps).map .dat), .var ((kC x.l x.ops x.ps).map .dat)]⟩ := fun e he =>
        View.of 2 [0, 1] [] rfl rfl rfl rfl rfl rfl he (.put (notF rfl) rfl (.eq rfl (by simp [kC])) (.put (notF rfl) rfl (.eq rfl (by simp [kC])) (.nil _)))
      refine bB_dec (fun h4 => ?_) (fun h4 => ?_)
      · have h4 : c < k.ps.length := by
          have h4 : (c : Int) < ((k.ps.map Prc.enc).length : Int) := h4
          rw [List.length_map] at h4
          omega
        have gkc := prc_get h4
        rw [hdead h4] at gkc
        refine ok_some gkc ?_
        refine ok_some gxc ?_
        refine ok_some hg ?_
        refine bB_no (by simp) ?_
        refine ok_some gxc ?_
        refine ok_some gxc ?_
        refine ok_some hg ?_
        refine ssame_ok S (by omega) ?_
        refine ⟨trivial, ?_⟩
        refine ⟨_, view _ ?_, hfin⟩
        repeat (first | exact .nil | refine .junk ?_ | refine .eq rfl ?_)
      · refine ok_some gxc ?_
        refine ok_some hg ?_
        refine bB_no (by simp) ?_
        refine ok_some gxc ?_
        refine ok_some gxc ?_
        refine ok_some hg ?_
        refine ssame_ok S (by omega) ?_
        refine ⟨trivial, ?_⟩
        refine ⟨_, view _ ?_, hfin⟩
        repeat (first | exact .nil | refine .junk ?_ | refine .eq rfl ?_)
set_option maxRecDepth 100000 in
theorem pfork_ok (b : List Int) (hb : BYb b) (p : Int) : ACall Try.prog 3 [.rv (.one (.dat (.sl 1 (byD b)))), vInt .i64 p] [] (fun r m => r = vBool true) :=
  acall_body_g Try.func3 l3 rfl (Nat.le_of_ble_eq_true rfl) (pfork_body b hb p)


end Go.Proofs.Ytjofmgkcllffnaa
