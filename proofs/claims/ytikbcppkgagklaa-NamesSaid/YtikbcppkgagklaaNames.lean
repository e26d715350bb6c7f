/-
  'rgtop.Names' returns true: each constant has its value. No condition.
-/
import Derived.Test.YtikbcppkgagklaaAmO
import Derived.Test.YtikbcppkgagklaaRows
import Derived.WalkKit
import Derived.ProofKit
import Derived.OpenShut
import Derived.KernelRfl
set_option linter.unusedSimpArgs false
set_option linter.unnecessarySimpa false
set_option linter.unusedVariables false
namespace Go.Proofs.Ytikbcppkgagklaa
open Go.AM Go.ChangeShapes Go.WideShapes Go.ChangeAt Go.RowKit
def c3 : LF := ⟨36, [.tmp 0], (.seq (.reg [
    ⟨(some 0), .mov (.c (.rv (.one (.dat (.val (.bool false)))))), none⟩]) (.seq (.reg [
    ⟨(some 7), .bsl 1 [(.dat (.val (.int .i64 (0))))] 20 [(0, (.c (.rv (.one (.dat (.val (.int .i64 (0)))))))), (1, (.c (.rv (.one (.dat (.val (.int .i64 (1)))))))), (2, (.c (.rv (.one (.dat (.val (.int .i64 (2)))))))), (3, (.c (.rv (.one (.dat (.val (.int .i64 (3)))))))), (4, (.c (.rv (.one (.dat (.val (.int .i64 (4)))))))), (5, (.c (.rv (.one (.dat (.val (.int .i64 (5)))))))), (6, (.c (.rv (.one (.dat (.val (.int .i64 (6)))))))), (7, (.c (.rv (.one (.dat (.val (.int .i64 (7)))))))), (8, (.c (.rv (.one (.dat (.val (.int .i64 (8)))))))), (9, (.c (.rv (.one (.dat (.val (.int .i64 (9)))))))), (10, (.c (.rv (.one (.dat (.val (.int .i64 (10)))))))), (11, (.c (.rv (.one (.dat (.val (.int .i64 (11)))))))), (12, (.c (.rv (.one (.dat (.val (.int .i64 (12)))))))), (13, (.c (.rv (.one (.dat (.val (.int .i64 (13)))))))), (14, (.c (.rv (.one (.dat (.val (.int .i64 (14)))))))), (15, (.c (.rv (.one (.dat (.val (.int .i64 (15)))))))), (16, (.c (.rv (.one (.dat (.val (.int .i64 (16)))))))), (17, (.c (.rv (.one (.dat (.val (.int .i64 (17)))))))), (18, (.c (.rv (.one (.dat (.val (.int .i64 (18)))))))), (19, (.c (.rv (.one (.dat (.val (.int .i64 (19))))))))], none⟩,
    ⟨(some 1), .mov (.t 7), none⟩]) (.seq (.seq (.reg [
    ⟨(some 8), .mov (.t 1), none⟩,
    ⟨(some 9), .len 1 (.t 8), none⟩,
    ⟨(some 10), .mov (.c (.rv (.one (.dat (.val (.int .i64 (0))))))), none⟩]) (.block 0 (.loop (.seq (.reg [
    ⟨(some 11), .bin .lss (.t 10) (.t 9), none⟩]) (.seq (.cond (.t 11) .skip (.exit 0)) (.seq (.block 1 (.seq (.reg [
    ⟨(some 12), .mov (.t 10), none⟩,
    ⟨(some 13), .idx 1 (.t 8) (.t 10), none⟩,
    ⟨(some 14), .load false 1 (.t 13), none⟩,
    ⟨(some 2), .mov (.t 12), none⟩,
    ⟨(some 3), .mov (.t 14), none⟩]) (.seq (.reg [
    ⟨(some 15), .mov (.t 3), none⟩,
    ⟨(some 16), .mov (.t 2), none⟩,
    ⟨(some 17), .bin .neq (.t 15) (.t 16), none⟩]) (.cond (.t 17) (.seq (.reg [
    ⟨(some 0), .mov (.c (.rv (.one (.dat (.val (.bool false)))))), none⟩]) .ret) .skip)))) (.reg [
    ⟨(some 18), .bin .add (.t 10) (.c (.rv (.one (.dat (.val (.int .i64 (1))))))), none⟩,
    ⟨(some 10), .mov (.t 18), none⟩]))))))) (.seq (.reg [
    ⟨(some 19), .bsl 1 [(.dat (.val (.int .i64 (0))))] 71 [(0, (.c (.rv (.one (.dat (.val (.int .i64 (1)))))))), (1, (.c (.rv (.one (.dat (.val (.int .i64 (2)))))))), (2, (.c (.rv (.one (.dat (.val (.int .i64 (4)))))))), (3, (.c (.rv (.one (.dat (.val (.int .i64 (8)))))))), (4, (.c (.rv (.one (.dat (.val (.int .i64 (16)))))))), (5, (.c (.rv (.one (.dat (.val (.int .i64 (32)))))))), (6, (.c (.rv (.one (.dat (.val (.int .i64 (64)))))))), (7, (.c (.rv (.one (.dat (.val (.int .i64 (128)))))))), (8, (.c (.rv (.one (.dat (.val (.int .i64 (256)))))))), (9, (.c (.rv (.one (.dat (.val (.int .i64 (512)))))))), (10, (.c (.rv (.one (.dat (.val (.int .i64 (1024)))))))), (11, (.c (.rv (.one (.dat (.val (.int .i64 (2048)))))))), (12, (.c (.rv (.one (.dat (.val (.int .i64 (4095)))))))), (13, (.c (.rv (.one (.dat (.val (.int .i64 (12)))))))), (14, (.c (.rv (.one (.dat (.val (.int .i64 (1)))))))), (15, (.c (.rv (.one (.dat (.val (.int .i64 (2)))))))), (16, (.c (.rv (.one (.dat (.val (.int .i64 (3)))))))), (17, (.c (.rv (.one (.dat (.val (.int .i64 (4)))))))), (18, (.c (.rv (.one (.dat (.val (.int .i64 (5)))))))), (19, (.c (.rv (.one (.dat (.val (.int .i64 (6)))))))), (20, (.c (.rv (.one (.dat (.val (.int .i64 (400)))))))), (21, (.c (.rv (.one (.dat (.val (.int .i64 (40)))))))), (22, (.c (.rv (.one (.dat (.val (.int .i64 (6)))))))), (23, (.c (.rv (.one (.dat (.val (.int .i64 (2147483648)))))))), (24, (.c (.rv (.one (.dat (.val (.int .i64 (1)))))))), (25, (.c (.rv (.one (.dat (.val (.int .i64 (0)))))))), (26, (.c (.rv (.one (.dat (.val (.int .i64 (30)))))))), (27, (.c (.rv (.one (.dat (.val (.int .i64 (3)))))))), (28, (.c (.rv (.one (.dat (.val (.int .i64 (60)))))))), (29, (.c (.rv (.one (.dat (.val (.int .i64 (12)))))))), (30, (.c (.rv (.one (.dat (.val (.int .i64 (6)))))))), (31, (.c (.rv (.one (.dat (.val (.int .i64 (1)))))))), (32, (.c (.rv (.one (.dat (.val (.int .i64 (2)))))))), (33, (.c (.rv (.one (.dat (.val (.int .i64 (3)))))))), (34, (.c (.rv (.one (.dat (.val (.int .i64 (4)))))))), (35, (.c (.rv (.one (.dat (.val (.int .i64 (5)))))))), (36, (.c (.rv (.one (.dat (.val (.int .i64 (40)))))))), (37, (.c (.rv (.one (.dat (.val (.int .i64 (60)))))))), (38, (.c (.rv (.one (.dat (.val (.int .i64 (8)))))))), (39, (.c (.rv (.one (.dat (.val (.int .i64 (4)))))))), (40, (.c (.rv (.one (.dat (.val (.int .i64 (8)))))))), (41, (.c (.rv (.one (.dat (.val (.int .i64 (10)))))))), (42, (.c (.rv (.one (.dat (.val (.int .i64 (60)))))))), (43, (.c (.rv (.one (.dat (.val (.int .i64 (1)))))))), (44, (.c (.rv (.one (.dat (.val (.int .i64 (2)))))))), (45, (.c (.rv (.one (.dat (.val (.int .i64 (3)))))))), (46, (.c (.rv (.one (.dat (.val (.int .i64 (4)))))))), (47, (.c (.rv (.one (.dat (.val (.int .i64 (5)))))))), (48, (.c (.rv (.one (.dat (.val (.int .i64 (6)))))))), (49, (.c (.rv (.one (.dat (.val (.int .i64 (7)))))))), (50, (.c (.rv (.one (.dat (.val (.int .i64 (8)))))))), (51, (.c (.rv (.one (.dat (.val (.int .i64 (9)))))))), (52, (.c (.rv (.one (.dat (.val (.int .i64 (10)))))))), (53, (.c (.rv (.one (.dat (.val (.int .i64 (11)))))))), (54, (.c (.rv (.one (.dat (.val (.int .i64 (12)))))))), (55, (.c (.rv (.one (.dat (.val (.int .i64 (13)))))))), (56, (.c (.rv (.one (.dat (.val (.int .i64 (14)))))))), (57, (.c (.rv (.one (.dat (.val (.int .i64 (15)))))))), (58, (.c (.rv (.one (.dat (.val (.int .i64 (16)))))))), (59, (.c (.rv (.one (.dat (.val (.int .i64 (17)))))))), (60, (.c (.rv (.one (.dat (.val (.int .i64 (18)))))))), (61, (.c (.rv (.one (.dat (.val (.int .i64 (19)))))))), (62, (.c (.rv (.one (.dat (.val (.int .i64 (20)))))))), (63, (.c (.rv (.one (.dat (.val (.int .i64 (21)))))))), (64, (.c (.rv (.one (.dat (.val (.int .i64 (22)))))))), (65, (.c (.rv (.one (.dat (.val (.int .i64 (1)))))))), (66, (.c (.rv (.one (.dat (.val (.int .i64 (2)))))))), (67, (.c (.rv (.one (.dat (.val (.int .i64 (1)))))))), (68, (.c (.rv (.one (.dat (.val (.int .i64 (2)))))))), (69, (.c (.rv (.one (.dat (.val (.int .i64 (3)))))))), (70, (.c (.rv (.one (.dat (.val (.int .i64 (80))))))))], none⟩,
    ⟨(some 4), .mov (.t 19), none⟩]) (.seq (.reg [
    ⟨(some 20), .bsl 1 [(.dat (.val (.int .i64 (0))))] 71 [(0, (.c (.rv (.one (.dat (.val (.int .i64 (1)))))))), (1, (.c (.rv (.one (.dat (.val (.int .i64 (2)))))))), (2, (.c (.rv (.one (.dat (.val (.int .i64 (4)))))))), (3, (.c (.rv (.one (.dat (.val (.int .i64 (8)))))))), (4, (.c (.rv (.one (.dat (.val (.int .i64 (16)))))))), (5, (.c (.rv (.one (.dat (.val (.int .i64 (32)))))))), (6, (.c (.rv (.one (.dat (.val (.int .i64 (64)))))))), (7, (.c (.rv (.one (.dat (.val (.int .i64 (128)))))))), (8, (.c (.rv (.one (.dat (.val (.int .i64 (256)))))))), (9, (.c (.rv (.one (.dat (.val (.int .i64 (512)))))))), (10, (.c (.rv (.one (.dat (.val (.int .i64 (1024)))))))), (11, (.c (.rv (.one (.dat (.val (.int .i64 (2048)))))))), (12, (.c (.rv (.one (.dat (.val (.int .i64 (4095)))))))), (13, (.c (.rv (.one (.dat (.val (.int .i64 (12)))))))), (14, (.c (.rv (.one (.dat (.val (.int .i64 (1)))))))), (15, (.c (.rv (.one (.dat (.val (.int .i64 (2)))))))), (16, (.c (.rv (.one (.dat (.val (.int .i64 (3)))))))), (17, (.c (.rv (.one (.dat (.val (.int .i64 (4)))))))), (18, (.c (.rv (.one (.dat (.val (.int .i64 (5)))))))), (19, (.c (.rv (.one (.dat (.val (.int .i64 (6)))))))), (20, (.c (.rv (.one (.dat (.val (.int .i64 (400)))))))), (21, (.c (.rv (.one (.dat (.val (.int .i64 (40)))))))), (22, (.c (.rv (.one (.dat (.val (.int .i64 (6)))))))), (23, (.c (.rv (.one (.dat (.val (.int .i64 (2147483648)))))))), (24, (.c (.rv (.one (.dat (.val (.int .i64 (1)))))))), (25, (.c (.rv (.one (.dat (.val (.int .i64 (0)))))))), (26, (.c (.rv (.one (.dat (.val (.int .i64 (30)))))))), (27, (.c (.rv (.one (.dat (.val (.int .i64 (3)))))))), (28, (.c (.rv (.one (.dat (.val (.int .i64 (60)))))))), (29, (.c (.rv (.one (.dat (.val (.int .i64 (12)))))))), (30, (.c (.rv (.one (.dat (.val (.int .i64 (6)))))))), (31, (.c (.rv (.one (.dat (.val (.int .i64 (1)))))))), (32, (.c (.rv (.one (.dat (.val (.int .i64 (2)))))))), (33, (.c (.rv (.one (.dat (.val (.int .i64 (3)))))))), (34, (.c (.rv (.one (.dat (.val (.int .i64 (4)))))))), (35, (.c (.rv (.one (.dat (.val (.int .i64 (5)))))))), (36, (.c (.rv (.one (.dat (.val (.int .i64 (40)))))))), (37, (.c (.rv (.one (.dat (.val (.int .i64 (60)))))))), (38, (.c (.rv (.one (.dat (.val (.int .i64 (8)))))))), (39, (.c (.rv (.one (.dat (.val (.int .i64 (4)))))))), (40, (.c (.rv (.one (.dat (.val (.int .i64 (8)))))))), (41, (.c (.rv (.one (.dat (.val (.int .i64 (10)))))))), (42, (.c (.rv (.one (.dat (.val (.int .i64 (60)))))))), (43, (.c (.rv (.one (.dat (.val (.int .i64 (1)))))))), (44, (.c (.rv (.one (.dat (.val (.int .i64 (2)))))))), (45, (.c (.rv (.one (.dat (.val (.int .i64 (3)))))))), (46, (.c (.rv (.one (.dat (.val (.int .i64 (4)))))))), (47, (.c (.rv (.one (.dat (.val (.int .i64 (5)))))))), (48, (.c (.rv (.one (.dat (.val (.int .i64 (6)))))))), (49, (.c (.rv (.one (.dat (.val (.int .i64 (7)))))))), (50, (.c (.rv (.one (.dat (.val (.int .i64 (8)))))))), (51, (.c (.rv (.one (.dat (.val (.int .i64 (9)))))))), (52, (.c (.rv (.one (.dat (.val (.int .i64 (10)))))))), (53, (.c (.rv (.one (.dat (.val (.int .i64 (11)))))))), (54, (.c (.rv (.one (.dat (.val (.int .i64 (12)))))))), (55, (.c (.rv (.one (.dat (.val (.int .i64 (13)))))))), (56, (.c (.rv (.one (.dat (.val (.int .i64 (14)))))))), (57, (.c (.rv (.one (.dat (.val (.int .i64 (15)))))))), (58, (.c (.rv (.one (.dat (.val (.int .i64 (16)))))))), (59, (.c (.rv (.one (.dat (.val (.int .i64 (17)))))))), (60, (.c (.rv (.one (.dat (.val (.int .i64 (18)))))))), (61, (.c (.rv (.one (.dat (.val (.int .i64 (19)))))))), (62, (.c (.rv (.one (.dat (.val (.int .i64 (20)))))))), (63, (.c (.rv (.one (.dat (.val (.int .i64 (21)))))))), (64, (.c (.rv (.one (.dat (.val (.int .i64 (22)))))))), (65, (.c (.rv (.one (.dat (.val (.int .i64 (1)))))))), (66, (.c (.rv (.one (.dat (.val (.int .i64 (2)))))))), (67, (.c (.rv (.one (.dat (.val (.int .i64 (1)))))))), (68, (.c (.rv (.one (.dat (.val (.int .i64 (2)))))))), (69, (.c (.rv (.one (.dat (.val (.int .i64 (3)))))))), (70, (.c (.rv (.one (.dat (.val (.int .i64 (80))))))))], none⟩,
    ⟨(some 5), .mov (.t 20), none⟩]) (.seq (.seq (.reg [
    ⟨(some 21), .mov (.t 5), none⟩,
    ⟨(some 22), .len 1 (.t 21), none⟩,
    ⟨(some 23), .mov (.c (.rv (.one (.dat (.val (.int .i64 (0))))))), none⟩]) (.block 2 (.loop (.seq (.reg [
    ⟨(some 24), .bin .lss (.t 23) (.t 22), none⟩]) (.seq (.cond (.t 24) .skip (.exit 2)) (.seq (.block 3 (.seq (.reg [
    ⟨(some 25), .mov (.t 23), none⟩,
    ⟨(some 6), .mov (.t 25), none⟩]) (.seq (.draw [
    ⟨(some 26), .mov (.t 4), none⟩,
    ⟨(some 27), .mov (.t 6), none⟩,
    ⟨(some 28), .idx 1 (.t 26) (.t 27), none⟩,
    ⟨(some 29), .load false 1 (.t 28), none⟩,
    ⟨(some 30), .mov (.t 5), none⟩,
    ⟨(some 31), .mov (.t 6), none⟩,
    ⟨(some 32), .idx 1 (.t 30) (.t 31), none⟩,
    ⟨(some 33), .load false 1 (.t 32), none⟩,
    ⟨(some 34), .bin .neq (.t 29) (.t 33), none⟩]
    [[(0, none), (1, none), (2, none), (3, none), (4, none), (5, none), (6, none), (7, none), (8, none)]]) (.cond (.t 34) (.seq (.reg [
    ⟨(some 0), .mov (.c (.rv (.one (.dat (.val (.bool false)))))), none⟩]) .ret) .skip)))) (.reg [
    ⟨(some 35), .bin .add (.t 23) (.c (.rv (.one (.dat (.val (.int .i64 (1))))))), none⟩,
    ⟨(some 23), .mov (.t 35), none⟩]))))))) (.seq (.reg [
    ⟨(some 0), .mov (.c (.rv (.one (.dat (.val (.bool true)))))), none⟩]) .ret)))))))⟩
def numbers : List Int := [1, 2, 4, 8, 16, 32, 64, 128, 256, 512, 1024, 2048, 4095, 12, 1, 2, 3, 4, 5, 6, 400, 40, 6, 2147483648, 1, 0, 30, 3, 60, 12, 6, 1, 2, 3, 4, 5, 40, 60, 8, 4, 8, 10, 60, 1, 2, 3, 4, 5, 6, 7, 8, 9, 10, 11, 12, 13, 14, 15, 16, 17, 18, 19, 20, 21, 22, 1, 2, 1, 2, 3, 80]
def had : List (List CC) := [[CC.dat (.val (.int .i64 1))], [CC.dat (.val (.int .i64 2))], [CC.dat (.val (.int .i64 4))], [CC.dat (.val (.int .i64 8))], [CC.dat (.val (.int .i64 16))], [CC.dat (.val (.int .i64 32))], [CC.dat (.val (.int .i64 64))], [CC.dat (.val (.int .i64 128))], [CC.dat (.val (.int .i64 256))], [CC.dat (.val (.int .i64 512))], [CC.dat (.val (.int .i64 1024))], [CC.dat (.val (.int .i64 2048))], [CC.dat (.val (.int .i64 4095))], [CC.dat (.val (.int .i64 12))], [CC.dat (.val (.int .i64 1))], [CC.dat (.val (.int .i64 2))], [CC.dat (.val (.int .i64 3))], [CC.dat (.val (.int .i64 4))], [CC.dat (.val (.int .i64 5))], [CC.dat (.val (.int .i64 6))], [CC.dat (.val (.int .i64 400))], [CC.dat (.val (.int .i64 40))], [CC.dat (.val (.int .i64 6))], [CC.dat (.val (.int .i64 2147483648))], [CC.dat (.val (.int .i64 1))], [CC.dat (.val (.int .i64 0))], [CC.dat (.val (.int .i64 30))], [CC.dat (.val (.int .i64 3))], [CC.dat (.val (.int .i64 60))], [CC.dat (.val (.int .i64 12))], [CC.dat (.val (.int .i64 6))], [CC.dat (.val (.int .i64 1))], [CC.dat (.val (.int .i64 2))], [CC.dat (.val (.int .i64 3))], [CC.dat (.val (.int .i64 4))], [CC.dat (.val (.int .i64 5))], [CC.dat (.val (.int .i64 40))], [CC.dat (.val (.int .i64 60))], [CC.dat (.val (.int .i64 8))], [CC.dat (.val (.int .i64 4))], [CC.dat (.val (.int .i64 8))], [CC.dat (.val (.int .i64 10))], [CC.dat (.val (.int .i64 60))], [CC.dat (.val (.int .i64 1))], [CC.dat (.val (.int .i64 2))], [CC.dat (.val (.int .i64 3))], [CC.dat (.val (.int .i64 4))], [CC.dat (.val (.int .i64 5))], [CC.dat (.val (.int .i64 6))], [CC.dat (.val (.int .i64 7))], [CC.dat (.val (.int .i64 8))], [CC.dat (.val (.int .i64 9))], [CC.dat (.val (.int .i64 10))], [CC.dat (.val (.int .i64 11))], [CC.dat (.val (.int .i64 12))], [CC.dat (.val (.int .i64 13))], [CC.dat (.val (.int .i64 14))], [CC.dat (.val (.int .i64 15))], [CC.dat (.val (.int .i64 16))], [CC.dat (.val (.int .i64 17))], [CC.dat (.val (.int .i64 18))], [CC.dat (.val (.int .i64 19))], [CC.dat (.val (.int .i64 20))], [CC.dat (.val (.int .i64 21))], [CC.dat (.val (.int .i64 22))], [CC.dat (.val (.int .i64 1))], [CC.dat (.val (.int .i64 2))], [CC.dat (.val (.int .i64 1))], [CC.dat (.val (.int .i64 2))], [CC.dat (.val (.int .i64 3))], [CC.dat (.val (.int .i64 80))]]
theorem l3 : lowF Try.prog Try.f3 = some c3 := by kernel_rfl
set_option maxRecDepth 100000 in
set_option maxHeartbeats 4000000 in
theorem names_body : body Try.prog c3 [] [] (fun r m => r = vBool true) := by
  refine loop_upd (fun k => k ≤ 20) (fun k => [(10, vInt .i64 (k : Nat)), (2, .junk), (3, .junk), (11, .junk), (12, .junk), (13, .junk), (14, .junk), (15, .junk), (16, .junk), (17, .junk), (18, .junk)]) (fun _ => []) (fun k => 20 - k) 0 (by omega) (weak_env (Nat.zero_le _) ?_) (fun k hk => ?_)
  · repeat (first | exact .nil | refine .junk ?_ | refine .keep ?_)
  · refine bB_split (fun h => ?_) (fun h => ?_)
    · have hk : k < 20 := by
        have h : (k : Int) < 20 := of_decide_eq_true h
        omega
      refine ok_some (idxZ_nat hk) ?_
      refine ok_some (x := [CC.dat (.val (.int .i64 (k : Nat)))]) ?_ ?_
      · show nth ((List.range 20).map fun a => [CC.dat (.val (.int .i64 (a : Nat)))]) k = _
        rw [nth_eq, List.getElem?_map, List.getElem?_range hk]; rfl
      · refine bB_no (by simp) ?_
        refine ⟨k + 1, hk, ?_, weak_env (Nat.zero_le _) ?_⟩
        · show 20 - (k + 1) < 20 - k
          omega
        · repeat (first | exact .nil | refine .junk ?_ | refine .put (next_i64 (by omega)) ?_ | refine .keep ?_)
    · skip
      clear h hk
      refine loop_upd (fun k => k ≤ 71) (fun (k : Nat) => [(23, vInt .i64 (k : Nat)), (6, .junk), (24, .junk), (25, .junk), (26, .junk), (27, .junk), (28, .junk), (29, .junk), (30, .junk), (31, .junk), (32, .junk), (33, .junk), (34, .junk), (35, .junk)]) (fun _ => []) (fun k => 71 - k) 0 (by omega) (weak_env (Nat.zero_le _) ?_) (fun k hk => ?_)
      · repeat (first | exact .nil | refine .junk ?_ | refine .keep ?_)
      · refine bB_split (fun h => ?_) (fun h => ?_)
        · have hk : k < 71 := by
            have h : (k : Int) < 71 := of_decide_eq_true h
            omega
          have hl : ∃ v : Int, nth had k = some [CC.dat (.val (.int .i64 v))] := by
            have hl : k < numbers.length := hk
            refine ⟨numbers[k], ?_⟩
            have e : had = numbers.map fun v => [CC.dat (.val (.int .i64 v))] := rfl
            rw [e, nth_eq, List.getElem?_map, List.getElem?_eq_getElem hl]; rfl
          obtain ⟨v, hv⟩ := hl
          refine ok_some (idxZ_nat hk) ?_
          refine ok_some (x := [CC.dat (.val (.int .i64 v))]) hv ?_
          refine ok_some (idxZ_nat hk) ?_
          refine ok_some (x := [CC.dat (.val (.int .i64 v))]) hv ?_
          refine bB_no (by simp) ?_
          refine ⟨k + 1, hk, ?_, weak_env (Nat.zero_le _) ?_⟩
          · show 71 - (k + 1) < 71 - k
            omega
          · repeat (first | exact .nil | refine .junk ?_ | refine .put (next_i64 (by omega)) ?_ | refine .keep ?_)
        · exact rfl

theorem names_calls (W : World) : Calls Try.prog 3 #[] W fun e w' => e = .returned (.bool true) ∧ Below W.heap.size W w' :=
  calls_of_acall_plain (args := []) (acall_body Try.func3 l3 rfl (Nat.zero_le _) names_body) W [] rfl (fun i c h => by simp at h) (fun r m h => h)

theorem own : ownKnob Try.prog.godebug = none := by kernel_rfl

set_option maxRecDepth 100000 in
theorem names_lifted (os : Os) (started : os.Started) (H : Type) (enc : TypeId × Value → H) :
    ReturnsInHanded {} Try.checked os 3 .any (Rows.namesSpec.pre6 enc Try.prog Try.f3 Rows.namesRow.domain false) (Rows.namesSpec.post enc Try.prog Try.f3 false true false false) := by
  refine returnsInHanded_of_change (C := Try.checked) own started (by kernel_rfl) Try.func3
    (ChangeSpec.witness6 (enc := enc) (C := Try.checked) false ⟨#[], #[], []⟩ 8 (by kernel_rfl) (by kernel_rfl) (by kernel_rfl) (by kernel_rfl)) ?_
  intro W base args ds gs before hval0 hW hcnd _
  have hW' := hW
  obtain ⟨p, q, hA0, hV, rfl, hfz, hnd⟩ := hW
  have hA : DataW.TrodAll enc Try.prog W 0 (fun _ => true) true Try.f3.params.toList args.toList ds p := hA0
  rw [Try.params3] at hA
  obtain ⟨hargs, rfl, rfl⟩ := trodAll_nil hA
  obtain rfl : args = #[] := by cases args; simp_all
  obtain ⟨rfl, rfl⟩ := trodVars_none hV
  clear hA0 hval0
  simp only [List.append_nil] at hW'
  refine (names_calls W).mono fun e W' ⟨he, hw⟩ => ?_
  subst he
  exact ⟨_, rfl, ⟨_, _, _, [], [], [], hW', trodAll_cons_mk (shut_bool Try.underlying4 _) trodAll_mk0, trodAll_mk0, rfl, hw.frame _, fun h => by cases h⟩⟩

theorem namesSaid : Rows.NamesSaid :=
  OpenClaim.holds_of_wide 3 Try.f3 rfl rfl rfl rfl rfl rfl rfl ⟨rfl, rfl, rfl, rfl, rfl⟩ rfl rfl rfl rfl rfl (by kernel_rfl) Try.func3 (by kernel_rfl)
    (of_decide_eq_true (by kernel_rfl)) (by unfold Func.isWrapper; first | (rw [if_pos (by decide +kernel)]; kernel_rfl) | (rw [if_neg (by decide +kernel)]; exact ⟨rfl, rfl⟩))
    (fun os started H enc _ => names_lifted os started H enc)
end Go.Proofs.Ytikbcppkgagklaa
