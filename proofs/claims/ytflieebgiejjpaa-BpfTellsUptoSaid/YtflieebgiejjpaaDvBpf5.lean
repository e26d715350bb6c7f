import Derived.Test.YtflieebgiejjpaaAmZ2
import Derived.Test.YtflieebgiejjpaaDvBpf4
import Derived.Test.YtflieebgiejjpaaAmY
set_option linter.unusedVariables false
set_option linter.unusedSimpArgs false
namespace Go.Proofs.Ytflieebgiejjpaa
open Go.AM Go.ChangeShapes Go.WideShapes Go.ChangeAt Go.RowKit
def c42 : LF := ⟨50, [.tmp 2, .cell true 2 3], (.seq (.reg [
    ⟨(some 2), .mov (.c (.rv (.one .esl))), none⟩,
    ⟨(some 3), .alloc [(.dat (.val (.int .i64 (0)))), (.dat (.val (.int .i64 (0))))], none⟩]) (.seq (.seq (.reg [
    ⟨(some 8), .mov (.t 0), none⟩,
    ⟨(some 9), .call (.c (.rv (.one (.fn 38 [])))) [(.t 8)], none⟩,
    ⟨(some 4), .alloc [(.dat (.val (.int .i64 (0)))), (.dat (.val (.int .i64 (0))))], none⟩,
    ⟨none, .store 2 (.t 4) (.t 9), none⟩]) (.seq (.reg [
    ⟨(some 10), .fadr 0 (.t 4), none⟩,
    ⟨(some 11), .load false 1 (.t 10), none⟩,
    ⟨(some 12), .bin .neq (.t 11) (.c (.rv (.one (.dat (.val (.int .i64 (0))))))), none⟩]) (.cond (.t 12) (.seq (.draw [
    ⟨(some 13), .load true 2 (.t 4), none⟩,
    ⟨(some 2), .mov (.c (.rv (.one .esl))), none⟩,
    ⟨none, .store 2 (.t 3) (.t 13), none⟩]
    [(.cons 0 none (.cons 1 none (.cons 2 (some []) .nil)))]) .ret) .skip))) (.seq (.reg [
    ⟨(some 5), .mov (.c (.rv (.one .esl))), none⟩]) (.seq (.seq (.reg [
    ⟨(some 14), .mov (.t 0), none⟩,
    ⟨(some 15), .len 1 (.t 14), none⟩,
    ⟨(some 16), .mov (.c (.rv (.one (.dat (.val (.int .i64 (0))))))), none⟩]) (.block 0 (.loop (.seq (.reg [
    ⟨(some 17), .bin .lss (.t 16) (.t 15), none⟩]) (.seq (.cond (.t 17) .skip (.exit 0)) (.seq (.block 1 (.seq (.reg [
    ⟨(some 18), .idx 4 (.t 14) (.t 16), none⟩,
    ⟨(some 19), .load true 4 (.t 18), none⟩,
    ⟨(some 7), .alloc [(.dat (.val (.int .i64 (0)))), (.dat (.val (.int .i64 (0)))), (.dat (.val (.int .i64 (0)))), (.dat (.val (.int .i64 (0))))], none⟩,
    ⟨none, .store 4 (.t 7) (.t 19), none⟩]) (.reg [
    ⟨(some 20), .mov (.t 5), none⟩,
    ⟨(some 21), .fadr 0 (.t 7), none⟩,
    ⟨(some 22), .load false 1 (.t 21), none⟩,
    ⟨(some 23), .conv .u8 (.t 22), none⟩,
    ⟨(some 24), .fadr 1 (.t 7), none⟩,
    ⟨(some 25), .load false 1 (.t 24), none⟩,
    ⟨(some 26), .conv .u8 (.t 25), none⟩,
    ⟨(some 27), .fadr 2 (.t 7), none⟩,
    ⟨(some 28), .load false 1 (.t 27), none⟩,
    ⟨(some 29), .conv .u8 (.t 28), none⟩,
    ⟨(some 30), .fadr 3 (.t 7), none⟩,
    ⟨(some 31), .load false 1 (.t 30), none⟩,
    ⟨(some 32), .conv .u8 (.t 31), none⟩,
    ⟨(some 33), .fadr 3 (.t 7), none⟩,
    ⟨(some 34), .load false 1 (.t 33), none⟩,
    ⟨(some 35), .bin .shr (.t 34) (.c (.rv (.one (.dat (.val (.int .u64 (8))))))), none⟩,
    ⟨(some 36), .conv .u8 (.t 35), none⟩,
    ⟨(some 37), .fadr 3 (.t 7), none⟩,
    ⟨(some 38), .load false 1 (.t 37), none⟩,
    ⟨(some 39), .bin .shr (.t 38) (.c (.rv (.one (.dat (.val (.int .u64 (16))))))), none⟩,
    ⟨(some 40), .conv .u8 (.t 39), none⟩,
    ⟨(some 41), .fadr 3 (.t 7), none⟩,
    ⟨(some 42), .load false 1 (.t 41), none⟩,
    ⟨(some 43), .bin .shr (.t 42) (.c (.rv (.one (.dat (.val (.int .u64 (24))))))), none⟩,
    ⟨(some 44), .conv .u8 (.t 43), none⟩,
    ⟨(some 45), .bsl 1 [(.dat (.val (.int .u8 (0))))] 7 [(0, (.t 23)), (1, (.t 26)), (2, (.t 29)), (3, (.t 32)), (4, (.t 36)), (5, (.t 40)), (6, (.t 44))], none⟩,
    ⟨(some 46), .app 1 1 (.t 20) (.t 45), none⟩,
    ⟨(some 5), .mov (.t 46), none⟩]))) (.reg [
    ⟨(some 47), .bin .add (.t 16) (.c (.rv (.one (.dat (.val (.int .i64 (1))))))), none⟩,
    ⟨(some 16), .mov (.t 47), none⟩]))))))) (.seq (.reg [
    ⟨(some 48), .mov (.t 5), none⟩,
    ⟨(some 49), .build [(.dat (.val (.int .i64 (0)))), (.dat (.val (.int .i64 (0))))] [], none⟩,
    ⟨(some 2), .mov (.t 48), none⟩,
    ⟨none, .store 2 (.t 3) (.t 49), none⟩]) .ret)))))⟩
def c44 : LF := ⟨67, [.tmp 2, .cell true 2 3], (.seq (.reg [
    ⟨(some 2), .mov (.c (.rv (.one .esl))), none⟩,
    ⟨(some 3), .alloc [(.dat (.val (.int .i64 (0)))), (.dat (.val (.int .i64 (0))))], none⟩]) (.seq (.seq (.reg [
    ⟨(some 6), .mov (.t 0), none⟩,
    ⟨(some 7), .len 1 (.t 6), none⟩,
    ⟨(some 8), .bin .rem (.t 7) (.c (.rv (.one (.dat (.val (.int .i64 (7))))))), none⟩,
    ⟨(some 9), .bin .neq (.t 8) (.c (.rv (.one (.dat (.val (.int .i64 (0))))))), none⟩,
    ⟨(some 10), .mov (.t 9), none⟩,
    ⟨(some 11), .mov (.t 0), (some (10, false))⟩,
    ⟨(some 12), .len 1 (.t 11), (some (10, false))⟩,
    ⟨(some 13), .bin .gtr (.t 12) (.c (.rv (.one (.dat (.val (.int .i64 (2800))))))), (some (10, false))⟩,
    ⟨(some 14), .pick (.t 10) (.c (.rv (.one (.dat (.val (.bool true)))))) (.t 13), none⟩]) (.cond (.t 14) (.seq (.reg [
    ⟨(some 15), .build [(.dat (.val (.int .i64 (0)))), (.dat (.val (.int .i64 (0))))] [(0, 1, (.c (.rv (.one (.dat (.val (.int .i64 (2))))))))], none⟩,
    ⟨(some 2), .mov (.c (.rv (.one .esl))), none⟩,
    ⟨none, .store 2 (.t 3) (.t 15), none⟩]) .ret) .skip)) (.seq (.reg [
    ⟨(some 4), .mov (.c (.rv (.one .esl))), none⟩]) (.seq (.block 0 (.loop (.seq (.seq (.reg [
    ⟨(some 16), .mov (.t 0), none⟩,
    ⟨(some 17), .len 1 (.t 16), none⟩,
    ⟨(some 18), .bin .gtr (.t 17) (.c (.rv (.one (.dat (.val (.int .i64 (0))))))), none⟩]) (.cond (.t 18) .skip (.exit 0))) (.seq (.block 1 (.draw [
    ⟨(some 21), .mov (.t 4), none⟩,
    ⟨(some 22), .mov (.t 0), none⟩,
    ⟨(some 23), .idx 1 (.t 22) (.c (.rv (.one (.dat (.val (.int .i64 (0))))))), none⟩,
    ⟨(some 24), .load false 1 (.t 23), none⟩,
    ⟨(some 25), .conv .i64 (.t 24), none⟩,
    ⟨(some 26), .mov (.t 0), none⟩,
    ⟨(some 27), .idx 1 (.t 26) (.c (.rv (.one (.dat (.val (.int .i64 (1))))))), none⟩,
    ⟨(some 28), .load false 1 (.t 27), none⟩,
    ⟨(some 29), .conv .i64 (.t 28), none⟩,
    ⟨(some 30), .mov (.t 0), none⟩,
    ⟨(some 31), .idx 1 (.t 30) (.c (.rv (.one (.dat (.val (.int .i64 (2))))))), none⟩,
    ⟨(some 32), .load false 1 (.t 31), none⟩,
    ⟨(some 33), .conv .i64 (.t 32), none⟩,
    ⟨(some 34), .mov (.t 0), none⟩,
    ⟨(some 35), .idx 1 (.t 34) (.c (.rv (.one (.dat (.val (.int .i64 (3))))))), none⟩,
    ⟨(some 36), .load false 1 (.t 35), none⟩,
    ⟨(some 37), .conv .i64 (.t 36), none⟩,
    ⟨(some 38), .mov (.t 0), none⟩,
    ⟨(some 39), .idx 1 (.t 38) (.c (.rv (.one (.dat (.val (.int .i64 (4))))))), none⟩,
    ⟨(some 40), .load false 1 (.t 39), none⟩,
    ⟨(some 41), .conv .i64 (.t 40), none⟩,
    ⟨(some 42), .bin .shl (.t 41) (.c (.rv (.one (.dat (.val (.int .u64 (8))))))), none⟩,
    ⟨(some 43), .bin .or (.t 37) (.t 42), none⟩,
    ⟨(some 44), .mov (.t 0), none⟩,
    ⟨(some 45), .idx 1 (.t 44) (.c (.rv (.one (.dat (.val (.int .i64 (5))))))), none⟩,
    ⟨(some 46), .load false 1 (.t 45), none⟩,
    ⟨(some 47), .conv .i64 (.t 46), none⟩,
    ⟨(some 48), .bin .shl (.t 47) (.c (.rv (.one (.dat (.val (.int .u64 (16))))))), none⟩,
    ⟨(some 49), .bin .or (.t 43) (.t 48), none⟩,
    ⟨(some 50), .mov (.t 0), none⟩,
    ⟨(some 51), .idx 1 (.t 50) (.c (.rv (.one (.dat (.val (.int .i64 (6))))))), none⟩,
    ⟨(some 52), .load false 1 (.t 51), none⟩,
    ⟨(some 53), .conv .i64 (.t 52), none⟩,
    ⟨(some 54), .bin .shl (.t 53) (.c (.rv (.one (.dat (.val (.int .u64 (24))))))), none⟩,
    ⟨(some 55), .bin .or (.t 49) (.t 54), none⟩,
    ⟨(some 56), .build [(.dat (.val (.int .i64 (0)))), (.dat (.val (.int .i64 (0)))), (.dat (.val (.int .i64 (0)))), (.dat (.val (.int .i64 (0))))] [(0, 1, (.t 25)), (1, 1, (.t 29)), (2, 1, (.t 33)), (3, 1, (.t 55))], none⟩,
    ⟨(some 57), .bsl 4 [(.dat (.val (.int .i64 (0)))), (.dat (.val (.int .i64 (0)))), (.dat (.val (.int .i64 (0)))), (.dat (.val (.int .i64 (0))))] 1 [(0, (.t 56))], none⟩,
    ⟨(some 58), .app 4 32 (.t 21) (.t 57), none⟩,
    ⟨(some 4), .mov (.t 58), none⟩]
    [(.cons 0 none (.cons 1 none (.cons 2 none (.cons 3 none (.cons 4 none (.cons 5 none (.cons 6 none (.cons 7 none (.cons 8 none (.cons 9 none (.cons 10 none (.cons 11 none (.cons 12 none (.cons 13 none (.cons 14 none (.cons 15 none (.cons 16 none (.cons 17 none (.cons 18 none (.cons 19 none (.cons 20 none (.cons 21 none (.cons 22 none (.cons 23 none (.cons 24 none (.cons 25 none (.cons 26 none (.cons 27 none (.cons 28 none (.cons 29 none (.cons 30 none (.cons 31 none (.cons 32 none (.cons 33 none (.cons 34 none (.cons 35 none (.cons 36 (some []) (.cons 37 (some []) (.cons 38 none .nil)))))))))))))))))))))))))))))))))))))))])) (.reg [
    ⟨(some 19), .mov (.t 0), none⟩,
    ⟨(some 20), .slc 1 (.t 19) (some (.c (.rv (.one (.dat (.val (.int .i64 (7)))))))) none none, none⟩,
    ⟨(some 0), .mov (.t 20), none⟩]))))) (.seq (.seq (.reg [
    ⟨(some 59), .mov (.t 4), none⟩,
    ⟨(some 60), .call (.c (.rv (.one (.fn 38 [])))) [(.t 59)], none⟩,
    ⟨(some 5), .alloc [(.dat (.val (.int .i64 (0)))), (.dat (.val (.int .i64 (0))))], none⟩,
    ⟨none, .store 2 (.t 5) (.t 60), none⟩]) (.seq (.reg [
    ⟨(some 61), .fadr 0 (.t 5), none⟩,
    ⟨(some 62), .load false 1 (.t 61), none⟩,
    ⟨(some 63), .bin .neq (.t 62) (.c (.rv (.one (.dat (.val (.int .i64 (0))))))), none⟩]) (.cond (.t 63) (.seq (.draw [
    ⟨(some 64), .load true 2 (.t 5), none⟩,
    ⟨(some 2), .mov (.c (.rv (.one .esl))), none⟩,
    ⟨none, .store 2 (.t 3) (.t 64), none⟩]
    [(.cons 0 none (.cons 1 none (.cons 2 (some []) .nil)))]) .ret) .skip))) (.seq (.reg [
    ⟨(some 65), .mov (.t 4), none⟩,
    ⟨(some 66), .build [(.dat (.val (.int .i64 (0)))), (.dat (.val (.int .i64 (0))))] [], none⟩,
    ⟨(some 2), .mov (.t 65), none⟩,
    ⟨none, .store 2 (.t 3) (.t 66), none⟩]) .ret))))))⟩
def c90 : LF := ⟨5, [.cell true 4 2], (.seq (.reg [
    ⟨(some 2), .alloc [(.dat (.val (.int .i64 (0)))), (.dat (.val (.int .i64 (0)))), (.dat (.val (.int .i64 (0)))), (.dat (.val (.int .i64 (0))))], none⟩]) (.seq (.reg [
    ⟨(some 3), .mov (.t 0), none⟩,
    ⟨(some 4), .build [(.dat (.val (.int .i64 (0)))), (.dat (.val (.int .i64 (0)))), (.dat (.val (.int .i64 (0)))), (.dat (.val (.int .i64 (0))))] [(0, 1, (.c (.rv (.one (.dat (.val (.int .i64 (6)))))))), (3, 1, (.t 3))], none⟩,
    ⟨none, .store 4 (.t 2) (.t 4), none⟩]) .ret))⟩
def byD (l : List Int) : List (List Dt) := l.map fun b => [.val (.int .u8 b)]
def byV (l : List Int) : CV := .rv (.one (.dat (.sl 1 (byD l))))
def shr (k : Int) (n : Nat) : Int := k.fdiv (2 ^ n)
def insB (i : Ins) : List Int := [IntKind.u8.wrap i.op, IntKind.u8.wrap i.jt, IntKind.u8.wrap i.jf, IntKind.u8.wrap i.k, IntKind.u8.wrap (shr i.k 8), IntKind.u8.wrap (shr i.k 16), IntKind.u8.wrap (shr i.k 24)]
def bytesOf : List Ins → List Int
  | [] => []
  | i :: r => insB i ++ bytesOf r
theorem bytesOf_len : ∀ l, (bytesOf l).length = 7 * l.length
  | [] => rfl
  | i :: r => by simp [bytesOf, insB, bytesOf_len r]; omega
theorem bytesOf_append : ∀ a b, bytesOf (a ++ b) = bytesOf a ++ bytesOf b
  | [], b => rfl
  | i :: r, b => by simp [bytesOf, bytesOf_append r b]
theorem takeS {α : Type} {l : List α} {i : Nat} {s : α} (h : l[i]? = some s) : l.take (i + 1) = l.take i ++ [s] := by
  rw [List.take_add_one, h]; rfl
def fltR (f : Int × Int) : RV := .agg [.dat (.val (.int .i64 f.1)), .dat (.val (.int .i64 f.2))]
def bytesS (p : List Ins) : List Int × (Int × Int) := if (checkS p).1 = 0 then (bytesOf p, (0, 0)) else ([], checkS p)
def byR (l : List Int) : RV := .one (.dat (.sl 1 (byD l)))
theorem frzP {m : Mem} {a b : RV} {f : Int × Int} (h : FrzR m a b) : FrzV m (.tup [a, fltR f]) (.tup [b, fltR f]) := by
  refine .tup rfl fun i r r' h1 h2 => ?_
  match i, h1, h2 with
  | 0, h1, h2 => cases h1; cases h2; exact h
  | 1, h1, h2 => cases h1; cases h2; exact FrzR.self rfl
theorem l42 : lowF Try.prog Try.f42 = some c42 := by kernel_rfl
set_option maxRecDepth 100000 in
set_option maxHeartbeats 8000000 in
theorem bytes_body (p : List Ins) : body Try.prog c42 [insV p] [] (fun x m => FrzV m x (.tup [byR (bytesS p).1, fltR (bytesS p).2])) := by
  refine check_ok p ?_
  refine bB_bne (fun h => ?_) (fun h => ?_)
  · rw [bytesS, if_neg h]
    refine ⟨trivial, ?_⟩
    exact frzP (.one (.esl 1))
  · rw [bytesS, if_pos h]
    obtain ⟨g1, g2, _⟩ := check_all h
    refine loop_mem (fun k => k ≤ p.length) (fun k => [(16, vInt .i64 (k : Nat)), (5, .rv (.one (.row 1 1 0 none))), (1, .junk), (2, .junk), (4, .junk), (6, .junk), (7, .junk), (8, .junk), (9, .junk), (10, .junk), (11, .junk), (12, .junk), (13, .junk), (17, .junk), (18, .junk), (19, .junk), (20, .junk), (21, .junk), (22, .junk), (23, .junk), (24, .junk), (25, .junk), (26, .junk), (27, .junk), (28, .junk), (29, .junk), (30, .junk), (31, .junk), (32, .junk), (33, .junk), (34, .junk), (35, .junk), (36, .junk), (37, .junk), (38, .junk), (39, .junk), (40, .junk), (41, .junk), (42, .junk), (43, .junk), (44, .junk), (45, .junk), (46, .junk), (47, .junk), (48, .junk), (49, .junk)])
      (fun k => [.var [.dat (.val (.int .i64 0)), .dat (.val (.int .i64 0))], .row 1 (dRows (byD (bytesOf (p.take k))))]) (fun k => p.length - k) 0 (Nat.zero_le _) ?_ (fun k hk => ?_)
    · refine View.trans (View.esl 5 1 2 rfl rfl rfl) (View.of 3 [0, 2] [] rfl rfl rfl rfl rfl rfl ?_ ?_)
      · repeat (first | exact .nil | refine .junk ?_ | refine .eq rfl ?_)
      · exact .put (by simp [memN]) rfl (.eq rfl (by simp)) (.put (by simp [memN]) rfl (.rowDE rfl) (.nil _))
    · refine bB_split (fun h => ?_) (fun h => ?_)
      · have hlt : k < p.length := by
          have h : (k : Int) < ((p.map Ins.enc).length : Int) := of_decide_eq_true h
          rw [List.length_map] at h
          omega
        have hi := List.getElem?_eq_getElem hlt
        have htk := takeS hi
        generalize p[k] = i at hi htk
        have hg : getZ (p.map Ins.enc) (k : Nat) = some [.val (.int .i64 i.op), .val (.int .i64 i.jt), .val (.int .i64 i.jf), .val (.int .i64 i.k)] := by
          rw [getZ_nat, List.getElem?_map, hi]; rfl
        refine ok_some hg ?_
        refine ⟨?_, ?_⟩
        · show ((dRows (byD (bytesOf (p.take k)))).length + 7) * 1 ≤ _
          simp [dRows, byD, bytesOf_len]; omega
        · refine ⟨k + 1, hlt, (show p.length - (k + 1) < p.length - k by omega), View.of 5 [0, 4] [] rfl rfl rfl rfl rfl rfl ?_ ?_⟩
          · repeat (first | exact .nil | refine .junk ?_ | refine .put (.ren (next_i64 (by omega)).symm) ?_ | refine .eq rfl ?_)
          · refine .put (by simp [memN]) rfl (.eq rfl (by simp)) (.put (by simp [memN]) rfl (.rowDE ?_) (.nil _))
            rw [htk, bytesOf_append]
            simp only [dRows, byD, List.map_append]
            rfl
      · have hge : ¬ (k : Int) < ((p.map Ins.enc).length : Int) := of_decide_eq_false h
        rw [List.length_map] at hge
        rw [List.take_of_length_le (by omega : p.length ≤ k)]
        exact frzP (f := (0, 0)) (.one (FrzC.rowD rfl 0 none))
set_option maxRecDepth 100000 in
theorem bytes_ok (p : List Ins) {m : Mem} {K : CV → Mem → Prop} (h : K (.tup [byR (bytesS p).1, fltR (bytesS p).2]) m) : ACall Try.prog 42 [insV p] m K :=
  acall_frame (acall_body Try.func42 l42 rfl (Nat.le_of_ble_eq_true rfl) (bytes_body p)) (by simp [insV, CV.isD, CC.isD]) fun r m1 hf => ⟨_, hf, h⟩
/-! Parse -/
def orV (a b : Int) : Int := IntKind.i64.wrap ((BitVec.ofInt 64 a ||| BitVec.ofInt 64 b).toNat : Int)
def shl (a : Int) (n : Nat) : Int := IntKind.i64.wrap (a * 2 ^ n)
def insAt (b : List Int) (k : Nat) : Ins :=
  let g := fun j => IntKind.i64.wrap (b.getD (7 * k + j) 0)
  ⟨g 0, g 1, g 2, orV (orV (orV (g 3) (shl (g 4) 8)) (shl (g 5) 16)) (shl (g 6) 24)⟩
def progOf (b : List Int) (n : Nat) : List Ins := (List.range n).map (insAt b)
theorem progOf_succ (b : List Int) (n : Nat) : progOf b (n + 1) = progOf b n ++ [insAt b n] := by
  simp [progOf, List.range_succ]
def parseS (b : List Int) : List Ins × (Int × Int) :=
  if b.length % 7 ≠ 0 ∨ b.length > 2800 then ([], (2, 0))
  else if (checkS (progOf b (b.length / 7))).1 = 0 then (progOf b (b.length / 7), (0, 0)) else ([], checkS (progOf b (b.length / 7)))
def insR (l : List Ins) : RV := .one (.dat (insD l))
theorem byD_get {b : List Int} {n j : Nat} (h : n + j < b.length) : getZ (byD (b.drop n)) (j : Nat) = some [.val (.int .u8 (b.getD (n + j) 0))] := by
  rw [getZ_nat, byD, List.getElem?_map, List.getElem?_drop, List.getElem?_eq_getElem h]
  simp [List.getD, List.getElem?_eq_getElem h]
set_option maxRecDepth 100000 in
theorem check_run (p : List Ins) : ACall Try.prog 38 [insV p] [] (fun r _ => r = fltV (checkS p)) := check_ok p rfl
theorem l44 : lowF Try.prog Try.f44 = some c44 := by kernel_rfl
set_option maxRecDepth 100000 in
set_option maxHeartbeats 8000000 in
theorem parse_body (b : List Int) (hb : b.length ≤ 4194304) : body Try.prog c44 [byV b] [] (fun x m => FrzV m x (.tup [insR (parseS b).1, fltR (parseS b).2])) := by
  have hl : (((byD b).length : Nat) : Int) = (b.length : Int) := by simp [byD]
  have ht : (((byD b).length : Nat) : Int).tmod 7 = ((b.length % 7 : Nat) : Int) := by
    rw [hl]; exact (Int.ofNat_tmod _ _).symm
  refine bB_bne (fun h => ?_) (fun h1 => ?_)
  · have h : b.length % 7 ≠ 0 := by
      have h : ((((byD b).length : Nat) : Int).tmod 7) ≠ 0 := h
      rw [ht] at h
      omega
    rw [parseS, if_pos (.inl h)]
    exact frzP (f := (2, 0)) (.one (.esl 4))
  · have h1 : b.length % 7 = 0 := by
      have h : ((((byD b).length : Nat) : Int).tmod 7) = 0 := h1
      rw [ht] at h
      omega
    refine bB_dec (fun h => ?_) (fun h2 => ?_)
    · have h : b.length > 2800 := by
        have h : (((byD b).length : Nat) : Int) > 2800 := h
        rw [hl] at h
        omega
      rw [parseS, if_pos (.inr h)]
      exact frzP (f := (2, 0)) (.one (.esl 4))
    · have h2 : ¬ b.length > 2800 := by
        have h : ¬ (((byD b).length : Nat) : Int) > 2800 := h2
        rw [hl] at h
        omega
      rw [parseS, if_neg (by omega)]
      refine loop_mem (fun k => 7 * k ≤ b.length) (fun k => [(0, byV (b.drop (7 * k))), (4, .rv (.one (.row 1 4 0 none))), (1, .junk), (2, .junk), (5, .junk), (6, .junk), (7, .junk), (8, .junk), (9, .junk), (10, .junk), (11, .junk), (12, .junk), (13, .junk), (14, .junk), (15, .junk), (16, .junk), (17, .junk), (18, .junk), (19, .junk), (20, .junk), (21, .junk), (22, .junk), (23, .junk), (24, .junk), (25, .junk), (26, .junk), (27, .junk), (28, .junk), (29, .junk), (30, .junk), (31, .junk), (32, .junk), (33, .junk), (34, .junk), (35, .junk), (36, .junk), (37, .junk), (38, .junk), (39, .junk), (40, .junk), (41, .junk), (42, .junk), (43, .junk), (44, .junk), (45, .junk), (46, .junk), (47, .junk), (48, .junk), (49, .junk), (50, .junk), (51, .junk), (52, .junk), (53, .junk), (54, .junk), (55, .junk), (56, .junk), (57, .junk), (58, .junk), (59, .junk), (60, .junk), (61, .junk), (62, .junk), (63, .junk), (64, .junk), (65, .junk), (66, .junk)])
        (fun k => [.var [.dat (.val (.int .i64 0)), .dat (.val (.int .i64 0))], .row 4 (dRows ((progOf b k).map Ins.enc))]) (fun k => b.length - 7 * k) 0 (Nat.zero_le _) ?_ (fun k hk => ?_)
      · refine View.trans (View.esl 4 4 1 rfl rfl rfl) (View.of 2 [0, 1] [] rfl rfl rfl rfl rfl rfl ?_ ?_)
        · repeat (first | exact .nil | refine .junk ?_ | refine .eq rfl ?_)
        · exact .put (by simp [memN]) rfl (.eq rfl (by simp)) (.put (by simp [memN]) rfl (.rowDE rfl) (.nil _))
      · have hk : 7 * k ≤ b.length := hk
        have hdl : (((byD (b.drop (7 * k))).length : Nat) : Int) = ((b.length - 7 * k : Nat) : Int) := by simp [byD]
        refine bB_dec (fun h => ?_) (fun h => ?_)
        · have hlt : 7 * k + 7 ≤ b.length := by
            have h : (((byD (b.drop (7 * k))).length : Nat) : Int) > 0 := h
            rw [hdl] at h
            omega
          refine ok_some (byD_get (n := 7 * k) (j := 0) (by omega)) ?_
          refine ok_some (byD_get (n := 7 * k) (j := 1) (by omega)) ?_
          refine ok_some (byD_get (n := 7 * k) (j := 2) (by omega)) ?_
          refine ok_some (byD_get (n := 7 * k) (j := 3) (by omega)) ?_
          refine ok_some (byD_get (n := 7 * k) (j := 4) (by omega)) ?_
          refine ok_some (byD_get (n := 7 * k) (j := 5) (by omega)) ?_
          refine ok_some (byD_get (n := 7 * k) (j := 6) (by omega)) ?_
          refine ⟨trivial, ?_, trivial, ?_⟩
          · show ((dRows ((progOf b k).map Ins.enc)).length + 1) * 32 ≤ _
            simp [dRows, progOf]; omega
          · refine bB_yes (by simp [byD, Nat.ble_eq]; omega) ?_
            have ed : ((byD (b.drop (7 * k))).take (byD (b.drop (7 * k))).length).drop 7 = byD (b.drop (7 * (k + 1))) := by
              rw [List.take_length, byD, byD, ← List.map_drop, List.drop_drop, show 7 * (k + 1) = 7 * k + 7 by omega]
            refine ⟨k + 1, (show 7 * (k + 1) ≤ b.length by omega), (show b.length - 7 * (k + 1) < b.length - 7 * k by omega), View.of 4 [0, 3] [] rfl rfl rfl rfl rfl rfl ?_ ?_⟩
            · repeat (first | exact .nil | refine .junk ?_ | refine .eq rfl ?_ | refine .eq (congrArg (fun x => CV.rv (.one (.dat (.sl 1 x)))) ed.symm) ?_)
            · refine .put (by simp [memN]) rfl (.eq rfl (by simp)) (.put (by simp [memN]) rfl (.rowDE ?_) (.nil _))
              rw [progOf_succ]
              simp only [dRows, List.map_append]
              rfl
        · have hge : b.length ≤ 7 * k := by
            have h : ¬ (((byD (b.drop (7 * k))).length : Nat) : Int) > 0 := h
            rw [hdl] at h
            omega
          have hk7 : b.length / 7 = k := by omega
          rw [hk7]
          refine acall_ro [1] (check_run (progOf b k)) ?_ (fun r m1 hr => ?_)
          · exact .put (.rv (.one (.frz (FrzD.rowD (by simp [memN]) rfl 0 none)))) .nil
          · subst hr
            refine ⟨rfl, ?_⟩
            refine bB_bne (fun h => ?_) (fun h => ?_)
            · rw [if_neg h]
              refine ⟨trivial, ?_⟩
              exact frzP (.one (.esl 4))
            · rw [if_pos h]
              exact frzP (f := (0, 0)) (.one (FrzC.rowD rfl 0 none))
set_option maxRecDepth 100000 in
theorem parse_ok (b : List Int) (hb : b.length ≤ 4194304) {m : Mem} {K : CV → Mem → Prop} (h : K (.tup [insR (parseS b).1, fltR (parseS b).2]) m) : ACall Try.prog 44 [byV b] m K :=
  acall_frame (acall_body Try.func44 l44 rfl (Nat.le_of_ble_eq_true rfl) (parse_body b hb)) (by simp [byV, CV.isD, CC.isD]) fun r m1 hf => ⟨_, hf, h⟩
theorem l90 : lowF Try.prog Try.f90 = some c90 := by kernel_rfl
set_option maxRecDepth 100000 in
theorem back_ok (n : Int) {m : Mem} {K : CV → Mem → Prop} (h : K (Ins.cv ⟨6, 0, 0, n⟩) m) : ACall Try.prog 90 [vInt .i64 n] m K :=
  acall_val (r0 := Ins.cv ⟨6, 0, 0, n⟩) Try.func90 l90 rfl (Nat.le_of_ble_eq_true rfl) (show body Try.prog c90 [vInt .i64 n] [] (fun r m => r = Ins.cv ⟨6, 0, 0, n⟩) from rfl) rfl rfl h
end Go.Proofs.Ytflieebgiejjpaa
