import Derived.Test.YtflieebgiejjpaaAmZ2
import Derived.Test.YtflieebgiejjpaaDvBpf11
import Derived.Test.YtflieebgiejjpaaAmY
set_option linter.unusedVariables false
set_option linter.unusedSimpArgs false
namespace Go.Proofs.Ytflieebgiejjpaa
open Go.AM Go.ChangeShapes Go.WideShapes Go.ChangeAt Go.RowKit
def c43 : LF := ⟨49, [.tmp 2, .cell true 2 3], (.seq (.reg [
    ⟨(some 2), .mov (.c (.rv (.one .esl))), none⟩,
    ⟨(some 3), .alloc [(.dat (.val (.int .i64 (0)))), (.dat (.val (.int .i64 (0))))], none⟩]) (.seq (.seq (.reg [
    ⟨(some 9), .mov (.t 0), none⟩,
    ⟨(some 10), .call (.c (.rv (.one (.fn 39 [])))) [(.t 9)], none⟩,
    ⟨(some 4), .alloc [(.dat (.val (.int .i64 (0)))), (.dat (.val (.int .i64 (0))))], none⟩,
    ⟨none, .store 2 (.t 4) (.t 10), none⟩]) (.seq (.reg [
    ⟨(some 11), .fadr 0 (.t 4), none⟩,
    ⟨(some 12), .load false 1 (.t 11), none⟩,
    ⟨(some 13), .bin .neq (.t 12) (.c (.rv (.one (.dat (.val (.int .i64 (0))))))), none⟩]) (.cond (.t 13) (.seq (.draw [
    ⟨(some 14), .load true 2 (.t 4), none⟩,
    ⟨(some 2), .mov (.c (.rv (.one .esl))), none⟩,
    ⟨none, .store 2 (.t 3) (.t 14), none⟩]
    [(.cons 0 none (.cons 1 none (.cons 2 (some []) .nil)))]) .ret) .skip))) (.seq (.reg [
    ⟨(some 5), .mov (.c (.rv (.one .esl))), none⟩]) (.seq (.seq (.reg [
    ⟨(some 15), .mov (.t 0), none⟩,
    ⟨(some 16), .len 1 (.t 15), none⟩,
    ⟨(some 17), .mov (.c (.rv (.one (.dat (.val (.int .i64 (0))))))), none⟩]) (.block 0 (.loop (.seq (.reg [
    ⟨(some 18), .bin .lss (.t 17) (.t 16), none⟩]) (.seq (.cond (.t 18) .skip (.exit 0)) (.seq (.block 1 (.seq (.reg [
    ⟨(some 19), .idx 4 (.t 15) (.t 17), none⟩,
    ⟨(some 20), .load true 4 (.t 19), none⟩,
    ⟨(some 7), .alloc [(.dat (.val (.int .i64 (0)))), (.dat (.val (.int .i64 (0)))), (.dat (.val (.int .i64 (0)))), (.dat (.val (.int .i64 (0))))], none⟩,
    ⟨none, .store 4 (.t 7) (.t 20), none⟩]) (.seq (.reg [
    ⟨(some 21), .mov (.t 5), none⟩,
    ⟨(some 22), .fadr 0 (.t 7), none⟩,
    ⟨(some 23), .load false 1 (.t 22), none⟩,
    ⟨(some 24), .conv .u8 (.t 23), none⟩,
    ⟨(some 25), .fadr 1 (.t 7), none⟩,
    ⟨(some 26), .load false 1 (.t 25), none⟩,
    ⟨(some 27), .conv .u8 (.t 26), none⟩,
    ⟨(some 28), .fadr 2 (.t 7), none⟩,
    ⟨(some 29), .load false 1 (.t 28), none⟩,
    ⟨(some 30), .conv .u8 (.t 29), none⟩,
    ⟨(some 31), .bsl 1 [(.dat (.val (.int .u8 (0))))] 3 [(0, (.t 24)), (1, (.t 27)), (2, (.t 30))], none⟩,
    ⟨(some 32), .app 1 1 (.t 21) (.t 31), none⟩,
    ⟨(some 5), .mov (.t 32), none⟩]) (.seq (.reg [
    ⟨(some 33), .fadr 3 (.t 7), none⟩,
    ⟨(some 34), .load false 1 (.t 33), none⟩,
    ⟨(some 8), .mov (.t 34), none⟩]) (.seq (.reg [
    ⟨(some 35), .mov (.c (.rv (.one (.dat (.val (.int .i64 (0))))))), none⟩]) (.block 2 (.loop (.seq (.reg [
    ⟨(some 36), .bin .lss (.t 35) (.c (.rv (.one (.dat (.val (.int .i64 (4))))))), none⟩]) (.seq (.cond (.t 36) .skip (.exit 2)) (.seq (.block 3 (.seq (.reg [
    ⟨(some 37), .mov (.t 5), none⟩,
    ⟨(some 38), .mov (.t 8), none⟩,
    ⟨(some 39), .bin .rem (.t 38) (.c (.rv (.one (.dat (.val (.int .i64 (256))))))), none⟩,
    ⟨(some 40), .conv .u8 (.t 39), none⟩,
    ⟨(some 41), .bsl 1 [(.dat (.val (.int .u8 (0))))] 1 [(0, (.t 40))], none⟩,
    ⟨(some 42), .app 1 1 (.t 37) (.t 41), none⟩,
    ⟨(some 5), .mov (.t 42), none⟩]) (.reg [
    ⟨(some 43), .mov (.t 8), none⟩,
    ⟨(some 44), .bin .quo (.t 43) (.c (.rv (.one (.dat (.val (.int .i64 (256))))))), none⟩,
    ⟨(some 8), .mov (.t 44), none⟩]))) (.reg [
    ⟨(some 45), .bin .add (.t 35) (.c (.rv (.one (.dat (.val (.int .i64 (1))))))), none⟩,
    ⟨(some 35), .mov (.t 45), none⟩]))))))))))) (.reg [
    ⟨(some 46), .bin .add (.t 17) (.c (.rv (.one (.dat (.val (.int .i64 (1))))))), none⟩,
    ⟨(some 17), .mov (.t 46), none⟩]))))))) (.seq (.reg [
    ⟨(some 47), .mov (.t 5), none⟩,
    ⟨(some 48), .build [(.dat (.val (.int .i64 (0)))), (.dat (.val (.int .i64 (0))))] [], none⟩,
    ⟨(some 2), .mov (.t 47), none⟩,
    ⟨none, .store 2 (.t 3) (.t 48), none⟩]) .ret)))))⟩
def c45 : LF := ⟨70, [.tmp 2, .cell true 2 3], (.seq (.reg [
    ⟨(some 2), .mov (.c (.rv (.one .esl))), none⟩,
    ⟨(some 3), .alloc [(.dat (.val (.int .i64 (0)))), (.dat (.val (.int .i64 (0))))], none⟩]) (.seq (.seq (.reg [
    ⟨(some 9), .mov (.t 0), none⟩,
    ⟨(some 10), .len 1 (.t 9), none⟩,
    ⟨(some 11), .bin .rem (.t 10) (.c (.rv (.one (.dat (.val (.int .i64 (7))))))), none⟩,
    ⟨(some 12), .bin .gtr (.t 11) (.c (.rv (.one (.dat (.val (.int .i64 (0))))))), none⟩,
    ⟨(some 13), .mov (.t 12), none⟩,
    ⟨(some 14), .mov (.t 0), (some (13, false))⟩,
    ⟨(some 15), .len 1 (.t 14), (some (13, false))⟩,
    ⟨(some 16), .bin .quo (.t 15) (.c (.rv (.one (.dat (.val (.int .i64 (7))))))), (some (13, false))⟩,
    ⟨(some 17), .bin .gtr (.t 16) (.c (.rv (.one (.dat (.val (.int .i64 (400))))))), (some (13, false))⟩,
    ⟨(some 18), .pick (.t 13) (.c (.rv (.one (.dat (.val (.bool true)))))) (.t 17), none⟩]) (.cond (.t 18) (.seq (.reg [
    ⟨(some 19), .build [(.dat (.val (.int .i64 (0)))), (.dat (.val (.int .i64 (0))))] [(0, 1, (.c (.rv (.one (.dat (.val (.int .i64 (2))))))))], none⟩,
    ⟨(some 2), .mov (.c (.rv (.one .esl))), none⟩,
    ⟨none, .store 2 (.t 3) (.t 19), none⟩]) .ret) .skip)) (.seq (.reg [
    ⟨(some 4), .mov (.c (.rv (.one .esl))), none⟩]) (.seq (.seq (.reg [
    ⟨(some 5), .mov (.c (.rv (.one (.dat (.val (.int .i64 (0))))))), none⟩]) (.block 0 (.loop (.seq (.seq (.reg [
    ⟨(some 20), .mov (.t 5), none⟩,
    ⟨(some 21), .mov (.t 0), none⟩,
    ⟨(some 22), .len 1 (.t 21), none⟩,
    ⟨(some 23), .bin .lss (.t 20) (.t 22), none⟩]) (.cond (.t 23) .skip (.exit 0))) (.seq (.block 1 (.seq (.reg [
    ⟨(some 6), .mov (.c (.rv (.one (.dat (.val (.int .i64 (0))))))), none⟩]) (.seq (.seq (.reg [
    ⟨(some 7), .mov (.c (.rv (.one (.dat (.val (.int .i64 (6))))))), none⟩]) (.block 2 (.loop (.seq (.seq (.reg [
    ⟨(some 26), .mov (.t 7), none⟩,
    ⟨(some 27), .bin .gtr (.t 26) (.c (.rv (.one (.dat (.val (.int .i64 (2))))))), none⟩]) (.cond (.t 27) .skip (.exit 2))) (.seq (.block 3 (.reg [
    ⟨(some 30), .mov (.t 6), none⟩,
    ⟨(some 31), .bin .mul (.c (.rv (.one (.dat (.val (.int .i64 (256))))))) (.t 30), none⟩,
    ⟨(some 32), .mov (.t 0), none⟩,
    ⟨(some 33), .mov (.t 5), none⟩,
    ⟨(some 34), .mov (.t 7), none⟩,
    ⟨(some 35), .bin .add (.t 33) (.t 34), none⟩,
    ⟨(some 36), .idx 1 (.t 32) (.t 35), none⟩,
    ⟨(some 37), .load false 1 (.t 36), none⟩,
    ⟨(some 38), .conv .i64 (.t 37), none⟩,
    ⟨(some 39), .bin .add (.t 31) (.t 38), none⟩,
    ⟨(some 6), .mov (.t 39), none⟩])) (.reg [
    ⟨(some 28), .mov (.t 7), none⟩,
    ⟨(some 29), .bin .sub (.t 28) (.c (.rv (.one (.dat (.val (.int .i64 (1))))))), none⟩,
    ⟨(some 7), .mov (.t 29), none⟩])))))) (.draw [
    ⟨(some 40), .mov (.t 4), none⟩,
    ⟨(some 41), .mov (.t 0), none⟩,
    ⟨(some 42), .mov (.t 5), none⟩,
    ⟨(some 43), .idx 1 (.t 41) (.t 42), none⟩,
    ⟨(some 44), .load false 1 (.t 43), none⟩,
    ⟨(some 45), .conv .i64 (.t 44), none⟩,
    ⟨(some 46), .mov (.t 0), none⟩,
    ⟨(some 47), .mov (.t 5), none⟩,
    ⟨(some 48), .bin .add (.t 47) (.c (.rv (.one (.dat (.val (.int .i64 (1))))))), none⟩,
    ⟨(some 49), .idx 1 (.t 46) (.t 48), none⟩,
    ⟨(some 50), .load false 1 (.t 49), none⟩,
    ⟨(some 51), .conv .i64 (.t 50), none⟩,
    ⟨(some 52), .mov (.t 0), none⟩,
    ⟨(some 53), .mov (.t 5), none⟩,
    ⟨(some 54), .bin .add (.t 53) (.c (.rv (.one (.dat (.val (.int .i64 (2))))))), none⟩,
    ⟨(some 55), .idx 1 (.t 52) (.t 54), none⟩,
    ⟨(some 56), .load false 1 (.t 55), none⟩,
    ⟨(some 57), .conv .i64 (.t 56), none⟩,
    ⟨(some 58), .mov (.t 6), none⟩,
    ⟨(some 59), .build [(.dat (.val (.int .i64 (0)))), (.dat (.val (.int .i64 (0)))), (.dat (.val (.int .i64 (0)))), (.dat (.val (.int .i64 (0))))] [(0, 1, (.t 45)), (1, 1, (.t 51)), (2, 1, (.t 57)), (3, 1, (.t 58))], none⟩,
    ⟨(some 60), .bsl 4 [(.dat (.val (.int .i64 (0)))), (.dat (.val (.int .i64 (0)))), (.dat (.val (.int .i64 (0)))), (.dat (.val (.int .i64 (0))))] 1 [(0, (.t 59))], none⟩,
    ⟨(some 61), .app 4 32 (.t 40) (.t 60), none⟩,
    ⟨(some 4), .mov (.t 61), none⟩]
    [(.cons 0 none (.cons 1 none (.cons 2 none (.cons 3 none (.cons 4 none (.cons 5 none (.cons 6 none (.cons 7 none (.cons 8 none (.cons 9 none (.cons 10 none (.cons 11 none (.cons 12 none (.cons 13 none (.cons 14 none (.cons 15 none (.cons 16 none (.cons 17 none (.cons 18 none (.cons 19 none (.cons 20 (some []) (.cons 21 (some []) (.cons 22 none .nil)))))))))))))))))))))))])))) (.reg [
    ⟨(some 24), .mov (.t 5), none⟩,
    ⟨(some 25), .bin .add (.t 24) (.c (.rv (.one (.dat (.val (.int .i64 (7))))))), none⟩,
    ⟨(some 5), .mov (.t 25), none⟩])))))) (.seq (.seq (.reg [
    ⟨(some 62), .mov (.t 4), none⟩,
    ⟨(some 63), .call (.c (.rv (.one (.fn 39 [])))) [(.t 62)], none⟩,
    ⟨(some 8), .alloc [(.dat (.val (.int .i64 (0)))), (.dat (.val (.int .i64 (0))))], none⟩,
    ⟨none, .store 2 (.t 8) (.t 63), none⟩]) (.seq (.reg [
    ⟨(some 64), .fadr 0 (.t 8), none⟩,
    ⟨(some 65), .load false 1 (.t 64), none⟩,
    ⟨(some 66), .bin .neq (.t 65) (.c (.rv (.one (.dat (.val (.int .i64 (0))))))), none⟩]) (.cond (.t 66) (.seq (.draw [
    ⟨(some 67), .load true 2 (.t 8), none⟩,
    ⟨(some 2), .mov (.c (.rv (.one .esl))), none⟩,
    ⟨none, .store 2 (.t 3) (.t 67), none⟩]
    [(.cons 0 none (.cons 1 none (.cons 2 (some []) .nil)))]) .ret) .skip))) (.seq (.reg [
    ⟨(some 68), .mov (.t 4), none⟩,
    ⟨(some 69), .build [(.dat (.val (.int .i64 (0)))), (.dat (.val (.int .i64 (0))))] [], none⟩,
    ⟨(some 2), .mov (.t 68), none⟩,
    ⟨none, .store 2 (.t 3) (.t 69), none⟩]) .ret))))))⟩
/-! Bytes of the document -/
def rb (k j : Nat) : List Int := (List.range j).map fun t => ((k / 256 ^ t % 256 : Nat) : Int)
theorem rb_succ (k j : Nat) : rb k (j + 1) = rb k j ++ [((k / 256 ^ j % 256 : Nat) : Int)] := by simp [rb, List.range_succ]
theorem insB_rb {o x y k : Nat} (h1 : o < 256) (h2 : x < 256) (h3 : y < 256) : insB ⟨o, x, y, k⟩ = [(o : Int), (x : Int), (y : Int)] ++ rb k 4 := by
  rw [insB_nat h1 h2 h3]
  simp [rb, List.range_succ]
theorem byD_append (a b : List Int) : byD (a ++ b) = byD a ++ byD b := by simp [byD]
theorem dRows_append (a b : List (List Dt)) : dRows (a ++ b) = dRows a ++ dRows b := by simp [dRows]
theorem rem256 (n : Nat) : IntKind.u8.wrap (((n : Nat) : Int).tmod 256) = ((n % 256 : Nat) : Int) := by
  have : ((n : Nat) : Int).tmod 256 = ((n % 256 : Nat) : Int) := (Int.ofNat_tmod n 256).symm
  rw [this, u8_wrap, Nat.mod_mod]
theorem quo256 {n : Nat} (h : n ≤ 4294967296) : IntKind.i64.wrap (((n : Nat) : Int).tdiv 256) = ((n / 256 : Nat) : Int) := by
  have : ((n : Nat) : Int).tdiv 256 = ((n / 256 : Nat) : Int) := (Int.ofNat_tdiv n 256).symm
  rw [this, wrapN (by omega)]
theorem rb_len (k j : Nat) : (rb k j).length = j := by simp [rb]
theorem l43 : lowF Try.prog Try.f43 = some c43 := by kernel_rfl
set_option maxRecDepth 100000 in
set_option maxHeartbeats 8000000 in
theorem rbytes_body (p : List Ins) : body Try.prog c43 [insV p] [] (fun x m => FrzV m x (.tup [byR (bytesS p).1, fltR (bytesS p).2])) := by
  refine rcheck_ok p ?_
  refine bB_bne (fun h => ?_) (fun h => ?_)
  · rw [bytesS, if_neg h]
    refine ⟨trivial, ?_⟩
    exact frzP (.one (.esl 1))
  · rw [bytesS, if_pos h]
    obtain ⟨g1, g2, g3, _⟩ := check_all h
    refine loop_keep (fun k => k ≤ p.length) [0, 3, 15, 16] (fun k => [(17, vInt .i64 (k : Nat)), (5, .rv (.one (.row 1 1 0 none)))])
      (fun k => [.var [.dat (.val (.int .i64 0)), .dat (.val (.int .i64 0))], .row 1 (dRows (byD (bytesOf (p.take k))))]) (fun k => p.length - k) 0 (Nat.zero_le _) ?_ (fun k hk => ?_)
    · refine View.trans (View.esl 5 1 2 rfl rfl rfl) (View.of 3 [0, 2] [] rfl rfl rfl rfl rfl rfl ?_ ?_)
      · repeat (first | exact .nil | refine .junk ?_ | refine .eq rfl ?_)
      · exact .put (by simp [memN]) rfl (.eq rfl (by simp)) (.put (by simp [memN]) rfl (.rowDE rfl) (.nil _))
    · refine bB_dec (fun h => ?_) (fun h => ?_)
      · have hlt : k < p.length := by
          have h : (k : Int) < ((p.map Ins.enc).length : Int) := h
          rw [List.length_map] at h
          omega
        have hi := List.getElem?_eq_getElem hlt
        have htk := takeS hi
        obtain ⟨o, x, y, n, e, a1, a2, a3, a4⟩ := insE_in (g3 k _ hi) (by omega) (by omega)
        rw [e] at hi htk
        have hg : getZ (p.map Ins.enc) (k : Nat) = some [.val (.int .i64 o), .val (.int .i64 x), .val (.int .i64 y), .val (.int .i64 n)] := by
          rw [getZ_nat, List.getElem?_map, hi]; rfl
        refine ok_some hg ?_
        refine ⟨?_, ?_⟩
        · show ((dRows (byD (bytesOf (p.take k)))).length + 3) * 1 ≤ _
          simp [dRows, byD, bytesOf_len]; omega
        refine loop_keep (fun j => j ≤ 4) [0, 3, 15, 16, 17] (fun j => [(35, vInt .i64 (j : Nat)), (5, .rv (.one (.row 1 1 0 none))), (8, vInt .i64 ((n / 256 ^ j : Nat) : Int))])
          (fun j => [.var [.dat (.val (.int .i64 0)), .dat (.val (.int .i64 0))], .row 1 (dRows (byD (bytesOf (p.take k) ++ ([(o : Int), (x : Int), (y : Int)] ++ rb n j))))]) (fun j => 4 - j) 0 (Nat.zero_le _) ?_ (fun j hj => ?_)
        · refine View.of 5 [0, 4] [] rfl rfl rfl rfl rfl rfl ?_ ?_
          · repeat (first | exact .nil | refine .junk ?_ | refine .eq rfl ?_ | refine .eq (by rw [Nat.pow_zero, Nat.div_one]; rfl) ?_)
          · refine .put (by simp [memN]) rfl (.eq rfl (by simp)) (.put (by simp [memN]) rfl (.rowDE ?_) (.nil _))
            rw [byD_append, dRows_append]
            have w : ∀ v : Nat, v < 256 → IntKind.u8.wrap (v : Int) = v := fun v hv => by rw [u8_wrap, Nat.mod_eq_of_lt hv]
            show dRows (byD (bytesOf (p.take k))) ++ [[CC.dat (.val (.int .u8 (IntKind.u8.wrap o)))], [CC.dat (.val (.int .u8 (IntKind.u8.wrap x)))], [CC.dat (.val (.int .u8 (IntKind.u8.wrap y)))]] = _
            rw [w o a1, w x a2, w y a3]
            rfl
        · refine bB_dec (fun h4 => ?_) (fun h4 => ?_)
          · have h4 : j < 4 := by
              have h4 : (j : Int) < 4 := h4
              omega
            refine ⟨?_, ?_⟩
            · show ((dRows (byD (bytesOf (p.take k) ++ ([(o : Int), (x : Int), (y : Int)] ++ rb n j)))).length + 1) * 1 ≤ _
              simp [dRows, byD, bytesOf_len, rb_len]; omega
            have hq : IntKind.i64.wrap (((n / 256 ^ j : Nat) : Int).tdiv 256) = ((n / 256 ^ (j + 1) : Nat) : Int) := by
              have hle : n / 256 ^ j ≤ n := Nat.div_le_self _ _
              rw [quo256 (by omega), Nat.div_div_eq_div_mul, Nat.pow_succ]
            refine ⟨j + 1, h4, (show 4 - (j + 1) < 4 - j by omega), View.of 4 [0, 3] [] rfl rfl rfl rfl rfl rfl ?_ ?_⟩
            · repeat (first | exact .nil | refine .junk ?_ | refine .put (.ren (next_i64 (by omega)).symm) ?_ | refine .eq rfl ?_ | refine .eq (congrArg (fun x => vInt .i64 x) hq.symm) ?_)
            · refine .put (by simp [memN]) rfl (.eq rfl (by simp)) (.put (by simp [memN]) rfl (.rowDE ?_) (.nil _))
              rw [rb_succ, ← List.append_assoc, ← List.append_assoc, ← List.append_assoc, byD_append _ [_], dRows_append]
              show _ ++ [[CC.dat (.val (.int .u8 (IntKind.u8.wrap (((n / 256 ^ j : Nat) : Int).tmod 256))))]] = _
              rw [rem256]
              rfl
          · have h4 : j = 4 := by
              have h4 : ¬ (j : Int) < 4 := h4
              have : j ≤ 4 := hj
              omega
            subst h4
            refine ⟨k + 1, hlt, (show p.length - (k + 1) < p.length - k by omega), View.of 2 [0, 1] [] rfl rfl rfl rfl rfl rfl ?_ ?_⟩
            · repeat (first | exact .nil | refine .junk ?_ | refine .put (.ren (next_i64 (by omega)).symm) ?_ | refine .eq rfl ?_)
            · refine .put (by simp [memN]) rfl (.eq rfl (by simp)) (.put (by simp [memN]) rfl (.rowDE ?_) (.nil _))
              rw [htk, bytesOf_append, ← insB_rb a1 a2 a3]
              simp only [bytesOf, List.append_nil]
      · have hge : ¬ (k : Int) < ((p.map Ins.enc).length : Int) := h
        rw [List.length_map] at hge
        rw [List.take_of_length_le (by omega : p.length ≤ k)]
        exact frzP (f := (0, 0)) (.one (FrzC.rowD rfl 0 none))
set_option maxRecDepth 100000 in
theorem rbytes_ok (p : List Ins) {m : Mem} {K : CV → Mem → Prop} (h : K (.tup [byR (bytesS p).1, fltR (bytesS p).2]) m) : ACall Try.prog 43 [insV p] m K :=
  acall_frame (acall_body Try.func43 l43 rfl (Nat.le_of_ble_eq_true rfl) (rbytes_body p)) (by simp [insV, CV.isD, CC.isD]) fun r m1 hf => ⟨_, hf, h⟩
/-! Program of the document -/
def hr (b : List Int) (n : Nat) : Nat → Nat
  | 0 => 0
  | t + 1 => 256 * hr b n t + hv b (7 * n + (6 - t))
theorem hr_lt {b : List Int} (hb : BY b) (n : Nat) : ∀ t, hr b n t < 256 ^ t
  | 0 => by simp [hr]
  | t + 1 => by
    have h1 := hr_lt hb n t
    have h2 := (hv_eq hb (7 * n + (6 - t))).2
    simp only [hr, Nat.pow_succ]
    omega
theorem hr_four (b : List Int) (n : Nat) : hr b n 4 = hv b (7 * n + 3) + hv b (7 * n + 4) * 256 + hv b (7 * n + 5) * 65536 + hv b (7 * n + 6) * 16777216 := by
  show 256 * (256 * (256 * (256 * 0 + hv b (7 * n + 6)) + hv b (7 * n + 5)) + hv b (7 * n + 4)) + hv b (7 * n + 3) = _
  omega
theorem byD_at {b : List Int} {i : Nat} (h : i < b.length) : getZ (byD b) (i : Nat) = some [.val (.int .u8 (b.getD i 0))] := by
  rw [getZ_nat, byD, List.getElem?_map, List.getElem?_eq_getElem h]
  simp [List.getD, List.getElem?_eq_getElem h]
theorem byD_at' {b : List Int} {i : Nat} {z : Int} (h : i < b.length) (e : z = (i : Int)) : getZ (byD b) z = some [.val (.int .u8 (b.getD i 0))] := by
  subst e; exact byD_at h
theorem parse_rem {b : List Int} (h : b.length % 7 ≠ 0 ∨ b.length > 2800) : parseS b = ([], (2, 0)) := by rw [parseS, if_pos h]
set_option maxRecDepth 100000 in
theorem rcheck_run (p : List Ins) : ACall Try.prog 39 [insV p] [] (fun r _ => r = fltV (checkS p)) := rcheck_ok p rfl
theorem l45 : lowF Try.prog Try.f45 = some c45 := by kernel_rfl
set_option maxRecDepth 100000 in
set_option maxHeartbeats 8000000 in
theorem prog_body (b : List Int) (hb : BY b) (hl : b.length ≤ 1048576) : body Try.prog c45 [byV b] [] (fun x m => FrzV m x (.tup [insR (parseS b).1, fltR (parseS b).2])) := by
  have hlen : (((byD b).length : Nat) : Int) = (b.length : Int) := by simp [byD]
  have ht : (((byD b).length : Nat) : Int).tmod 7 = ((b.length % 7 : Nat) : Int) := by
    rw [hlen]; exact (Int.ofNat_tmod _ _).symm
  have hq : IntKind.i64.wrap ((((byD b).length : Nat) : Int).tdiv 7) = ((b.length / 7 : Nat) : Int) := by
    have : ((b.length : Nat) : Int).tdiv 7 = ((b.length / 7 : Nat) : Int) := (Int.ofNat_tdiv _ _).symm
    rw [hlen, this, wrapN (by omega)]
  refine bB_dec (fun h => ?_) (fun h1 => ?_)
  · have h : b.length % 7 ≠ 0 := by
      have h : (((byD b).length : Nat) : Int).tmod 7 > 0 := h
      rw [ht] at h
      omega
    rw [parse_rem (.inl h)]
    exact frzP (f := (2, 0)) (.one (.esl 4))
  · have h1 : b.length % 7 = 0 := by
      have h : ¬ (((byD b).length : Nat) : Int).tmod 7 > 0 := h1
      rw [ht] at h
      omega
    refine bB_dec (fun h => ?_) (fun h2 => ?_)
    · have h : b.length > 2800 := by
        have h : IntKind.i64.wrap ((((byD b).length : Nat) : Int).tdiv 7) > 400 := h
        rw [hq] at h
        omega
      rw [parse_rem (.inr h)]
      exact frzP (f := (2, 0)) (.one (.esl 4))
    · have h2 : ¬ b.length > 2800 := by
        have h : ¬ IntKind.i64.wrap ((((byD b).length : Nat) : Int).tdiv 7) > 400 := h2
        rw [hq] at h
        omega
      rw [parseS, if_neg (by omega)]
      refine loop_keep (fun n => 7 * n ≤ b.length) [0, 3] (fun n => [(5, vInt .i64 ((7 * n : Nat) : Int)), (4, .rv (.one (.row 1 4 0 none)))])
        (fun n => [.var [.dat (.val (.int .i64 0)), .dat (.val (.int .i64 0))], .row 4 (dRows ((progOf b n).map Ins.enc))]) (fun n => b.length - 7 * n) 0 (Nat.zero_le _) ?_ (fun n hn => ?_)
      · refine View.trans (View.esl 4 4 1 rfl rfl rfl) (View.of 2 [0, 1] [] rfl rfl rfl rfl rfl rfl ?_ ?_)
        · repeat (first | exact .nil | refine .junk ?_ | refine .eq rfl ?_)
        · exact .put (by simp [memN]) rfl (.eq rfl (by simp)) (.put (by simp [memN]) rfl (.rowDE rfl) (.nil _))
      · have hn : 7 * n ≤ b.length := hn
        refine bB_dec (fun h => ?_) (fun h => ?_)
        · have hlt : 7 * n + 7 ≤ b.length := by
            have h : ((7 * n : Nat) : Int) < (((byD b).length : Nat) : Int) := h
            rw [hlen] at h
            omega
          refine loop_keep (fun t => t ≤ 4) [0, 3, 4, 5] (fun t => [(7, vInt .i64 ((6 - t : Nat) : Int)), (6, vInt .i64 ((hr b n t : Nat) : Int))])
            (fun t => [.var [.dat (.val (.int .i64 0)), .dat (.val (.int .i64 0))], .row 4 (dRows ((progOf b n).map Ins.enc))]) (fun t => 4 - t) 0 (Nat.zero_le _) ?_ (fun t htt => ?_)
          · refine View.of 2 [0, 1] [] rfl rfl rfl rfl rfl rfl ?_ ?_
            · repeat (first | exact .nil | refine .junk ?_ | refine .eq rfl ?_)
            · exact .put (by simp [memN]) rfl (.eq rfl (by simp)) (.put (by simp [memN]) rfl (.rowDE rfl) (.nil _))
          · have htt : t ≤ 4 := htt
            refine bB_dec (fun h4 => ?_) (fun h4 => ?_)
            · have h4 : t < 4 := by
                have h4 : ((6 - t : Nat) : Int) > 2 := h4
                omega
              have hz : IntKind.i64.wrap (((7 * n : Nat) : Int) + ((6 - t : Nat) : Int)) = ((7 * n + (6 - t) : Nat) : Int) := by
                rw [show ((7 * n : Nat) : Int) + ((6 - t : Nat) : Int) = ((7 * n + (6 - t) : Nat) : Int) by omega, wrapN (by omega)]
              refine ok_some (byD_at' (i := 7 * n + (6 - t)) (by omega) hz) ?_
              have hv2 := hv_eq hb (7 * n + (6 - t))
              have hh := hr_lt hb n t
              have hp : 256 ^ t ≤ 256 ^ 4 := Nat.pow_le_pow_right (by omega) (by omega)
              have hp : (256 : Nat) ^ t ≤ 4294967296 := hp
              have e1 : IntKind.i64.wrap (IntKind.i64.wrap (256 * ((hr b n t : Nat) : Int)) + IntKind.i64.wrap (b.getD (7 * n + (6 - t)) 0)) = ((hr b n (t + 1) : Nat) : Int) := by
                rw [hv2.1, wrapN (n := hv b (7 * n + (6 - t))) (by omega), show (256 : Int) * ((hr b n t : Nat) : Int) = ((256 * hr b n t : Nat) : Int) by omega, wrapN (by omega)]
                rw [show ((256 * hr b n t : Nat) : Int) + ((hv b (7 * n + (6 - t)) : Nat) : Int) = ((256 * hr b n t + hv b (7 * n + (6 - t)) : Nat) : Int) by omega, wrapN (by omega)]
                rfl
              have e2 : IntKind.i64.wrap (((6 - t : Nat) : Int) - 1) = ((6 - (t + 1) : Nat) : Int) := by
                rw [wrapI (by omega) (by omega)]; omega
              refine ⟨t + 1, h4, (show 4 - (t + 1) < 4 - t by omega), View.of 2 [0, 1] [] rfl rfl rfl rfl rfl rfl ?_ ?_⟩
              · repeat (first | exact .nil | refine .junk ?_ | refine .eq rfl ?_ | refine .eq (congrArg (fun x => vInt .i64 x) e1.symm) ?_ | refine .eq (congrArg (fun x => vInt .i64 x) e2.symm) ?_)
              · exact .put (by simp [memN]) rfl (.eq rfl (by simp)) (.put (by simp [memN]) rfl (.rowDE rfl) (.nil _))
            · have h4 : t = 4 := by
                have h4 : ¬ ((6 - t : Nat) : Int) > 2 := h4
                omega
              subst h4
              have z1 : IntKind.i64.wrap (((7 * n : Nat) : Int) + 1) = ((7 * n + 1 : Nat) : Int) := by
                rw [wrapI (by omega) (by omega)]; omega
              have z2 : IntKind.i64.wrap (((7 * n : Nat) : Int) + 2) = ((7 * n + 2 : Nat) : Int) := by
                rw [wrapI (by omega) (by omega)]; omega
              have z7 : IntKind.i64.wrap (((7 * n : Nat) : Int) + 7) = ((7 * (n + 1) : Nat) : Int) := by
                rw [wrapI (by omega) (by omega)]; omega
              refine ok_some (byD_at (i := 7 * n) (by omega)) ?_
              refine ok_some (byD_at' (i := 7 * n + 1) (by omega) z1) ?_
              refine ok_some (byD_at' (i := 7 * n + 2) (by omega) z2) ?_
              refine ⟨trivial, ?_⟩
              refine ⟨?_, ?_⟩
              · show ((dRows ((progOf b n).map Ins.enc)).length + 1) * 32 ≤ _
                simp [dRows, progOf]; omega
              refine ⟨trivial, ?_⟩
              have w : ∀ i, IntKind.i64.wrap (b.getD i 0) = (hv b i : Int) := fun i => by
                rw [(hv_eq hb i).1]; exact wrapN (by have := (hv_eq hb i).2; omega)
              refine ⟨n + 1, (show 7 * (n + 1) ≤ b.length by omega), (show b.length - 7 * (n + 1) < b.length - 7 * n by omega), View.of 4 [0, 3] [] rfl rfl rfl rfl rfl rfl ?_ ?_⟩
              · repeat (first | exact .nil | refine .junk ?_ | refine .eq rfl ?_ | refine .eq (congrArg (fun x => vInt .i64 x) z7.symm) ?_)
              · refine .put (by simp [memN]) rfl (.eq rfl (by simp)) (.put (by simp [memN]) rfl (.rowDE ?_) (.nil _))
                rw [progOf_succ, insAt_hv hb, List.map_append, dRows_append]
                show dRows ((progOf b n).map Ins.enc) ++ [[CC.dat (.val (.int .i64 (IntKind.i64.wrap (b.getD (7 * n) 0)))), .dat (.val (.int .i64 (IntKind.i64.wrap (b.getD (7 * n + 1) 0)))), .dat (.val (.int .i64 (IntKind.i64.wrap (b.getD (7 * n + 2) 0)))), .dat (.val (.int .i64 ((hr b n 4 : Nat) : Int)))]] = _
                rw [w, w, w, hr_four]
                rfl
        · have hge : b.length ≤ 7 * n := by
            have h : ¬ ((7 * n : Nat) : Int) < (((byD b).length : Nat) : Int) := h
            rw [hlen] at h
            omega
          have hk7 : b.length / 7 = n := by omega
          rw [hk7]
          refine acall_ro [1] (rcheck_run (progOf b n)) ?_ (fun r m1 hr => ?_)
          · exact .put (.rv (.one (.frz (FrzD.rowD (by simp [memN]) rfl 0 none)))) .nil
          · subst hr
            refine ⟨rfl, ?_⟩
            refine bB_bne (fun h => ?_) (fun h => ?_)
            · rw [if_neg h]
              refine ⟨trivial, ?_⟩
              exact frzP (.one (.esl 4))
            · rw [if_pos h]
              exact frzP (f := (0, 0)) (.one (FrzC.rowD rfl 0 none))
set_option maxRecDepth 100000 in
theorem prog_ok (b : List Int) (hb : BY b) (hl : b.length ≤ 1048576) {m : Mem} {K : CV → Mem → Prop} (h : K (.tup [insR (parseS b).1, fltR (parseS b).2]) m) : ACall Try.prog 45 [byV b] m K :=
  acall_frame (acall_body Try.func45 l45 rfl (Nat.le_of_ble_eq_true rfl) (prog_body b hb hl)) (by simp [byV, CV.isD, CC.isD]) fun r m1 hf => ⟨_, hf, h⟩
end Go.Proofs.Ytflieebgiejjpaa
