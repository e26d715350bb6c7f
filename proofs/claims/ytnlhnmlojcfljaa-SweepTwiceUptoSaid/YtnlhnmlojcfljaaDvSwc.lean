import Derived.Test.YtnlhnmlojcfljaaAmZ2
import Derived.Test.YtnlhnmlojcfljaaDvSwb
import Derived.Test.YtnlhnmlojcfljaaAmY
set_option linter.unusedVariables false
set_option linter.unusedSimpArgs false
namespace Go.Proofs.Ytnlhnmlojcfljaa
open Go.AM Go.ChangeShapes Go.WideShapes Go.ChangeAt Go.RowKit
def c32 : LF := ⟨9, [.tmp 4], (.seq (.reg [
    ⟨(some 4), .mov (.c (.rv (.one (.dat (.val (.bool false)))))), none⟩]) (.seq (.reg [
    ⟨(some 5), .mov (.t 0), none⟩,
    ⟨(some 6), .mov (.t 1), none⟩,
    ⟨(some 7), .call (.c (.rv (.one (.fn 38 [])))) [(.t 5), (.t 6)], none⟩,
    ⟨(some 8), .bin .geq (.t 7) (.c (.rv (.one (.dat (.val (.int .i64 (0))))))), none⟩,
    ⟨(some 4), .mov (.t 8), none⟩]) .ret))⟩
def c33 : LF := ⟨13, [.tmp 3], (.seq (.reg [
    ⟨(some 2), .box (.t 0), none⟩,
    ⟨(some 3), .mov (.c (.rv (.one (.dat (.val (.bool false)))))), none⟩]) (.seq (.reg [
    ⟨(some 4), .fadr 0 (.t 2), none⟩,
    ⟨(some 5), .load false 1 (.t 4), none⟩,
    ⟨(some 6), .bin .eql (.t 5) (.c (.rv (.one (.dat (.val (.int .i64 (5))))))), none⟩,
    ⟨(some 7), .mov (.t 6), none⟩,
    ⟨(some 8), .fadr 6 (.t 2), (some (7, true))⟩,
    ⟨(some 9), .load false 1 (.t 8), (some (7, true))⟩,
    ⟨(some 10), .load false 1 (.t 1), (some (7, true))⟩,
    ⟨(some 11), .bin .eql (.t 9) (.t 10), (some (7, true))⟩,
    ⟨(some 12), .pick (.t 7) (.t 11) (.c (.rv (.one (.dat (.val (.bool false)))))), none⟩,
    ⟨(some 3), .mov (.t 12), none⟩]) .ret))⟩
def c43 : LF := ⟨13, [.tmp 3], (.seq (.reg [
    ⟨(some 2), .box (.t 0), none⟩,
    ⟨(some 3), .mov (.c (.rv (.one (.dat (.val (.bool false)))))), none⟩]) (.seq (.reg [
    ⟨(some 4), .fadr 0 (.t 2), none⟩,
    ⟨(some 5), .load false 1 (.t 4), none⟩,
    ⟨(some 6), .bin .eql (.t 5) (.c (.rv (.one (.dat (.val (.int .i64 (5))))))), none⟩,
    ⟨(some 7), .mov (.t 6), none⟩,
    ⟨(some 8), .fadr 6 (.t 2), (some (7, true))⟩,
    ⟨(some 9), .load false 1 (.t 8), (some (7, true))⟩,
    ⟨(some 10), .load false 1 (.t 1), (some (7, true))⟩,
    ⟨(some 11), .bin .eql (.t 9) (.t 10), (some (7, true))⟩,
    ⟨(some 12), .pick (.t 7) (.t 11) (.c (.rv (.one (.dat (.val (.bool false)))))), none⟩,
    ⟨(some 3), .mov (.t 12), none⟩]) .ret))⟩
/-! has a process a descriptor of it: the closure, and the search, over a row -/
def heldB (p : Int) (o : Obj) : Bool := o.kind == 5 && o.proc == p
theorem l43 : lowF Try.prog Try.f43 = some c43 := by kernel_rfl
theorem l33 : lowF Try.prog Try.f33 = some c33 := by kernel_rfl
theorem l32 : lowF Try.prog Try.f32 = some c32 := by kernel_rfl
set_option maxRecDepth 100000 in
theorem clo116_body (o : Obj) (p : Int) : body Try.prog c43 [o.cv, .rv (.one (.ptr 0 0))] [.var ([Dt.val (.int .i64 p)].map .dat)] (fun r m => r = vBool (heldB p o) ∧ ∃ ex, m = .var ([Dt.val (.int .i64 p)].map .dat) :: ex) := by
  refine bB_split (fun h => ?_) (fun h => ?_)
  · refine ⟨?_, _, rfl⟩
    show vBool _ = vBool _
    rw [heldB, h]; rfl
  · refine ⟨?_, _, rfl⟩
    show vBool _ = vBool _
    rw [heldB, h]; rfl
set_option maxRecDepth 100000 in
theorem clo116 (o : Obj) (p : Int) (K : CV → Mem → Prop) (h : K (vBool (heldB p o)) [.var ([Dt.val (.int .i64 p)].map .dat)]) : ACall Try.prog 43 [o.cv, .rv (.one (.ptr 0 0))] [.var ([Dt.val (.int .i64 p)].map .dat)] K :=
  acall_trim rfl (acall_body Try.func43 l43 rfl (Nat.le_of_ble_eq_true rfl) (clo116_body o p)) h
set_option maxRecDepth 100000 in
theorem clo102_body (o : Obj) (p : Int) : body Try.prog c33 [o.cv, .rv (.one (.ptr 0 0))] [.var ([Dt.val (.int .i64 p)].map .dat)] (fun r m => r = vBool (heldB p o) ∧ ∃ ex, m = .var ([Dt.val (.int .i64 p)].map .dat) :: ex) := by
  refine bB_split (fun h => ?_) (fun h => ?_)
  · refine ⟨?_, _, rfl⟩
    show vBool _ = vBool _
    rw [heldB, h]; rfl
  · refine ⟨?_, _, rfl⟩
    show vBool _ = vBool _
    rw [heldB, h]; rfl
set_option maxRecDepth 100000 in
theorem clo102 (o : Obj) (p : Int) (K : CV → Mem → Prop) (h : K (vBool (heldB p o)) [.var ([Dt.val (.int .i64 p)].map .dat)]) : ACall Try.prog 33 [o.cv, .rv (.one (.ptr 0 0))] [.var ([Dt.val (.int .i64 p)].map .dat)] K :=
  acall_trim rfl (acall_body Try.func33 l33 rfl (Nat.le_of_ble_eq_true rfl) (clo102_body o p)) h
theorem o_idx {l : List Obj} {n : Nat} (h : n < l.length) : idxZ (n : Int) (lenOf (dRows (l.map Obj.enc)).length 0 none) = some n := idxZ_nat (by show n < (dRows (l.map Obj.enc)).length; rw [dRows_len, List.length_map]; exact h)
set_option maxRecDepth 100000 in
set_option maxHeartbeats 8000000 in
theorem idxR_body (l : List Obj) (hb : l.length ≤ 4194304) (F : Nat) (cs : List Dt) (q : Obj → Bool) (hF : ∀ s, ∀ K : CV → Mem → Prop, K (vBool (q s)) [.var (cs.map .dat)] → ACall Try.prog F [s.cv, .rv (.one (.ptr 0 0))] [.var (cs.map .dat)] K) :
    body Try.prog c38 [.rv (.one (.row 0 9 0 none)), .rv (.one (.fn F [1]))] [.row 9 (dRows (l.map Obj.enc)), .var (cs.map .dat)] (fun r m => r = vInt .i64 (idxG q l) ∧ m = [.row 9 (dRows (l.map Obj.enc)), .var (cs.map .dat)]) := by
  refine loop_keep (fun k => k ≤ l.length ∧ ∀ (j : Nat) s, j < k → l[j]? = some s → q s = false) [0, 1, 7] (fun k => [(8, vInt .i64 (k : Nat))]) (fun _ => [.row 9 (dRows (l.map Obj.enc)), .var (cs.map .dat)]) (fun k => l.length - k) 0 ⟨Nat.zero_le _, fun j s h => absurd h (Nat.not_lt_zero j)⟩ ?_ (fun k hk => ?_)
  · refine View.of 2 [0, 1] [] rfl rfl rfl rfl rfl rfl ?_ ?_
    · repeat (first | exact .nil | refine .junk ?_ | refine .eq rfl ?_)
    · exact .put (notF rfl) rfl (.rowDE rfl) (.put (notF rfl) rfl (.varDE rfl) (.nil _))
  · refine bB_dec (fun h => ?_) (fun h => ?_)
    · have hlt : k < l.length := by
        have h : (k : Int) < ((dRows (l.map Obj.enc)).length : Int) := h
        rw [dRows_len, List.length_map] at h
        omega
      refine ok_some (o_idx hlt) ?_
      refine ok_some (dRows_nth' Obj.enc l hlt) ?_
      have hi := List.getElem?_eq_getElem hlt
      have hfd := idxG_found (q := q) hlt
      generalize l[k] = o at hi hfd
      refine acall_look (args0 := [o.cv, .rv (.one (.ptr 0 0))]) (cs := cs) 1 rfl rfl (r0 := vBool (q o)) rfl (fun K hK => hF o K hK) ?_
      refine bB_split (fun hq1 => ?_) (fun hq1 => ?_)
      · rw [hfd hq1 hk.2]
        exact ⟨rfl, rfl⟩
      · refine ⟨k + 1, ⟨hlt, fun j s hj hs => ?_⟩, (show l.length - (k + 1) < l.length - k by omega), View.of 2 [0, 1] [] rfl rfl rfl rfl rfl rfl ?_ ?_⟩
        · rcases Nat.lt_or_ge j k with h5 | h5
          · exact hk.2 j s h5 hs
          · have : j = k := by omega
            subst this
            rw [hi] at hs
            cases hs
            exact hq1
        · repeat (first | exact .nil | refine .junk ?_ | refine .put (.ren (next_i64 (by omega)).symm) ?_ | refine .eq rfl ?_)
        · exact .put (notF rfl) rfl (.rowDE rfl) (.put (notF rfl) rfl (.varDE rfl) (.nil _))
    · have hge : ¬ (k : Int) < ((dRows (l.map Obj.enc)).length : Int) := h
      rw [dRows_len, List.length_map] at hge
      rw [idxG_none fun j s hs => hk.2 j s (by have := (List.getElem?_eq_some_iff.1 hs).1; omega) hs]
      exact ⟨rfl, rfl⟩
set_option maxRecDepth 100000 in
theorem contR_body (l : List Obj) (hb : l.length ≤ 4194304) (F : Nat) (cs : List Dt) (q : Obj → Bool) (hF : ∀ s, ∀ K : CV → Mem → Prop, K (vBool (q s)) [.var (cs.map .dat)] → ACall Try.prog F [s.cv, .rv (.one (.ptr 0 0))] [.var (cs.map .dat)] K) :
    body Try.prog c32 [.rv (.one (.row 0 9 0 none)), .rv (.one (.fn F [1]))] [.row 9 (dRows (l.map Obj.enc)), .var (cs.map .dat)] (fun r m => r = vBool (l.any q) ∧ m = [.row 9 (dRows (l.map Obj.enc)), .var (cs.map .dat)]) := by
  refine (acall_body Try.func38 l38 rfl (Nat.le_of_ble_eq_true rfl) (idxR_body l hb F cs q hF)).mono fun r m ⟨hr, hm⟩ => ?_
  subst hr hm
  refine ⟨?_, rfl⟩
  show vBool _ = vBool _
  rw [← idxG_any]
/-- the search over a row, with a cell that the closure looks at -/
theorem contR_ok (l : List Obj) (hb : l.length ≤ 4194304) (F : Nat) (cs : List Dt) (q : Obj → Bool) (hF : ∀ s, ∀ K : CV → Mem → Prop, K (vBool (q s)) [.var (cs.map .dat)] → ACall Try.prog F [s.cv, .rv (.one (.ptr 0 0))] [.var (cs.map .dat)] K) :
    ACall Try.prog 32 [.rv (.one (.row 0 9 0 none)), .rv (.one (.fn F [1]))] [.row 9 (dRows (l.map Obj.enc)), .var (cs.map .dat)] (fun r m => r = vBool (l.any q) ∧ m = [.row 9 (dRows (l.map Obj.enc)), .var (cs.map .dat)]) :=
  acall_body Try.func32 l32 rfl (Nat.le_of_ble_eq_true rfl) (contR_body l hb F cs q hF)

def c31 : LF := ⟨146, [.tmp 2], (.seq (.reg [
    ⟨(some 2), .mov (.c (.rv (.one (.dat (.val (.bool false)))))), none⟩]) (.seq (.reg [
    ⟨(some 10), .mov (.t 0), none⟩,
    ⟨(some 11), .call (.c (.rv (.one (.fn 35 [])))) [(.t 10)], none⟩,
    ⟨(some 3), .mov (.t 11), none⟩]) (.seq (.seq (.reg [
    ⟨(some 12), .mov (.t 0), none⟩,
    ⟨(some 13), .nilc (.t 12), none⟩,
    ⟨(some 14), .fadr 0 (.t 13), none⟩,
    ⟨(some 15), .load false 1 (.t 14), none⟩,
    ⟨(some 16), .len 1 (.t 15), none⟩,
    ⟨(some 17), .mov (.c (.rv (.one (.dat (.val (.int .i64 (0))))))), none⟩]) (.block 0 (.loop (.seq (.reg [
    ⟨(some 18), .bin .lss (.t 17) (.t 16), none⟩]) (.seq (.cond (.t 18) .skip (.exit 0)) (.seq (.block 1 (.seq (.reg [
    ⟨(some 19), .mov (.t 17), none⟩,
    ⟨(some 4), .mov (.t 19), none⟩]) (.seq (.seq (.reg [
    ⟨(some 20), .mov (.t 3), none⟩,
    ⟨(some 21), .nilc (.t 20), none⟩,
    ⟨(some 22), .fadr 1 (.t 21), none⟩,
    ⟨(some 23), .load false 1 (.t 22), none⟩,
    ⟨(some 24), .mov (.t 4), none⟩,
    ⟨(some 25), .idx 1 (.t 23) (.t 24), none⟩,
    ⟨(some 26), .load false 1 (.t 25), none⟩,
    ⟨(some 27), .mov (.t 26), none⟩,
    ⟨(some 28), .mov (.t 0), (some (27, false))⟩,
    ⟨(some 29), .nilc (.t 28), (some (27, false))⟩,
    ⟨(some 30), .fadr 0 (.t 29), (some (27, false))⟩,
    ⟨(some 31), .load false 1 (.t 30), (some (27, false))⟩,
    ⟨(some 32), .mov (.t 4), (some (27, false))⟩,
    ⟨(some 33), .idx 9 (.t 31) (.t 32), (some (27, false))⟩,
    ⟨(some 34), .fadr 0 (.t 33), (some (27, false))⟩,
    ⟨(some 35), .load false 1 (.t 34), (some (27, false))⟩,
    ⟨(some 36), .bin .eql (.t 35) (.c (.rv (.one (.dat (.val (.int .i64 (0))))))), (some (27, false))⟩,
    ⟨(some 37), .pick (.t 27) (.c (.rv (.one (.dat (.val (.bool true)))))) (.t 36), none⟩]) (.cond (.t 37) (.exit 1) .skip)) (.seq (.seq (.reg [
    ⟨(some 38), .mov (.t 0), none⟩,
    ⟨(some 39), .nilc (.t 38), none⟩,
    ⟨(some 40), .fadr 0 (.t 39), none⟩,
    ⟨(some 41), .load false 1 (.t 40), none⟩,
    ⟨(some 42), .len 1 (.t 41), none⟩,
    ⟨(some 43), .mov (.c (.rv (.one (.dat (.val (.int .i64 (0))))))), none⟩]) (.block 2 (.loop (.seq (.reg [
    ⟨(some 44), .bin .lss (.t 43) (.t 42), none⟩]) (.seq (.cond (.t 44) .skip (.exit 2)) (.seq (.block 3 (.seq (.reg [
    ⟨(some 45), .mov (.t 43), none⟩,
    ⟨(some 5), .mov (.t 45), none⟩]) (.seq (.reg [
    ⟨(some 46), .mov (.t 0), none⟩,
    ⟨(some 47), .nilc (.t 46), none⟩,
    ⟨(some 48), .fadr 0 (.t 47), none⟩,
    ⟨(some 49), .load false 1 (.t 48), none⟩,
    ⟨(some 50), .mov (.t 5), none⟩,
    ⟨(some 51), .idx 9 (.t 49) (.t 50), none⟩,
    ⟨(some 52), .fadr 0 (.t 51), none⟩,
    ⟨(some 53), .load false 1 (.t 52), none⟩,
    ⟨(some 54), .bin .eql (.t 53) (.c (.rv (.one (.dat (.val (.int .i64 (4))))))), none⟩,
    ⟨(some 55), .mov (.t 54), none⟩,
    ⟨(some 56), .mov (.t 0), (some (55, true))⟩,
    ⟨(some 57), .nilc (.t 56), (some (55, true))⟩,
    ⟨(some 58), .fadr 0 (.t 57), (some (55, true))⟩,
    ⟨(some 59), .load false 1 (.t 58), (some (55, true))⟩,
    ⟨(some 60), .mov (.t 5), (some (55, true))⟩,
    ⟨(some 61), .idx 9 (.t 59) (.t 60), (some (55, true))⟩,
    ⟨(some 62), .fadr 4 (.t 61), (some (55, true))⟩,
    ⟨(some 63), .load false 1 (.t 62), (some (55, true))⟩,
    ⟨(some 64), .mov (.t 4), (some (55, true))⟩,
    ⟨(some 65), .bin .eql (.t 63) (.t 64), (some (55, true))⟩,
    ⟨(some 66), .pick (.t 55) (.t 65) (.c (.rv (.one (.dat (.val (.bool false)))))), none⟩]) (.cond (.t 66) (.reg [
    ⟨(some 67), .mov (.t 0), none⟩,
    ⟨(some 68), .nilc (.t 67), none⟩,
    ⟨(some 69), .fadr 0 (.t 68), none⟩,
    ⟨(some 70), .load false 1 (.t 69), none⟩,
    ⟨(some 71), .mov (.t 5), none⟩,
    ⟨(some 72), .idx 9 (.t 70) (.t 71), none⟩,
    ⟨(some 73), .fadr 4 (.t 72), none⟩,
    ⟨none, .store 1 (.t 73) (.c (.rv (.one (.dat (.val (.int .i64 (-1))))))), none⟩]) .skip)))) (.reg [
    ⟨(some 74), .bin .add (.t 43) (.c (.rv (.one (.dat (.val (.int .i64 (1))))))), none⟩,
    ⟨(some 43), .mov (.t 74), none⟩]))))))) (.reg [
    ⟨(some 75), .mov (.t 0), none⟩,
    ⟨(some 76), .nilc (.t 75), none⟩,
    ⟨(some 77), .fadr 0 (.t 76), none⟩,
    ⟨(some 78), .load false 1 (.t 77), none⟩,
    ⟨(some 79), .mov (.t 4), none⟩,
    ⟨(some 80), .build [(.dat (.val (.int .i64 (0)))), .esl, .esl, (.dat (.val (.string ⟨#[]⟩))), (.dat (.val (.int .i64 (0)))), .esl, (.dat (.val (.int .i64 (0)))), (.dat (.val (.int .i64 (0)))), (.dat (.val (.int .i64 (0))))] [], none⟩,
    ⟨(some 81), .idx 9 (.t 78) (.t 79), none⟩,
    ⟨none, .store 9 (.t 81) (.t 80), none⟩]))))) (.reg [
    ⟨(some 82), .bin .add (.t 17) (.c (.rv (.one (.dat (.val (.int .i64 (1))))))), none⟩,
    ⟨(some 17), .mov (.t 82), none⟩]))))))) (.seq (.seq (.reg [
    ⟨(some 83), .mov (.t 0), none⟩,
    ⟨(some 84), .nilc (.t 83), none⟩,
    ⟨(some 85), .fadr 1 (.t 84), none⟩,
    ⟨(some 86), .load false 1 (.t 85), none⟩,
    ⟨(some 87), .len 1 (.t 86), none⟩,
    ⟨(some 88), .mov (.c (.rv (.one (.dat (.val (.int .i64 (0))))))), none⟩]) (.block 4 (.loop (.seq (.reg [
    ⟨(some 89), .bin .lss (.t 88) (.t 87), none⟩]) (.seq (.cond (.t 89) .skip (.exit 4)) (.seq (.block 5 (.seq (.reg [
    ⟨(some 90), .mov (.t 88), none⟩,
    ⟨(some 6), .mov (.t 90), none⟩]) (.seq (.reg [
    ⟨(some 91), .mov (.t 3), none⟩,
    ⟨(some 92), .nilc (.t 91), none⟩,
    ⟨(some 93), .fadr 2 (.t 92), none⟩,
    ⟨(some 94), .load false 1 (.t 93), none⟩,
    ⟨(some 95), .mov (.t 6), none⟩,
    ⟨(some 96), .idx 1 (.t 94) (.t 95), none⟩,
    ⟨(some 97), .load false 1 (.t 96), none⟩,
    ⟨(some 98), .un .not (.t 97), none⟩]) (.cond (.t 98) (.reg [
    ⟨(some 99), .mov (.t 0), none⟩,
    ⟨(some 100), .nilc (.t 99), none⟩,
    ⟨(some 101), .fadr 1 (.t 100), none⟩,
    ⟨(some 102), .load false 1 (.t 101), none⟩,
    ⟨(some 103), .mov (.t 6), none⟩,
    ⟨(some 104), .build [(.dat (.val (.int .i64 (0)))), (.dat (.val (.int .i64 (0))))] [(0, 1, (.c (.rv (.one (.dat (.val (.int .i64 (-1))))))))], none⟩,
    ⟨(some 105), .idx 2 (.t 102) (.t 103), none⟩,
    ⟨none, .store 2 (.t 105) (.t 104), none⟩]) .skip)))) (.reg [
    ⟨(some 106), .bin .add (.t 88) (.c (.rv (.one (.dat (.val (.int .i64 (1))))))), none⟩,
    ⟨(some 88), .mov (.t 106), none⟩]))))))) (.seq (.reg [
    ⟨(some 7), .mov (.c (.rv (.one (.dat (.val (.bool false)))))), none⟩]) (.seq (.seq (.reg [
    ⟨(some 107), .mov (.t 0), none⟩,
    ⟨(some 108), .nilc (.t 107), none⟩,
    ⟨(some 109), .fadr 2 (.t 108), none⟩,
    ⟨(some 110), .load false 1 (.t 109), none⟩,
    ⟨(some 111), .len 1 (.t 110), none⟩,
    ⟨(some 112), .mov (.c (.rv (.one (.dat (.val (.int .i64 (0))))))), none⟩]) (.block 6 (.loop (.seq (.reg [
    ⟨(some 113), .bin .lss (.t 112) (.t 111), none⟩]) (.seq (.cond (.t 113) .skip (.exit 6)) (.seq (.block 7 (.seq (.reg [
    ⟨(some 114), .mov (.t 112), none⟩,
    ⟨(some 8), .alloc [(.dat (.val (.int .i64 (0))))], none⟩,
    ⟨none, .store 1 (.t 8) (.t 114), none⟩]) (.seq (.reg [
    ⟨(some 115), .mov (.t 0), none⟩,
    ⟨(some 116), .nilc (.t 115), none⟩,
    ⟨(some 117), .fadr 0 (.t 116), none⟩,
    ⟨(some 118), .load false 1 (.t 117), none⟩,
    ⟨(some 119), .fn 43 [(.t 8)], none⟩,
    ⟨(some 120), .call (.c (.rv (.one (.fn 32 [])))) [(.t 118), (.t 119)], none⟩,
    ⟨(some 9), .mov (.t 120), none⟩]) (.seq (.draw [
    ⟨(some 121), .load false 1 (.t 8), none⟩,
    ⟨(some 122), .bin .gtr (.t 121) (.c (.rv (.one (.dat (.val (.int .i64 (0))))))), none⟩,
    ⟨(some 123), .mov (.t 122), none⟩,
    ⟨(some 124), .mov (.t 0), (some (123, true))⟩,
    ⟨(some 125), .nilc (.t 124), (some (123, true))⟩,
    ⟨(some 126), .fadr 2 (.t 125), (some (123, true))⟩,
    ⟨(some 127), .load false 1 (.t 126), (some (123, true))⟩,
    ⟨(some 128), .load false 1 (.t 8), (some (123, true))⟩,
    ⟨(some 129), .idx 4 (.t 127) (.t 128), (some (123, true))⟩,
    ⟨(some 130), .fadr 0 (.t 129), (some (123, true))⟩,
    ⟨(some 131), .load false 1 (.t 130), (some (123, true))⟩,
    ⟨(some 132), .pick (.t 123) (.t 131) (.c (.rv (.one (.dat (.val (.bool false)))))), none⟩,
    ⟨(some 133), .mov (.t 132), none⟩,
    ⟨(some 134), .mov (.t 9), (some (133, true))⟩,
    ⟨(some 135), .un .not (.t 134), (some (133, true))⟩,
    ⟨(some 136), .pick (.t 133) (.t 135) (.c (.rv (.one (.dat (.val (.bool false)))))), none⟩]
    [(.cons 0 none (.cons 1 none (.cons 2 none (.cons 3 none (.cons 4 none (.cons 5 none (.cons 6 none (.cons 7 none (.cons 8 none (.cons 9 none (.cons 10 none (.cons 11 none (.cons 12 none (.cons 13 none (.cons 14 none (.cons 15 none .nil))))))))))))))))]) (.cond (.t 136) (.seq (.draw [
    ⟨(some 137), .mov (.t 0), none⟩,
    ⟨(some 138), .nilc (.t 137), none⟩,
    ⟨(some 139), .fadr 2 (.t 138), none⟩,
    ⟨(some 140), .load false 1 (.t 139), none⟩,
    ⟨(some 141), .load false 1 (.t 8), none⟩,
    ⟨(some 142), .build [(.dat (.val (.bool false))), (.dat (.val (.bool false))), (.dat (.val (.int .i64 (0)))), .esl] [], none⟩,
    ⟨(some 143), .idx 4 (.t 140) (.t 141), none⟩,
    ⟨none, .store 4 (.t 143) (.t 142), none⟩]
    [(.cons 0 none (.cons 1 none (.cons 2 none (.cons 3 none (.cons 4 none (.cons 5 none (.cons 6 none (.cons 7 (some []) .nil))))))))]) (.reg [
    ⟨(some 7), .mov (.c (.rv (.one (.dat (.val (.bool true)))))), none⟩])) .skip))))) (.reg [
    ⟨(some 144), .bin .add (.t 112) (.c (.rv (.one (.dat (.val (.int .i64 (1))))))), none⟩,
    ⟨(some 112), .mov (.t 144), none⟩]))))))) (.seq (.reg [
    ⟨(some 145), .mov (.t 7), none⟩,
    ⟨(some 2), .mov (.t 145), none⟩]) .ret)))))))⟩
/-! sweep.once -/
def Pt {α : Type} (l L : List α) (f : Nat → α → α) : Prop := L.length = l.length ∧ ∀ (t : Nat) o, l[t]? = some o → L[t]? = some (f t o)
theorem Pt.refl {α : Type} (l : List α) : Pt l l fun _ o => o := ⟨rfl, fun _ _ h => h⟩
theorem Pt.congr {α : Type} {l L : List α} {f g : Nat → α → α} (h : Pt l L f) (hfg : ∀ (t : Nat) o, l[t]? = some o → f t o = g t o) : Pt l L g :=
  ⟨h.1, fun t o ho => by rw [← hfg t o ho]; exact h.2 t o ho⟩
theorem Pt.set {α : Type} {l L : List α} {f g : Nat → α → α} (h : Pt l L f) {j : Nat} {x : α} (hx : ∀ o, l[j]? = some o → g j o = x) (ho : ∀ (t : Nat) o, t ≠ j → l[t]? = some o → g t o = f t o) : Pt l (L.set j x) g := by
  refine ⟨by simpa using h.1, fun t o hto => ?_⟩
  have hlt : t < L.length := by rw [h.1]; exact (List.getElem?_eq_some_iff.1 hto).1
  by_cases htj : t = j
  · subst htj
    rw [hx o hto]
    simp [hlt]
  · rw [List.getElem?_set_ne (fun e => htj e.symm), ho t o htj hto]
    exact h.2 t o hto
theorem Pt.at {α : Type} {l L : List α} {f : Nat → α → α} (h : Pt l L f) {j : Nat} (hj : j < l.length) : ∃ hL : j < L.length, L[j] = f j l[j] := by
  have hL : j < L.length := by rw [h.1]; exact hj
  have := h.2 j l[j] (List.getElem?_eq_getElem hj)
  rw [List.getElem?_eq_getElem hL] at this
  exact ⟨hL, by simpa using this⟩
theorem VwB.rowSet {σ : Nat → Nat} {m : Mem} {Z : Nat → Prop} {id s : Nat} (ds : List (List Dt)) (i : Nat) {cs : List CC} {d : List Dt} (hl : cs.length = d.length)
    (h : ∀ (j : Nat) c c', cs[j]? = some c → (d.map CC.dat)[j]? = some c' → VwC σ m Z (some id) c c') : VwB σ m Z id (.row s (setN (dRows ds) i cs)) (.row s (dRows (ds.set i d))) := by
  rw [setN_eq]
  have e : dRows (ds.set i d) = (dRows ds).set i (d.map .dat) := by simp [dRows, List.map_set]
  rw [e]
  refine .row s (by simp) (fun t xs ys h1 h2 => ?_) (fun t xs ys j c c' h1 h2 h3 h4 => ?_)
  · rw [List.getElem?_set] at h1 h2
    split at h1
    · rename_i hti
      rw [if_pos hti] at h2
      split at h1
      · rename_i hlt
        rw [if_pos hlt] at h2
        cases h1
        cases h2
        simpa using hl
      · cases h1
    · rename_i hti
      rw [if_neg hti] at h2
      rw [h1] at h2
      cases h2
      rfl
  · rw [List.getElem?_set] at h1 h2
    split at h1
    · rename_i hti
      rw [if_pos hti] at h2
      split at h1
      · rename_i hlt
        rw [if_pos hlt] at h2
        cases h1
        cases h2
        exact h j c c' h3 h4
      · cases h1
    · rename_i hti
      rw [if_neg hti] at h2
      rw [h1] at h2
      cases h2
      rw [h3] at h4
      cases h4
      have hd : ∃ d, c = .dat d := by
        rw [dRows, List.getElem?_map] at h1
        obtain ⟨es, _, rfl⟩ := Option.map_eq_some_iff.1 h1
        rw [List.getElem?_map] at h3
        obtain ⟨d, _, rfl⟩ := Option.map_eq_some_iff.1 h3
        exact ⟨d, rfl⟩
      obtain ⟨d, rfl⟩ := hd
      exact .ren (.dat d)
def zeroO : Obj := ⟨0, [], [], ⟨#[]⟩, 0, [], 0, 0, 0⟩
def zeroC : List CC := [.dat (.val (.int .i64 0)), .esl, .esl, .dat (.val (.string ⟨#[]⟩)), .dat (.val (.int .i64 0)), .esl, .dat (.val (.int .i64 0)), .dat (.val (.int .i64 0)), .dat (.val (.int .i64 0))]
theorem rowZ {σ : Nat → Nat} {m : Mem} {Z : Nat → Prop} {id : Nat} (L : List Obj) (i : Nat) : VwB σ m Z id (.row 9 (setN (dRows (L.map Obj.enc)) i zeroC)) (.row 9 (dRows ((L.set i zeroO).map Obj.enc))) := by
  rw [List.map_set]
  refine VwB.rowSet (L.map Obj.enc) i rfl fun j c c' h1 h2 => ?_
  match j, h1, h2 with
  | 0, h1, h2 => cases h1; cases h2; exact .ren (.dat _)
  | 1, h1, h2 => cases h1; cases h2; exact .frz (.esl 1)
  | 2, h1, h2 => cases h1; cases h2; exact .frz (.esl 2)
  | 3, h1, h2 => cases h1; cases h2; exact .ren (.dat _)
  | 4, h1, h2 => cases h1; cases h2; exact .ren (.dat _)
  | 5, h1, h2 => cases h1; cases h2; exact .frz (.esl 4)
  | 6, h1, h2 => cases h1; cases h2; exact .ren (.dat _)
  | 7, h1, h2 => cases h1; cases h2; exact .ren (.dat _)
  | 8, h1, h2 => cases h1; cases h2; exact .ren (.dat _)
  | n + 9, h1, h2 => simp [zeroC] at h1
def zeroP : Prc := ⟨false, false, 0, []⟩
theorem rowZP {σ : Nat → Nat} {m : Mem} {Z : Nat → Prop} {id : Nat} (L : List Prc) (i : Nat) : VwB σ m Z id (.row 4 (setN (dRows (L.map Prc.enc)) i [.dat (.val (.bool false)), .dat (.val (.bool false)), .dat (.val (.int .i64 0)), .esl])) (.row 4 (dRows ((L.set i zeroP).map Prc.enc))) := by
  rw [List.map_set]
  refine VwB.rowSet (L.map Prc.enc) i rfl fun j c c' h1 h2 => ?_
  match j, h1, h2 with
  | 0, h1, h2 => cases h1; cases h2; exact .ren (.dat _)
  | 1, h1, h2 => cases h1; cases h2; exact .ren (.dat _)
  | 2, h1, h2 => cases h1; cases h2; exact .ren (.dat _)
  | 3, h1, h2 => cases h1; cases h2; exact .frz (.esl 3)
  | n + 4, h1, h2 => simp at h1
def deadB (b : Mk) (l : List Obj) (i : Nat) : Bool := match l[i]? with
  | some o => !(b.O[i]? == some true) && o.kind != 0
  | none => false
def deadZ (b : Mk) (l : List Obj) (k : Nat) (z : Int) : Bool := decide (0 ≤ z ∧ z.toNat < k) && deadB b l z.toNat
def onceAt (b : Mk) (l : List Obj) (k : Nat) (j : Nat) (o : Obj) : Obj := if (deadB b l j && decide (j < k)) = true then zeroO else if (o.kind == 4 && deadZ b l k o.peer) = true then { o with peer := -1 } else o
def onceIn (i : Nat) (o : Obj) : Obj := if (o.kind == 4 && o.peer == (i : Int)) = true then { o with peer := -1 } else o
theorem deadZ_succ (b : Mk) (l : List Obj) (i : Nat) (z : Int) : deadZ b l (i + 1) z = (deadZ b l i z || (z == (i : Int) && deadB b l i)) := by
  unfold deadZ
  by_cases h : z = (i : Int)
  · subst h
    simp
  · have h1 : (z == (i : Int)) = false := by simpa using h
    rw [h1]
    have : decide (0 ≤ z ∧ z.toNat < i + 1) = decide (0 ≤ z ∧ z.toNat < i) := by
      apply decide_eq_decide.2
      constructor <;> intro ⟨h2, h3⟩ <;> exact ⟨h2, by omega⟩
    rw [this]; simp
theorem onceAt_no {b : Mk} {l : List Obj} {i : Nat} (h : deadB b l i = false) (j : Nat) (o : Obj) : onceAt b l i j o = onceAt b l (i + 1) j o := by
  have h1 : (deadB b l j && decide (j < i + 1)) = (deadB b l j && decide (j < i)) := by
    by_cases hj : j = i
    · subst hj; rw [h]; simp
    · have : decide (j < i + 1) = decide (j < i) := decide_eq_decide.2 (by omega)
      rw [this]
  unfold onceAt
  rw [h1, deadZ_succ, h]
  simp
theorem onceAt_yes {b : Mk} {l : List Obj} {i : Nat} (h : deadB b l i = true) {j : Nat} (hj : j ≠ i) (o : Obj) : onceIn i (onceAt b l i j o) = onceAt b l (i + 1) j o := by
  have h1 : (deadB b l j && decide (j < i + 1)) = (deadB b l j && decide (j < i)) := by
    have : decide (j < i + 1) = decide (j < i) := decide_eq_decide.2 (by omega)
    rw [this]
  unfold onceAt
  rw [h1, deadZ_succ, h]
  by_cases hd : (deadB b l j && decide (j < i)) = true
  · rw [if_pos hd, if_pos hd]; rfl
  · rw [if_neg hd, if_neg hd]
    by_cases hk : (o.kind == 4) = true
    · by_cases hz : deadZ b l i o.peer = true
      · rw [hk, hz]
        simp [onceIn]
      · rw [Bool.not_eq_true] at hz
        rw [hk, hz]
        by_cases hp : (o.peer == (i : Int)) = true
        · simp [onceIn, hk, hp]
        · rw [Bool.not_eq_true] at hp
          simp [onceIn, hp]
    · rw [Bool.not_eq_true] at hk
      rw [hk]
      simp [onceIn, hk]
theorem onceAt_self {b : Mk} {l : List Obj} {i : Nat} (h : deadB b l i = true) (o : Obj) : onceAt b l (i + 1) i o = zeroO := by
  unfold onceAt
  rw [h]
  simp
theorem onceAt_zero (b : Mk) (l : List Obj) (j : Nat) (o : Obj) : onceAt b l 0 j o = o := by
  unfold onceAt
  have : deadZ b l 0 o.peer = false := by simp [deadZ]
  rw [this]
  simp
theorem onceAt_kind {b : Mk} {l : List Obj} {i : Nat} (o : Obj) : (onceAt b l i i o).kind = o.kind := by
  unfold onceAt
  simp
  split <;> rfl


/-! sweep.once: the walk -/
def endP (L : List Obj) (t : Nat) (o : Prc) : Bool := decide (0 < t) && (o.live && !(L.any (heldB (t : Int))))
def opS (b : Mk) (k : Nat) (t : Nat) (o : Opn) : Opn := if (decide (t < k) && !(b.P[t]? == some true)) = true then ⟨-1, 0⟩ else o
def prS (L : List Obj) (k : Nat) (t : Nat) (o : Prc) : Prc := if (decide (t < k) && endP L t o) = true then zeroP else o
def endsS (L : List Obj) (ps : List Prc) (k : Nat) : Bool := (List.range k).any fun t => match ps[t]? with
  | some o => endP L t o
  | none => false
structure OnceOK (l : List Obj) (ops : List Opn) (ps : List Prc) (L : List Obj) (L2 : List Opn) (L3 : List Prc) (en : Bool) : Prop where
  ex : ∃ b, MarkOK l ops ps b ∧ Pt l L (onceAt b l l.length) ∧ Pt ops L2 (opS b ops.length)
  pr : Pt ps L3 (prS L ps.length)
  en : en = endsS L ps ps.length
structure StL where
  i : Nat
  L : List Obj
structure StO2 where
  i : Nat
  L : List Opn
structure St3 where
  i : Nat
  L : List Prc
  en : Bool
theorem op_idx {l : List Opn} {n : Nat} (h : n < l.length) : idxZ (n : Int) (lenOf (dRows (l.map Opn.enc)).length 0 none) = some n := idxZ_nat (by show n < (dRows (l.map Opn.enc)).length; rw [dRows_len, List.length_map]; exact h)
theorem pr_idx {l : List Prc} {n : Nat} (h : n < l.length) : idxZ (n : Int) (lenOf (dRows (l.map Prc.enc)).length 0 none) = some n := idxZ_nat (by show n < (dRows (l.map Prc.enc)).length; rw [dRows_len, List.length_map]; exact h)
theorem len_lt {α : Type} {f : α → List Dt} {l : List α} {k : Nat} (h : (k : Int) < (((dRows (l.map f)).length : Nat) : Int)) : k < l.length := by
  rw [dRows_len, List.length_map] at h; omega
theorem len_ge {α : Type} {f : α → List Dt} {l : List α} {k : Nat} (h : ¬ (k : Int) < (((dRows (l.map f)).length : Nat) : Int)) : l.length ≤ k := by
  rw [dRows_len, List.length_map] at h; omega
theorem endsS_succ {L : List Obj} {ps : List Prc} {p : Nat} (h : p < ps.length) : endsS L ps (p + 1) = (endsS L ps p || endP L p ps[p]) := by
  unfold endsS
  rw [List.range_succ, List.any_append, List.getElem?_eq_getElem h |> fun e => (by simp [e] : (List.any [p] fun t => match ps[t]? with | some o => endP L t o | none => false) = endP L p ps[p])]
set_option maxRecDepth 100000 in
theorem contBorrow (L : List Obj) (L2 : List Opn) (L3 : List Prc) (b : Mk) (p : Nat) (hl : L.length ≤ 4194304) {K : CV → Mem → Prop}
    (h : K (vBool (L.any (heldB (p : Int)))) [.var [.row 1 9 0 none, .row 2 2 0 none, .row 3 4 0 none], .row 9 (dRows (L.map Obj.enc)), .row 2 (dRows (L2.map Opn.enc)), .row 4 (dRows (L3.map Prc.enc)), .var [.ptr 0 0, .row 5 1 0 none, .row 6 1 0 none], .row 1 (dRows (b.O.map bE)), .row 1 (dRows (b.P.map bE)), .var [.dat (.val (.int .i64 (p : Nat)))]]) : ACall Try.prog 32 [.rv (.one (.row 1 9 0 none)), .rv (.one (.fn 43 [7]))] [.var [.row 1 9 0 none, .row 2 2 0 none, .row 3 4 0 none], .row 9 (dRows (L.map Obj.enc)), .row 2 (dRows (L2.map Opn.enc)), .row 4 (dRows (L3.map Prc.enc)), .var [.ptr 0 0, .row 5 1 0 none, .row 6 1 0 none], .row 1 (dRows (b.O.map bE)), .row 1 (dRows (b.P.map bE)), .var [.dat (.val (.int .i64 (p : Nat)))]] K := by
  refine acall_borrow [1, 7] 8 rfl rfl rfl rfl (args0 := [.rv (.one (.row 0 9 0 none)), .rv (.one (.fn 43 [1]))]) rfl (fun i b' hi => ?_) (contR_ok L hl 43 [.val (.int .i64 (p : Nat))] (heldB (p : Int)) (fun s K hK => clo116 s p K hK)) (fun r m1 hr => ?_)
  · match i, hi with
    | 0, hi => cases hi; exact .inr ⟨fun h => h, _, rfl, .rowDE rfl⟩
    | 1, hi => cases hi; exact .inr ⟨fun h => h, _, rfl, .varDE rfl⟩
    | n + 2, hi => simp at hi
  · obtain ⟨rfl, rfl⟩ := hr
    refine ⟨Nat.le_refl _, ?_⟩
    have e : (Bk.row 9 (dRows (L.map Obj.enc))).ren (sg [1, 7] 8) = .row 9 (dRows (L.map Obj.enc)) := by simp only [Bk.ren, dRows_ren]
    show K _ [.var [.row 1 9 0 none, .row 2 2 0 none, .row 3 4 0 none], (Bk.row 9 (dRows (L.map Obj.enc))).ren (sg [1, 7] 8), .row 2 (dRows (L2.map Opn.enc)), .row 4 (dRows (L3.map Prc.enc)), .var [.ptr 0 0, .row 5 1 0 none, .row 6 1 0 none], .row 1 (dRows (b.O.map bE)), .row 1 (dRows (b.P.map bE)), .var [.dat (.val (.int .i64 (p : Nat)))]]
    rw [e]
    exact h
theorem l31 : lowF Try.prog Try.f31 = some c31 := by kernel_rfl
set_option maxRecDepth 100000 in
set_option maxHeartbeats 32000000 in
theorem once_body (l : List Obj) (ops : List Opn) (ps : List Prc) (g : ∀ o, o ∈ l → o.sm) (hl : l.length ≤ 4194304) (ho : ops.length ≤ 4194304) (hpl : ps.length ≤ 4194304) (hps : ∀ p, p ∈ ps → p.slots.length ≤ 10) :
    body Try.prog c31 [.rv (.one (.ptr 0 0))] [.var [.row 1 9 0 none, .row 2 2 0 none, .row 3 4 0 none], .row 9 (dRows (l.map Obj.enc)), .row 2 (dRows (ops.map Opn.enc)), .row 4 (dRows (ps.map Prc.enc))]
      (fun r m => ∃ r' m', View 4 ⟨[r], m⟩ ⟨[r'], m'⟩ ∧ ∃ L L2 L3 en, OnceOK l ops ps L L2 L3 en ∧ r' = vBool en ∧ m' = [.var [.row 1 9 0 none, .row 2 2 0 none, .row 3 4 0 none], .row 9 (dRows (L.map Obj.enc)), .row 2 (dRows (L2.map Opn.enc)), .row 4 (dRows (L3.map Prc.enc))]) := by
  refine (mark_okR l ops ps g hl ho hpl hps).mono fun r m ⟨b, hb, hr, hm⟩ => ?_
  subst hr hm
  have hbO := hb.len.1
  have hbP := hb.len.2
  refine loop_keep (fun (s : StL) => s.i ≤ l.length ∧ Pt l s.L (onceAt b l s.i)) [0, 3, 16] (fun s => [(17, vInt .i64 (s.i : Nat))]) (fun s => [.var [.row 1 9 0 none, .row 2 2 0 none, .row 3 4 0 none], .row 9 (dRows (s.L.map Obj.enc)), .row 2 (dRows (ops.map Opn.enc)), .row 4 (dRows (ps.map Prc.enc)), .var [.ptr 0 0, .row 5 1 0 none, .row 6 1 0 none], .row 1 (dRows (b.O.map bE)), .row 1 (dRows (b.P.map bE))]) (fun s => l.length - s.i) ⟨0, l⟩ ⟨Nat.zero_le _, (Pt.refl l).congr fun t o _ => (onceAt_zero b l t o).symm⟩ ?_ (fun s hs => ?_)
  · refine View.of 7 [0, 1, 2, 3, 4, 5, 6] [] rfl rfl rfl rfl rfl rfl ?_ ?_
    · repeat (first | exact .nil | refine .junk ?_ | refine .eq rfl ?_)
    · exact (.put (notF rfl) rfl (.eq rfl (by simp)) (.put (notF rfl) rfl (.rowDE rfl) (.put (notF rfl) rfl (.rowDE rfl) (.put (notF rfl) rfl (.rowDE rfl) (.put (notF rfl) rfl (.eq rfl (by simp)) (.put (notF rfl) rfl (.rowDE rfl) (.put (notF rfl) rfl (.rowDE rfl) (.nil _))))))))
  obtain ⟨i, L⟩ := s
  obtain ⟨hi, hPt⟩ := hs
  have hi : i ≤ l.length := hi
  have hPt : Pt l L (onceAt b l i) := hPt
  refine bB_dec (fun h => ?_) (fun h => ?_)
  · have hlt : i < l.length := len_lt h
    have hiO : i < b.O.length := by omega
    refine ok_some (b_idx hiO) ?_
    refine ok_some (bO_get hiO) ?_
    have hgo : ∀ (hd : deadB b l i = false), Pt l L (onceAt b l (i + 1)) := fun hd => hPt.congr fun t o _ => onceAt_no hd t o
    refine bB_split (fun h2 => ?_) (fun h2 => ?_)
    · have hd : deadB b l i = false := by
        unfold deadB
        rw [List.getElem?_eq_getElem hlt, List.getElem?_eq_getElem hiO, h2]
        simp
      refine ⟨⟨i + 1, L⟩, ⟨hlt, hgo hd⟩, (show l.length - (i + 1) < l.length - i by omega), View.of 7 [0, 1, 2, 3, 4, 5, 6] [] rfl rfl rfl rfl rfl rfl ?_ ?_⟩
      · repeat (first | exact .nil | refine .junk ?_ | refine .put (.ren (next_i64 (by omega)).symm) ?_ | refine .eq rfl ?_)
      · exact (.put (notF rfl) rfl (.eq rfl (by simp)) (.put (notF rfl) rfl (.rowDE rfl) (.put (notF rfl) rfl (.rowDE rfl) (.put (notF rfl) rfl (.rowDE rfl) (.put (notF rfl) rfl (.eq rfl (by simp)) (.put (notF rfl) rfl (.rowDE rfl) (.put (notF rfl) rfl (.rowDE rfl) (.nil _))))))))
    · obtain ⟨hL, hLi⟩ := hPt.at hlt
      have hki : L[i].kind = l[i].kind := by rw [hLi, onceAt_kind]
      refine ok_some (o_idx hL) ?_
      refine ok_some (dRows_nth' Obj.enc L hL) ?_
      refine bB_beq (fun h3 => ?_) (fun h3 => ?_)
      · have h3 : L[i].kind = 0 := h3
        have hd : deadB b l i = false := by
          unfold deadB
          rw [List.getElem?_eq_getElem hlt]
          show (!(b.O[i]? == some true) && l[i].kind != 0) = false
          rw [← hki, h3]
          simp
        refine ⟨⟨i + 1, L⟩, ⟨hlt, hgo hd⟩, (show l.length - (i + 1) < l.length - i by omega), View.of 7 [0, 1, 2, 3, 4, 5, 6] [] rfl rfl rfl rfl rfl rfl ?_ ?_⟩
        · repeat (first | exact .nil | refine .junk ?_ | refine .put (.ren (next_i64 (by omega)).symm) ?_ | refine .eq rfl ?_)
        · exact (.put (notF rfl) rfl (.eq rfl (by simp)) (.put (notF rfl) rfl (.rowDE rfl) (.put (notF rfl) rfl (.rowDE rfl) (.put (notF rfl) rfl (.rowDE rfl) (.put (notF rfl) rfl (.eq rfl (by simp)) (.put (notF rfl) rfl (.rowDE rfl) (.put (notF rfl) rfl (.rowDE rfl) (.nil _))))))))
      · have h3 : L[i].kind ≠ 0 := h3
        have hd : deadB b l i = true := by
          unfold deadB
          rw [List.getElem?_eq_getElem hlt, List.getElem?_eq_getElem hiO, h2]
          simp [← hki, h3]
        have hLl := hPt.1
        refine loop_keep (fun (s : StL) => s.i ≤ l.length ∧ Pt l s.L (fun t o => if t < s.i then onceIn i (onceAt b l i t o) else onceAt b l i t o)) [0, 3, 4, 16, 17, 42] (fun s => [(43, vInt .i64 (s.i : Nat))]) (fun s => [.var [.row 1 9 0 none, .row 2 2 0 none, .row 3 4 0 none], .row 9 (dRows (s.L.map Obj.enc)), .row 2 (dRows (ops.map Opn.enc)), .row 4 (dRows (ps.map Prc.enc)), .var [.ptr 0 0, .row 5 1 0 none, .row 6 1 0 none], .row 1 (dRows (b.O.map bE)), .row 1 (dRows (b.P.map bE))]) (fun s => l.length - s.i) ⟨0, L⟩ ⟨Nat.zero_le _, hPt.congr fun t o _ => by simp⟩ ?_ (fun s hs => ?_)
        · refine View.of 7 [0, 1, 2, 3, 4, 5, 6] [] rfl rfl rfl rfl rfl rfl ?_ ?_
          · repeat (first | exact .nil | refine .junk ?_ | refine .eq rfl ?_)
          · exact (.put (notF rfl) rfl (.eq rfl (by simp)) (.put (notF rfl) rfl (.rowDE rfl) (.put (notF rfl) rfl (.rowDE rfl) (.put (notF rfl) rfl (.rowDE rfl) (.put (notF rfl) rfl (.eq rfl (by simp)) (.put (notF rfl) rfl (.rowDE rfl) (.put (notF rfl) rfl (.rowDE rfl) (.nil _))))))))
        clear hPt hgo
        obtain ⟨j, M⟩ := s
        obtain ⟨hj, hPt⟩ := hs
        have hj : j ≤ l.length := hj
        have hPt : Pt l M (fun t o => if t < j then onceIn i (onceAt b l i t o) else onceAt b l i t o) := hPt
        have hMl := hPt.1
        refine bB_dec (fun hjl => ?_) (fun hjl => ?_)
        · have hjlt : j < L.length := len_lt hjl
          have hjl2 : j < l.length := by omega
          obtain ⟨hM, hMj⟩ := hPt.at hjl2
          simp only [Nat.lt_irrefl, if_false] at hMj
          have hset := fun x => hPt.set (j := j) (x := x) (g := fun t o => if t < j + 1 then onceIn i (onceAt b l i t o) else onceAt b l i t o)
          have hsame := fun (hh : onceIn i M[j] = M[j]) => hPt.congr (g := fun t o => if t < j + 1 then onceIn i (onceAt b l i t o) else onceAt b l i t o) fun t o ho => by
            by_cases htj : t = j
            · subst htj
              rw [List.getElem?_eq_getElem hjl2] at ho
              cases ho
              simp only [Nat.lt_irrefl, if_false, Nat.lt_succ_self, if_true]
              rw [← hMj, hh]
            · have e1 : (t < j + 1) ↔ (t < j) := by omega
              simp only [e1]
          refine ok_some (o_idx hM) ?_
          refine ok_some (dRows_nth' Obj.enc M hM) ?_
          have hnx := dRows_nth' Obj.enc M hM
          generalize hx : M[j] = x at hMj hsame hnx
          refine bB_beq (fun h4 => ?_) (fun h4 => ?_)
          · have h4 : x.kind = 4 := h4
            refine ok_some (o_idx hM) ?_
            refine ok_some hnx ?_
            refine bB_beq (fun h5 => ?_) (fun h5 => ?_)
            · have h5 : x.peer = (i : Int) := h5
              refine ok_some (o_idx hM) ?_
              refine ok_some hnx ?_
              have hs := hset { x with peer := -1 } (fun o ho => by
                rw [List.getElem?_eq_getElem hjl2] at ho
                cases ho
                simp only [Nat.lt_succ_self, if_true]
                rw [← hMj]
                simp [onceIn, h4, h5]) (fun t o htj _ => by
                have e1 : (t < j + 1) ↔ (t < j) := by omega
                simp only [e1])
              refine ⟨⟨j + 1, M.set j { x with peer := -1 }⟩, ⟨hjl2, hs⟩, (show l.length - (j + 1) < l.length - j by omega), View.of 7 [0, 1, 2, 3, 4, 5, 6] [] rfl rfl rfl rfl rfl rfl ?_ ?_⟩
              · repeat (first | exact .nil | refine .junk ?_ | refine .put (.ren (next_i64 (by omega)).symm) ?_ | refine .eq rfl ?_)
              · exact (.put (notF rfl) rfl (.eq rfl (by simp)) (.put (notF rfl) rfl (.rowDE (dRows_set' Obj.enc M j { x with peer := -1 })) (.put (notF rfl) rfl (.rowDE rfl) (.put (notF rfl) rfl (.rowDE rfl) (.put (notF rfl) rfl (.eq rfl (by simp)) (.put (notF rfl) rfl (.rowDE rfl) (.put (notF rfl) rfl (.rowDE rfl) (.nil _))))))))
            · have h5 : x.peer ≠ (i : Int) := h5
              refine ⟨⟨j + 1, M⟩, ⟨hjl2, hsame (by simp [onceIn, h5])⟩, (show l.length - (j + 1) < l.length - j by omega), View.of 7 [0, 1, 2, 3, 4, 5, 6] [] rfl rfl rfl rfl rfl rfl ?_ ?_⟩
              · repeat (first | exact .nil | refine .junk ?_ | refine .put (.ren (next_i64 (by omega)).symm) ?_ | refine .eq rfl ?_)
              · exact (.put (notF rfl) rfl (.eq rfl (by simp)) (.put (notF rfl) rfl (.rowDE rfl) (.put (notF rfl) rfl (.rowDE rfl) (.put (notF rfl) rfl (.rowDE rfl) (.put (notF rfl) rfl (.eq rfl (by simp)) (.put (notF rfl) rfl (.rowDE rfl) (.put (notF rfl) rfl (.rowDE rfl) (.nil _))))))))
          · have h4 : x.kind ≠ 4 := h4
            refine ⟨⟨j + 1, M⟩, ⟨hjl2, hsame (by simp [onceIn, h4])⟩, (show l.length - (j + 1) < l.length - j by omega), View.of 7 [0, 1, 2, 3, 4, 5, 6] [] rfl rfl rfl rfl rfl rfl ?_ ?_⟩
            · repeat (first | exact .nil | refine .junk ?_ | refine .put (.ren (next_i64 (by omega)).symm) ?_ | refine .eq rfl ?_)
            · exact (.put (notF rfl) rfl (.eq rfl (by simp)) (.put (notF rfl) rfl (.rowDE rfl) (.put (notF rfl) rfl (.rowDE rfl) (.put (notF rfl) rfl (.rowDE rfl) (.put (notF rfl) rfl (.eq rfl (by simp)) (.put (notF rfl) rfl (.rowDE rfl) (.put (notF rfl) rfl (.rowDE rfl) (.nil _))))))))
        · have hje : L.length ≤ j := len_ge hjl
          have hM : i < M.length := by omega
          refine ok_some (o_idx hM) ?_
          refine ok_some (dRows_nth' Obj.enc M hM) ?_
          have hs := hPt.set (j := i) (x := zeroO) (g := onceAt b l (i + 1)) (fun o _ => onceAt_self hd o) (fun t o hti ht => by
            have : t < j := by have := (List.getElem?_eq_some_iff.1 ht).1; omega
            rw [if_pos this, onceAt_yes hd hti])
          refine ⟨⟨i + 1, M.set i zeroO⟩, ⟨hlt, hs⟩, (show l.length - (i + 1) < l.length - i by omega), View.of 7 [0, 1, 2, 3, 4, 5, 6] [] rfl rfl rfl rfl rfl rfl ?_ ?_⟩
          · repeat (first | exact .nil | refine .junk ?_ | refine .put (.ren (next_i64 (by omega)).symm) ?_ | refine .eq rfl ?_)
          · exact (.put (notF rfl) rfl (.eq rfl (by simp)) (.put (notF rfl) rfl (rowZ M i) (.put (notF rfl) rfl (.rowDE rfl) (.put (notF rfl) rfl (.rowDE rfl) (.put (notF rfl) rfl (.eq rfl (by simp)) (.put (notF rfl) rfl (.rowDE rfl) (.put (notF rfl) rfl (.rowDE rfl) (.nil _))))))))
  · have h9 : l.length ≤ i := len_ge h
    have hie : i = l.length := by omega
    subst hie
    have hLl := hPt.1
    refine loop_keep (fun (s : StO2) => s.i ≤ ops.length ∧ Pt ops s.L (opS b s.i)) [0, 3, 87] (fun s => [(88, vInt .i64 (s.i : Nat))]) (fun s => [.var [.row 1 9 0 none, .row 2 2 0 none, .row 3 4 0 none], .row 9 (dRows (L.map Obj.enc)), .row 2 (dRows (s.L.map Opn.enc)), .row 4 (dRows (ps.map Prc.enc)), .var [.ptr 0 0, .row 5 1 0 none, .row 6 1 0 none], .row 1 (dRows (b.O.map bE)), .row 1 (dRows (b.P.map bE))]) (fun s => ops.length - s.i) ⟨0, ops⟩ ⟨Nat.zero_le _, (Pt.refl ops).congr fun t o _ => by simp [opS]⟩ ?_ (fun s hs => ?_)
    · refine View.of 7 [0, 1, 2, 3, 4, 5, 6] [] rfl rfl rfl rfl rfl rfl ?_ ?_
      · repeat (first | exact .nil | refine .junk ?_ | refine .eq rfl ?_)
      · exact (.put (notF rfl) rfl (.eq rfl (by simp)) (.put (notF rfl) rfl (.rowDE rfl) (.put (notF rfl) rfl (.rowDE rfl) (.put (notF rfl) rfl (.rowDE rfl) (.put (notF rfl) rfl (.eq rfl (by simp)) (.put (notF rfl) rfl (.rowDE rfl) (.put (notF rfl) rfl (.rowDE rfl) (.nil _))))))))
    obtain ⟨k, L2⟩ := s
    obtain ⟨hk, hP2⟩ := hs
    have hk : k ≤ ops.length := hk
    have hP2 : Pt ops L2 (opS b k) := hP2
    have hL2l := hP2.1
    refine bB_dec (fun h => ?_) (fun h => ?_)
    · have hklt : k < ops.length := len_lt h
      have hkP : k < b.P.length := by omega
      refine ok_some (b_idx hkP) ?_
      refine ok_some (bO_get hkP) ?_
      have hno : ∀ t, t ≠ k → decide (t < k + 1) = decide (t < k) := fun t ht => decide_eq_decide.2 (by omega)
      refine bB_split (fun h2 => ?_) (fun h2 => ?_)
      · have h2 : b.P[k] = false := by simpa using h2
        have hL2 : k < L2.length := by omega
        refine ok_some (op_idx hL2) ?_
        refine ok_some (dRows_nth' Opn.enc L2 hL2) ?_
        have hs := hP2.set (j := k) (x := ⟨-1, 0⟩) (g := opS b (k + 1)) (fun o _ => by simp [opS, List.getElem?_eq_getElem hkP, h2]) (fun t o htk _ => by unfold opS; rw [hno t htk])
        refine ⟨⟨k + 1, L2.set k ⟨-1, 0⟩⟩, ⟨hklt, hs⟩, (show ops.length - (k + 1) < ops.length - k by omega), View.of 7 [0, 1, 2, 3, 4, 5, 6] [] rfl rfl rfl rfl rfl rfl ?_ ?_⟩
        · repeat (first | exact .nil | refine .junk ?_ | refine .put (.ren (next_i64 (by omega)).symm) ?_ | refine .eq rfl ?_)
        · exact (.put (notF rfl) rfl (.eq rfl (by simp)) (.put (notF rfl) rfl (.rowDE rfl) (.put (notF rfl) rfl (.rowDE (dRows_set' Opn.enc L2 k ⟨-1, 0⟩)) (.put (notF rfl) rfl (.rowDE rfl) (.put (notF rfl) rfl (.eq rfl (by simp)) (.put (notF rfl) rfl (.rowDE rfl) (.put (notF rfl) rfl (.rowDE rfl) (.nil _))))))))
      · have h2 : b.P[k] = true := by simpa using h2
        have hs := hP2.congr (g := opS b (k + 1)) fun t o _ => by
          by_cases htk : t = k
          · subst htk; simp [opS, List.getElem?_eq_getElem hkP, h2]
          · unfold opS; rw [hno t htk]
        refine ⟨⟨k + 1, L2⟩, ⟨hklt, hs⟩, (show ops.length - (k + 1) < ops.length - k by omega), View.of 7 [0, 1, 2, 3, 4, 5, 6] [] rfl rfl rfl rfl rfl rfl ?_ ?_⟩
        · repeat (first | exact .nil | refine .junk ?_ | refine .put (.ren (next_i64 (by omega)).symm) ?_ | refine .eq rfl ?_)
        · exact (.put (notF rfl) rfl (.eq rfl (by simp)) (.put (notF rfl) rfl (.rowDE rfl) (.put (notF rfl) rfl (.rowDE rfl) (.put (notF rfl) rfl (.rowDE rfl) (.put (notF rfl) rfl (.eq rfl (by simp)) (.put (notF rfl) rfl (.rowDE rfl) (.put (notF rfl) rfl (.rowDE rfl) (.nil _))))))))
    · have h9 : ops.length ≤ k := len_ge h
      have hke : k = ops.length := by omega
      subst hke
      refine loop_keep (fun (s : St3) => s.i ≤ ps.length ∧ Pt ps s.L (prS L s.i) ∧ s.en = endsS L ps s.i) [0, 3, 111] (fun s => [(112, vInt .i64 (s.i : Nat)), (7, vBool s.en)]) (fun s => [.var [.row 1 9 0 none, .row 2 2 0 none, .row 3 4 0 none], .row 9 (dRows (L.map Obj.enc)), .row 2 (dRows (L2.map Opn.enc)), .row 4 (dRows (s.L.map Prc.enc)), .var [.ptr 0 0, .row 5 1 0 none, .row 6 1 0 none], .row 1 (dRows (b.O.map bE)), .row 1 (dRows (b.P.map bE))]) (fun s => ps.length - s.i) ⟨0, ps, false⟩ ⟨Nat.zero_le _, (Pt.refl ps).congr fun t o _ => by simp [prS], rfl⟩ ?_ (fun s hs => ?_)
      · refine View.of 7 [0, 1, 2, 3, 4, 5, 6] [] rfl rfl rfl rfl rfl rfl ?_ ?_
        · repeat (first | exact .nil | refine .junk ?_ | refine .eq rfl ?_)
        · exact (.put (notF rfl) rfl (.eq rfl (by simp)) (.put (notF rfl) rfl (.rowDE rfl) (.put (notF rfl) rfl (.rowDE rfl) (.put (notF rfl) rfl (.rowDE rfl) (.put (notF rfl) rfl (.eq rfl (by simp)) (.put (notF rfl) rfl (.rowDE rfl) (.put (notF rfl) rfl (.rowDE rfl) (.nil _))))))))
      obtain ⟨p, L3, en⟩ := s
      obtain ⟨hp, hP3, hen⟩ := hs
      have hp : p ≤ ps.length := hp
      have hP3 : Pt ps L3 (prS L p) := hP3
      have hen : en = endsS L ps p := hen
      have hL3l := hP3.1
      refine bB_dec (fun h => ?_) (fun h => ?_)
      · have hplt : p < ps.length := len_lt h
        obtain ⟨hL3, hL3p⟩ := hP3.at hplt
        have hL3p : L3[p] = ps[p] := by rw [hL3p]; simp [prS]
        have hno : ∀ t, t ≠ p → decide (t < p + 1) = decide (t < p) := fun t ht => decide_eq_decide.2 (by omega)
        have hens := endsS_succ (L := L) hplt
        have hskip : endP L p ps[p] = false → Pt ps L3 (prS L (p + 1)) ∧ en = endsS L ps (p + 1) := fun hf => ⟨hP3.congr fun t o hto => by
          by_cases htp : t = p
          · subst htp
            rw [List.getElem?_eq_getElem hplt] at hto
            cases hto
            simp [prS, hf]
          · unfold prS; rw [hno t htp], by rw [hens, hf, hen]; simp⟩
        refine contBorrow L L2 L3 b p (by omega) ?_
        refine bB_dec (fun hp0 => ?_) (fun hp0 => ?_)
        · have hp0 : 0 < p := by
            have h : (p : Int) > 0 := hp0
            omega
          refine ok_some (pr_idx hL3) ?_
          refine ok_some (dRows_nth' Prc.enc L3 hL3) ?_
          refine bB_split (fun hlv => ?_) (fun hlv => ?_)
          · refine bB_split (fun han => ?_) (fun han => ?_)
            · refine ok_some (pr_idx hL3) ?_
              refine ok_some (dRows_nth' Prc.enc L3 hL3) ?_
              refine ⟨trivial, ?_⟩
              have he : endP L p ps[p] = true := by
                rw [hL3p] at hlv
                unfold endP
                rw [hlv, han]
                simp [hp0]
              have hs := hP3.set (j := p) (x := zeroP) (g := prS L (p + 1)) (fun o hto => by
                rw [List.getElem?_eq_getElem hplt] at hto
                cases hto
                simp [prS, he]) (fun t o htp _ => by unfold prS; rw [hno t htp])
              refine ⟨⟨p + 1, L3.set p zeroP, true⟩, ⟨hplt, hs, (by rw [hens, he]; simp)⟩, (show ps.length - (p + 1) < ps.length - p by omega), View.of 8 [0, 1, 2, 3, 4, 5, 6] [] rfl rfl rfl rfl rfl rfl ?_ ?_⟩
              · repeat (first | exact .nil | refine .junk ?_ | refine .put (.ren (next_i64 (by omega)).symm) ?_ | refine .eq rfl ?_)
              · exact (.put (notF rfl) rfl (.eq rfl (by simp)) (.put (notF rfl) rfl (.rowDE rfl) (.put (notF rfl) rfl (.rowDE rfl) (.put (notF rfl) rfl (rowZP L3 p) (.put (notF rfl) rfl (.eq rfl (by simp)) (.put (notF rfl) rfl (.rowDE rfl) (.put (notF rfl) rfl (.rowDE rfl) (.nil _))))))))
            · skip
              refine ⟨⟨p + 1, L3, en⟩, ⟨hplt, (hskip (by unfold endP; rw [han]; simp)).1, (hskip (by unfold endP; rw [han]; simp)).2⟩, (show ps.length - (p + 1) < ps.length - p by omega), View.of 8 [0, 1, 2, 3, 4, 5, 6] [] rfl rfl rfl rfl rfl rfl ?_ ?_⟩
              · repeat (first | exact .nil | refine .junk ?_ | refine .put (.ren (next_i64 (by omega)).symm) ?_ | refine .eq rfl ?_)
              · exact (.put (notF rfl) rfl (.eq rfl (by simp)) (.put (notF rfl) rfl (.rowDE rfl) (.put (notF rfl) rfl (.rowDE rfl) (.put (notF rfl) rfl (.rowDE rfl) (.put (notF rfl) rfl (.eq rfl (by simp)) (.put (notF rfl) rfl (.rowDE rfl) (.put (notF rfl) rfl (.rowDE rfl) (.nil _))))))))
          · rw [hL3p] at hlv
            refine ⟨⟨p + 1, L3, en⟩, ⟨hplt, (hskip (by unfold endP; rw [hlv]; simp)).1, (hskip (by unfold endP; rw [hlv]; simp)).2⟩, (show ps.length - (p + 1) < ps.length - p by omega), View.of 8 [0, 1, 2, 3, 4, 5, 6] [] rfl rfl rfl rfl rfl rfl ?_ ?_⟩
            · repeat (first | exact .nil | refine .junk ?_ | refine .put (.ren (next_i64 (by omega)).symm) ?_ | refine .eq rfl ?_)
            · exact (.put (notF rfl) rfl (.eq rfl (by simp)) (.put (notF rfl) rfl (.rowDE rfl) (.put (notF rfl) rfl (.rowDE rfl) (.put (notF rfl) rfl (.rowDE rfl) (.put (notF rfl) rfl (.eq rfl (by simp)) (.put (notF rfl) rfl (.rowDE rfl) (.put (notF rfl) rfl (.rowDE rfl) (.nil _))))))))
        · have hp0 : p = 0 := by
            have h : ¬ (p : Int) > 0 := hp0
            omega
          refine ⟨⟨p + 1, L3, en⟩, ⟨hplt, (hskip (by simp [endP, hp0])).1, (hskip (by simp [endP, hp0])).2⟩, (show ps.length - (p + 1) < ps.length - p by omega), View.of 8 [0, 1, 2, 3, 4, 5, 6] [] rfl rfl rfl rfl rfl rfl ?_ ?_⟩
          · repeat (first | exact .nil | refine .junk ?_ | refine .put (.ren (next_i64 (by omega)).symm) ?_ | refine .eq rfl ?_)
          · exact (.put (notF rfl) rfl (.eq rfl (by simp)) (.put (notF rfl) rfl (.rowDE rfl) (.put (notF rfl) rfl (.rowDE rfl) (.put (notF rfl) rfl (.rowDE rfl) (.put (notF rfl) rfl (.eq rfl (by simp)) (.put (notF rfl) rfl (.rowDE rfl) (.put (notF rfl) rfl (.rowDE rfl) (.nil _))))))))
      · have h9 : ps.length ≤ p := len_ge h
        have hpe : p = ps.length := by omega
        subst hpe
        refine ⟨vBool en, _, View.of 7 [0, 1, 2, 3] [] rfl rfl rfl rfl rfl rfl (.eq rfl .nil) (.put (notF rfl) rfl (.eq rfl (by simp)) (.put (notF rfl) rfl (.rowDE rfl) (.put (notF rfl) rfl (.rowDE rfl) (.put (notF rfl) rfl (.rowDE rfl) (.nil _))))), L, L2, L3, en, ⟨⟨b, hb, hPt, hP2⟩, hP3, hen⟩, rfl, rfl⟩

set_option maxRecDepth 100000 in
theorem once_ok (l : List Obj) (ops : List Opn) (ps : List Prc) (g : ∀ o, o ∈ l → o.sm) (hl : l.length ≤ 4194304) (ho : ops.length ≤ 4194304) (hpl : ps.length ≤ 4194304) (hps : ∀ p, p ∈ ps → p.slots.length ≤ 10) :
    ACall Try.prog 31 [.rv (.one (.ptr 0 0))] [.var [.row 1 9 0 none, .row 2 2 0 none, .row 3 4 0 none], .row 9 (dRows (l.map Obj.enc)), .row 2 (dRows (ops.map Opn.enc)), .row 4 (dRows (ps.map Prc.enc))]
      (fun r m => ∃ L L2 L3 en, OnceOK l ops ps L L2 L3 en ∧ r = vBool en ∧ m = [.var [.row 1 9 0 none, .row 2 2 0 none, .row 3 4 0 none], .row 9 (dRows (L.map Obj.enc)), .row 2 (dRows (L2.map Opn.enc)), .row 4 (dRows (L3.map Prc.enc))]) :=
  acall_view (acall_body Try.func31 l31 rfl (Nat.le_of_ble_eq_true rfl) (once_body l ops ps g hl ho hpl hps)) fun r m1 h => h

end Go.Proofs.Ytnlhnmlojcfljaa
