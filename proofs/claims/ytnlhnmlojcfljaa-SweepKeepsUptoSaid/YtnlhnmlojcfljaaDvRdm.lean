import Derived.Test.YtnlhnmlojcfljaaAmZ2
import Derived.Test.YtnlhnmlojcfljaaDvBdm
import Derived.Test.YtnlhnmlojcfljaaAmY
set_option linter.unusedVariables false
set_option linter.unusedSimpArgs false
namespace Go.Proofs.Ytnlhnmlojcfljaa
open Go.AM Go.ChangeShapes Go.WideShapes Go.ChangeAt Go.RowKit
def c9 : LF := ⟨27, [.tmp 4], (.seq (.reg [
    ⟨(some 4), .mov (.c (.rv (.one (.dat (.val (.bool false)))))), none⟩]) (.seq (.seq (.reg [
    ⟨(some 6), .mov (.t 0), none⟩,
    ⟨(some 7), .len 1 (.t 6), none⟩,
    ⟨(some 8), .mov (.t 1), none⟩,
    ⟨(some 9), .len 1 (.t 8), none⟩,
    ⟨(some 10), .bin .neq (.t 7) (.t 9), none⟩]) (.cond (.t 10) (.seq (.reg [
    ⟨(some 4), .mov (.c (.rv (.one (.dat (.val (.bool false)))))), none⟩]) .ret) .skip)) (.seq (.seq (.reg [
    ⟨(some 11), .mov (.t 0), none⟩,
    ⟨(some 12), .len 1 (.t 11), none⟩,
    ⟨(some 13), .mov (.c (.rv (.one (.dat (.val (.int .i64 (0))))))), none⟩]) (.block 0 (.loop (.seq (.reg [
    ⟨(some 14), .bin .lss (.t 13) (.t 12), none⟩]) (.seq (.cond (.t 14) .skip (.exit 0)) (.seq (.block 1 (.seq (.reg [
    ⟨(some 15), .mov (.t 13), none⟩,
    ⟨(some 5), .mov (.t 15), none⟩]) (.seq (.draw [
    ⟨(some 16), .mov (.t 0), none⟩,
    ⟨(some 17), .mov (.t 5), none⟩,
    ⟨(some 18), .idx 9 (.t 16) (.t 17), none⟩,
    ⟨(some 19), .load true 9 (.t 18), none⟩,
    ⟨(some 20), .mov (.t 1), none⟩,
    ⟨(some 21), .mov (.t 5), none⟩,
    ⟨(some 22), .idx 9 (.t 20) (.t 21), none⟩,
    ⟨(some 23), .load true 9 (.t 22), none⟩,
    ⟨(some 24), .call (.c (.rv (.one (.fn 19 [])))) [(.t 19), (.t 23)], none⟩,
    ⟨(some 25), .un .not (.t 24), none⟩]
    [(.cons 0 none (.cons 1 none (.cons 2 none (.cons 3 none (.cons 4 none (.cons 5 none (.cons 6 none (.cons 7 none (.cons 8 (some []) (.cons 9 none .nil))))))))))]) (.cond (.t 25) (.seq (.reg [
    ⟨(some 4), .mov (.c (.rv (.one (.dat (.val (.bool false)))))), none⟩]) .ret) .skip)))) (.reg [
    ⟨(some 26), .bin .add (.t 13) (.c (.rv (.one (.dat (.val (.int .i64 (1))))))), none⟩,
    ⟨(some 13), .mov (.t 26), none⟩]))))))) (.seq (.reg [
    ⟨(some 4), .mov (.c (.rv (.one (.dat (.val (.bool true)))))), none⟩]) .ret))))⟩
def c19 : LF := ⟨132, [.tmp 4], (.seq (.reg [
    ⟨(some 2), .box (.t 0), none⟩,
    ⟨(some 3), .box (.t 1), none⟩,
    ⟨(some 4), .mov (.c (.rv (.one (.dat (.val (.bool false)))))), none⟩]) (.seq (.seq (.reg [
    ⟨(some 9), .fadr 0 (.t 2), none⟩,
    ⟨(some 10), .load false 1 (.t 9), none⟩,
    ⟨(some 11), .fadr 0 (.t 3), none⟩,
    ⟨(some 12), .load false 1 (.t 11), none⟩,
    ⟨(some 13), .bin .neq (.t 10) (.t 12), none⟩,
    ⟨(some 14), .mov (.t 13), none⟩,
    ⟨(some 15), .fadr 1 (.t 2), (some (14, false))⟩,
    ⟨(some 16), .load false 1 (.t 15), (some (14, false))⟩,
    ⟨(some 17), .b2s (.t 16), (some (14, false))⟩,
    ⟨(some 18), .fadr 1 (.t 3), (some (14, false))⟩,
    ⟨(some 19), .load false 1 (.t 18), (some (14, false))⟩,
    ⟨(some 20), .b2s (.t 19), (some (14, false))⟩,
    ⟨(some 21), .bin .neq (.t 17) (.t 20), (some (14, false))⟩,
    ⟨(some 22), .pick (.t 14) (.c (.rv (.one (.dat (.val (.bool true)))))) (.t 21), none⟩,
    ⟨(some 23), .mov (.t 22), none⟩,
    ⟨(some 24), .fadr 3 (.t 2), (some (23, false))⟩,
    ⟨(some 25), .load false 1 (.t 24), (some (23, false))⟩,
    ⟨(some 26), .fadr 3 (.t 3), (some (23, false))⟩,
    ⟨(some 27), .load false 1 (.t 26), (some (23, false))⟩,
    ⟨(some 28), .bin .neq (.t 25) (.t 27), (some (23, false))⟩,
    ⟨(some 29), .pick (.t 23) (.c (.rv (.one (.dat (.val (.bool true)))))) (.t 28), none⟩,
    ⟨(some 30), .mov (.t 29), none⟩,
    ⟨(some 31), .fadr 4 (.t 2), (some (30, false))⟩,
    ⟨(some 32), .load false 1 (.t 31), (some (30, false))⟩,
    ⟨(some 33), .fadr 4 (.t 3), (some (30, false))⟩,
    ⟨(some 34), .load false 1 (.t 33), (some (30, false))⟩,
    ⟨(some 35), .bin .neq (.t 32) (.t 34), (some (30, false))⟩,
    ⟨(some 36), .pick (.t 30) (.c (.rv (.one (.dat (.val (.bool true)))))) (.t 35), none⟩,
    ⟨(some 37), .mov (.t 36), none⟩,
    ⟨(some 38), .fadr 6 (.t 2), (some (37, false))⟩,
    ⟨(some 39), .load false 1 (.t 38), (some (37, false))⟩,
    ⟨(some 40), .fadr 6 (.t 3), (some (37, false))⟩,
    ⟨(some 41), .load false 1 (.t 40), (some (37, false))⟩,
    ⟨(some 42), .bin .neq (.t 39) (.t 41), (some (37, false))⟩,
    ⟨(some 43), .pick (.t 37) (.c (.rv (.one (.dat (.val (.bool true)))))) (.t 42), none⟩,
    ⟨(some 44), .mov (.t 43), none⟩,
    ⟨(some 45), .fadr 7 (.t 2), (some (44, false))⟩,
    ⟨(some 46), .load false 1 (.t 45), (some (44, false))⟩,
    ⟨(some 47), .fadr 7 (.t 3), (some (44, false))⟩,
    ⟨(some 48), .load false 1 (.t 47), (some (44, false))⟩,
    ⟨(some 49), .bin .neq (.t 46) (.t 48), (some (44, false))⟩,
    ⟨(some 50), .pick (.t 44) (.c (.rv (.one (.dat (.val (.bool true)))))) (.t 49), none⟩,
    ⟨(some 51), .mov (.t 50), none⟩,
    ⟨(some 52), .fadr 8 (.t 2), (some (51, false))⟩,
    ⟨(some 53), .load false 1 (.t 52), (some (51, false))⟩,
    ⟨(some 54), .fadr 8 (.t 3), (some (51, false))⟩,
    ⟨(some 55), .load false 1 (.t 54), (some (51, false))⟩,
    ⟨(some 56), .bin .neq (.t 53) (.t 55), (some (51, false))⟩,
    ⟨(some 57), .pick (.t 51) (.c (.rv (.one (.dat (.val (.bool true)))))) (.t 56), none⟩,
    ⟨(some 58), .mov (.t 57), none⟩,
    ⟨(some 59), .fadr 2 (.t 2), (some (58, false))⟩,
    ⟨(some 60), .load false 1 (.t 59), (some (58, false))⟩,
    ⟨(some 61), .len 1 (.t 60), (some (58, false))⟩,
    ⟨(some 62), .fadr 2 (.t 3), (some (58, false))⟩,
    ⟨(some 63), .load false 1 (.t 62), (some (58, false))⟩,
    ⟨(some 64), .len 1 (.t 63), (some (58, false))⟩,
    ⟨(some 65), .bin .neq (.t 61) (.t 64), (some (58, false))⟩,
    ⟨(some 66), .pick (.t 58) (.c (.rv (.one (.dat (.val (.bool true)))))) (.t 65), none⟩,
    ⟨(some 67), .mov (.t 66), none⟩,
    ⟨(some 68), .fadr 5 (.t 2), (some (67, false))⟩,
    ⟨(some 69), .load false 1 (.t 68), (some (67, false))⟩,
    ⟨(some 70), .len 1 (.t 69), (some (67, false))⟩,
    ⟨(some 71), .fadr 5 (.t 3), (some (67, false))⟩,
    ⟨(some 72), .load false 1 (.t 71), (some (67, false))⟩,
    ⟨(some 73), .len 1 (.t 72), (some (67, false))⟩,
    ⟨(some 74), .bin .neq (.t 70) (.t 73), (some (67, false))⟩,
    ⟨(some 75), .pick (.t 67) (.c (.rv (.one (.dat (.val (.bool true)))))) (.t 74), none⟩]) (.cond (.t 75) (.seq (.reg [
    ⟨(some 4), .mov (.c (.rv (.one (.dat (.val (.bool false)))))), none⟩]) .ret) .skip)) (.seq (.seq (.reg [
    ⟨(some 76), .fadr 2 (.t 2), none⟩,
    ⟨(some 77), .load false 1 (.t 76), none⟩,
    ⟨(some 78), .len 1 (.t 77), none⟩,
    ⟨(some 79), .mov (.c (.rv (.one (.dat (.val (.int .i64 (0))))))), none⟩]) (.block 0 (.loop (.seq (.reg [
    ⟨(some 80), .bin .lss (.t 79) (.t 78), none⟩]) (.seq (.cond (.t 80) .skip (.exit 0)) (.seq (.block 1 (.seq (.reg [
    ⟨(some 81), .mov (.t 79), none⟩,
    ⟨(some 5), .mov (.t 81), none⟩]) (.seq (.draw [
    ⟨(some 82), .fadr 2 (.t 2), none⟩,
    ⟨(some 83), .load false 1 (.t 82), none⟩,
    ⟨(some 84), .mov (.t 5), none⟩,
    ⟨(some 85), .idx 2 (.t 83) (.t 84), none⟩,
    ⟨(some 86), .load true 2 (.t 85), none⟩,
    ⟨(some 87), .fadr 2 (.t 3), none⟩,
    ⟨(some 88), .load false 1 (.t 87), none⟩,
    ⟨(some 89), .mov (.t 5), none⟩,
    ⟨(some 90), .idx 2 (.t 88) (.t 89), none⟩,
    ⟨(some 91), .load true 2 (.t 90), none⟩,
    ⟨(some 92), .eqa true [.s, .i] (.t 86) (.t 91), none⟩]
    [(.cons 0 none (.cons 1 none (.cons 2 none (.cons 3 none (.cons 4 none (.cons 5 none (.cons 6 none (.cons 7 none (.cons 8 none (.cons 9 none (.cons 10 none .nil)))))))))))]) (.cond (.t 92) (.seq (.reg [
    ⟨(some 4), .mov (.c (.rv (.one (.dat (.val (.bool false)))))), none⟩]) .ret) .skip)))) (.reg [
    ⟨(some 93), .bin .add (.t 79) (.c (.rv (.one (.dat (.val (.int .i64 (1))))))), none⟩,
    ⟨(some 79), .mov (.t 93), none⟩]))))))) (.seq (.seq (.reg [
    ⟨(some 94), .fadr 5 (.t 2), none⟩,
    ⟨(some 95), .load false 1 (.t 94), none⟩,
    ⟨(some 96), .len 1 (.t 95), none⟩,
    ⟨(some 97), .mov (.c (.rv (.one (.dat (.val (.int .i64 (0))))))), none⟩]) (.block 2 (.loop (.seq (.reg [
    ⟨(some 98), .bin .lss (.t 97) (.t 96), none⟩]) (.seq (.cond (.t 98) .skip (.exit 2)) (.seq (.block 3 (.seq (.reg [
    ⟨(some 99), .mov (.t 97), none⟩,
    ⟨(some 6), .mov (.t 99), none⟩]) (.seq (.draw [
    ⟨(some 100), .fadr 5 (.t 2), none⟩,
    ⟨(some 101), .load false 1 (.t 100), none⟩,
    ⟨(some 102), .mov (.t 6), none⟩,
    ⟨(some 103), .idx 4 (.t 101) (.t 102), none⟩,
    ⟨(some 104), .load true 4 (.t 103), none⟩,
    ⟨(some 105), .fadr 5 (.t 3), none⟩,
    ⟨(some 106), .load false 1 (.t 105), none⟩,
    ⟨(some 107), .mov (.t 6), none⟩,
    ⟨(some 108), .idx 4 (.t 106) (.t 107), none⟩,
    ⟨(some 109), .load true 4 (.t 108), none⟩,
    ⟨(some 7), .alloc [.esl, (.dat (.val (.bool false))), (.dat (.val (.int .i64 (0)))), (.dat (.val (.int .i64 (0))))], none⟩,
    ⟨(some 8), .alloc [.esl, (.dat (.val (.bool false))), (.dat (.val (.int .i64 (0)))), (.dat (.val (.int .i64 (0))))], none⟩,
    ⟨none, .store 4 (.t 7) (.t 104), none⟩,
    ⟨none, .store 4 (.t 8) (.t 109), none⟩]
    [(.cons 0 none (.cons 1 none (.cons 2 none (.cons 3 none (.cons 4 none (.cons 5 none (.cons 6 none (.cons 7 none (.cons 8 none (.cons 9 none (.alt (.cons 10 (some [9, 8, 6, 4, 3, 1]) (.cons 11 (some [9, 8, 6, 4, 3, 1]) (.cons 12 (some [9, 8, 6]) (.cons 13 (some []) .nil)))) (.cons 11 (some [9, 8, 6, 4, 3, 1]) (.cons 10 (some [9, 8, 6, 4, 3, 1]) (.cons 12 (some [9, 8, 6]) (.cons 13 (some []) .nil)))))))))))))))]) (.seq (.reg [
    ⟨(some 110), .fadr 0 (.t 7), none⟩,
    ⟨(some 111), .load false 1 (.t 110), none⟩,
    ⟨(some 112), .b2s (.t 111), none⟩,
    ⟨(some 113), .fadr 0 (.t 8), none⟩,
    ⟨(some 114), .load false 1 (.t 113), none⟩,
    ⟨(some 115), .b2s (.t 114), none⟩,
    ⟨(some 116), .bin .neq (.t 112) (.t 115), none⟩,
    ⟨(some 117), .mov (.t 116), none⟩,
    ⟨(some 118), .fadr 1 (.t 7), (some (117, false))⟩,
    ⟨(some 119), .load false 1 (.t 118), (some (117, false))⟩,
    ⟨(some 120), .fadr 1 (.t 8), (some (117, false))⟩,
    ⟨(some 121), .load false 1 (.t 120), (some (117, false))⟩,
    ⟨(some 122), .beq true (.t 119) (.t 121), (some (117, false))⟩,
    ⟨(some 123), .pick (.t 117) (.c (.rv (.one (.dat (.val (.bool true)))))) (.t 122), none⟩,
    ⟨(some 124), .mov (.t 123), none⟩,
    ⟨(some 125), .fadr 2 (.t 7), (some (124, false))⟩,
    ⟨(some 126), .load true 2 (.t 125), (some (124, false))⟩,
    ⟨(some 127), .fadr 2 (.t 8), (some (124, false))⟩,
    ⟨(some 128), .load true 2 (.t 127), (some (124, false))⟩,
    ⟨(some 129), .eqa true [.i, .i] (.t 126) (.t 128), (some (124, false))⟩,
    ⟨(some 130), .pick (.t 124) (.c (.rv (.one (.dat (.val (.bool true)))))) (.t 129), none⟩]) (.cond (.t 130) (.seq (.reg [
    ⟨(some 4), .mov (.c (.rv (.one (.dat (.val (.bool false)))))), none⟩]) .ret) .skip))))) (.reg [
    ⟨(some 131), .bin .add (.t 97) (.c (.rv (.one (.dat (.val (.int .i64 (1))))))), none⟩,
    ⟨(some 97), .mov (.t 131), none⟩]))))))) (.seq (.reg [
    ⟨(some 4), .mov (.c (.rv (.one (.dat (.val (.bool true)))))), none⟩]) .ret)))))⟩
/-! SameObject, SameObjects: of what is the same they say yes -/
theorem numsC_byD : ∀ b : List Int, numsC ((byD b).map fun ds => ds.map .dat) = some b
  | [] => rfl
  | x :: r => by
    have := numsC_byD r
    simp only [byD, List.map_cons, List.map_nil] at this ⊢
    simp only [numsC, this]
def entD (e : ByteArray × Int) : List Dt := [.val (.string e.1), .val (.int .i64 e.2)]
def Msg.typ (q : Msg) : Prop := ∃ b : List Int, q.data = byD b
def Obj.typ (o : Obj) : Prop := (∃ b : List Int, o.data = byD b) ∧ (∃ es : List (ByteArray × Int), o.entries = es.map entD) ∧ ∀ q, q ∈ o.queue → q.typ
theorem l19 : lowF Try.prog Try.f19 = some c19 := by kernel_rfl
set_option maxRecDepth 100000 in
set_option maxHeartbeats 8000000 in
theorem sameo_body (o : Obj) (ht : o.typ) (hf : o.fit) : body Try.prog c19 [o.cv, o.cv] [] (fun r m => r = vBool true) := by
  obtain ⟨⟨b, hb⟩, ⟨es, he⟩, hq⟩ := ht
  obtain ⟨_, hf2, hf3, _⟩ := hf
  obtain ⟨kind, data, entries, target, peer, queue, proc, links, up⟩ := o
  simp only at hb he hq hf2 hf3
  subst hb he
  rw [List.length_map] at hf2
  refine bB_no (by simp) ?_
  refine ok_some (numsC_byD b) ?_
  refine ok_some (numsC_byD b) ?_
  refine bB_no (by simp) ?_
  refine bB_no (by simp) ?_
  refine bB_no (by simp) ?_
  refine bB_no (by simp) ?_
  refine bB_no (by simp) ?_
  refine bB_no (by simp) ?_
  refine bB_no (by simp) ?_
  refine bB_no (by simp) ?_
  have vars : ∀ (f : Nat → Nat) (F : List Nat), True := fun _ _ => trivial
  refine loop_keep (fun k => k ≤ es.length) [2, 3, 78] (fun k => [(79, vInt .i64 (k : Nat))]) (fun _ => [.var (Obj.enc ⟨kind, byD b, es.map entD, target, peer, queue, proc, links, up⟩ |>.map .dat), .var (Obj.enc ⟨kind, byD b, es.map entD, target, peer, queue, proc, links, up⟩ |>.map .dat)]) (fun k => es.length - k) 0 (Nat.zero_le _) ?_ (fun k hk => ?_)
  · refine View.of 2 [0, 1] [] rfl rfl rfl rfl rfl rfl ?_ ?_
    · repeat (first | exact .nil | refine .junk ?_ | refine .eq rfl ?_)
    · exact .put (notF rfl) rfl (.eq rfl (by simp)) (.put (notF rfl) rfl (.eq rfl (by simp)) (.nil _))
  have hk : k ≤ es.length := hk
  refine bB_dec (fun h => ?_) (fun h => ?_)
  · have hlt : k < es.length := by
      have h : (k : Int) < ((es.map entD).length : Int) := h
      rw [List.length_map] at h
      omega
    have hg : getZ (es.map entD) (k : Nat) = some [.val (.string es[k].1), .val (.int .i64 es[k].2)] := by
      rw [getZ_nat, List.getElem?_map, List.getElem?_eq_getElem hlt]; rfl
    refine ok_some hg ?_
    refine ok_some hg ?_
    refine bB_no (by simp) ?_
    refine ⟨k + 1, hlt, (show es.length - (k + 1) < es.length - k by omega), View.of 2 [0, 1] [] rfl rfl rfl rfl rfl rfl ?_ ?_⟩
    · repeat (first | exact .nil | refine .junk ?_ | refine .put (.ren (next_i64 (by omega)).symm) ?_ | refine .eq rfl ?_)
    · exact .put (notF rfl) rfl (.eq rfl (by simp)) (.put (notF rfl) rfl (.eq rfl (by simp)) (.nil _))
  · refine loop_keep (fun k => k ≤ queue.length) [2, 3, 96] (fun k => [(97, vInt .i64 (k : Nat))]) (fun _ => [.var (Obj.enc ⟨kind, byD b, es.map entD, target, peer, queue, proc, links, up⟩ |>.map .dat), .var (Obj.enc ⟨kind, byD b, es.map entD, target, peer, queue, proc, links, up⟩ |>.map .dat)]) (fun k => queue.length - k) 0 (Nat.zero_le _) ?_ (fun j hj => ?_)
    · refine View.of 2 [0, 1] [] rfl rfl rfl rfl rfl rfl ?_ ?_
      · repeat (first | exact .nil | refine .junk ?_ | refine .eq rfl ?_)
      · exact .put (notF rfl) rfl (.eq rfl (by simp)) (.put (notF rfl) rfl (.eq rfl (by simp)) (.nil _))
    have hj : j ≤ queue.length := hj
    refine bB_dec (fun h => ?_) (fun h => ?_)
    · have hlt : j < queue.length := by
        have h : (j : Int) < ((queue.map Msg.enc).length : Int) := h
        rw [List.length_map] at h
        omega
      have hg : getZ (queue.map Msg.enc) (j : Nat) = some (queue[j].enc) := by
        rw [getZ_nat, List.getElem?_map, List.getElem?_eq_getElem hlt]; rfl
      obtain ⟨b2, hb2⟩ := hq queue[j] (List.getElem_mem hlt)
      generalize queue[j] = q at hg hb2
      obtain ⟨dq, has, opn, rts⟩ := q
      simp only at hb2
      subst hb2
      have hg : getZ (queue.map Msg.enc) (j : Nat) = some [.sl 1 (byD b2), .val (.bool has), .val (.int .i64 opn), .val (.int .i64 rts)] := hg
      refine ok_some hg ?_
      refine ok_some hg ?_
      refine ⟨?_, ?_⟩
      · refine ⟨⟨rfl, ok_some hg rfl, rfl, rfl, ok_some hg rfl, rfl, trivial⟩, ?_⟩
        refine ⟨⟨rfl, ok_some hg rfl, rfl, rfl, ok_some hg rfl, rfl, trivial⟩, ?_⟩
        refine ⟨⟨rfl, ok_some hg rfl, rfl, trivial⟩, trivial, ?_⟩
        refine ok_some (numsC_byD b2) ?_
        refine ok_some (numsC_byD b2) ?_
        refine bB_no (by simp) ?_
        refine bB_no (by simp) ?_
        refine bB_no (by simp) ?_
        refine ⟨j + 1, hlt, (show queue.length - (j + 1) < queue.length - j by omega), View.of 4 [0, 1] [] rfl rfl rfl rfl rfl rfl ?_ ?_⟩
        · repeat (first | exact .nil | refine .junk ?_ | refine .put (.ren (next_i64 (by omega)).symm) ?_ | refine .eq rfl ?_)
        · exact .put (notF rfl) rfl (.eq rfl (by simp)) (.put (notF rfl) rfl (.eq rfl (by simp)) (.nil _))
      · refine ⟨⟨rfl, ok_some hg rfl, rfl, rfl, ok_some hg rfl, rfl, trivial⟩, ?_⟩
        refine ⟨⟨rfl, ok_some hg rfl, rfl, rfl, ok_some hg rfl, rfl, trivial⟩, ?_⟩
        refine ⟨⟨rfl, ok_some hg rfl, rfl, trivial⟩, trivial, ?_⟩
        refine ok_some (numsC_byD b2) ?_
        refine ok_some (numsC_byD b2) ?_
        refine bB_no (by simp) ?_
        refine bB_no (by simp) ?_
        refine bB_no (by simp) ?_
        refine ⟨j + 1, hlt, (show queue.length - (j + 1) < queue.length - j by omega), View.of 4 [0, 1] [] rfl rfl rfl rfl rfl rfl ?_ ?_⟩
        · repeat (first | exact .nil | refine .junk ?_ | refine .put (.ren (next_i64 (by omega)).symm) ?_ | refine .eq rfl ?_)
        · exact .put (notF rfl) rfl (.eq rfl (by simp)) (.put (notF rfl) rfl (.eq rfl (by simp)) (.nil _))
    · exact rfl
set_option maxRecDepth 100000 in
theorem sameo_ok (o : Obj) (ht : o.typ) (hf : o.fit) {m : Mem} {K : CV → Mem → Prop} (h : K (vBool true) m) : ACall Try.prog 19 [o.cv, o.cv] m K :=
  acall_val Try.func19 l19 rfl (Nat.le_of_ble_eq_true rfl) (sameo_body o ht hf) (by simp [Obj.cv, CV.isD, CC.isD, RV.isD]) rfl h
theorem l9 : lowF Try.prog Try.f9 = some c9 := by kernel_rfl
set_option maxRecDepth 100000 in
set_option maxHeartbeats 8000000 in
theorem sames_body (l : List Obj) (hl : fitL l) (ht : ∀ o, o ∈ l → o.typ) : body Try.prog c9 [objsV l, objsV l] [] (fun r m => r = vBool true) := by
  obtain ⟨hl, hfit⟩ := hl
  refine bB_no (by simp) ?_
  refine loop_keep (fun k => k ≤ l.length) [0, 1, 12] (fun k => [(13, vInt .i64 (k : Nat))]) (fun _ => []) (fun k => l.length - k) 0 (Nat.zero_le _) ?_ (fun k hk => ?_)
  · refine View.of 0 [] [] rfl rfl rfl rfl rfl rfl ?_ (.nil _)
    repeat (first | exact .nil | refine .junk ?_ | refine .eq rfl ?_)
  have hk : k ≤ l.length := hk
  refine bB_dec (fun h => ?_) (fun h => ?_)
  · have hlt : k < l.length := by
      have h : (k : Int) < ((l.map Obj.enc).length : Int) := h
      rw [List.length_map] at h
      omega
    have hg : getZ (l.map Obj.enc) (k : Nat) = some (l[k].enc) := by
      rw [getZ_nat, List.getElem?_map, List.getElem?_eq_getElem hlt]; rfl
    have h1 := ht l[k] (List.getElem_mem hlt)
    have h2 := hfit l[k] (List.getElem_mem hlt)
    generalize l[k] = x at hg h1 h2
    have hg : getZ (l.map Obj.enc) (k : Nat) = some [.val (.int .i64 x.kind), .sl 1 x.data, .sl 2 x.entries, .val (.string x.target), .val (.int .i64 x.peer), .sl 4 (x.queue.map Msg.enc), .val (.int .i64 x.proc), .val (.int .i64 x.links), .val (.int .i64 x.up)] := hg
    refine ok_some hg ?_
    refine ok_some hg ?_
    refine sameo_ok x h1 h2 ?_
    refine ⟨trivial, ?_⟩
    refine ⟨k + 1, hlt, (show l.length - (k + 1) < l.length - k by omega), View.of 0 [] [] rfl rfl rfl rfl rfl rfl ?_ (.nil _)⟩
    repeat (first | exact .nil | refine .junk ?_ | refine .put (.ren (next_i64 (by omega)).symm) ?_ | refine .eq rfl ?_)
  · exact rfl
set_option maxRecDepth 100000 in
theorem sames_ok (l : List Obj) (hl : fitL l) (ht : ∀ o, o ∈ l → o.typ) {m : Mem} {K : CV → Mem → Prop} (h : K (vBool true) m) : ACall Try.prog 9 [objsV l, objsV l] m K :=
  acall_val Try.func9 l9 rfl (Nat.le_of_ble_eq_true rfl) (sames_body l hl ht) rfl rfl h

def c8 : LF := ⟨47, [.tmp 2, .cell true 2 3, .tmp 4], (.seq (.reg [
    ⟨(some 2), .mov (.c (.rv (.one .esl))), none⟩,
    ⟨(some 3), .alloc [(.dat (.val (.int .i64 (0)))), (.dat (.val (.int .i64 (0))))], none⟩,
    ⟨(some 4), .mov (.c (.rv (.one (.dat (.val (.int .i64 (0))))))), none⟩]) (.seq (.reg [
    ⟨(some 12), .mov (.t 0), none⟩,
    ⟨(some 13), .build [(.dat (.val (.int .i64 (0)))), .esl, .esl, (.dat (.val (.string ⟨#[]⟩))), (.dat (.val (.int .i64 (0)))), .esl, (.dat (.val (.int .i64 (0)))), (.dat (.val (.int .i64 (0)))), (.dat (.val (.int .i64 (0))))] [(0, 1, (.c (.rv (.one (.dat (.val (.int .i64 (4)))))))), (4, 1, (.c (.rv (.one (.dat (.val (.int .i64 (-1)))))))), (6, 1, (.c (.rv (.one (.dat (.val (.int .i64 (-1))))))))], none⟩,
    ⟨(some 14), .call (.c (.rv (.one (.fn 21 [])))) [(.t 12), (.t 13)], none⟩,
    ⟨(some 11), .mov (.t 14), none⟩,
    ⟨(some 15), .ext (.t 11) 0, none⟩,
    ⟨(some 16), .ext (.t 11) 1, none⟩,
    ⟨(some 17), .ext (.t 11) 2, none⟩,
    ⟨(some 5), .mov (.t 15), none⟩,
    ⟨(some 6), .mov (.t 16), none⟩,
    ⟨(some 7), .mov (.t 17), none⟩]) (.seq (.seq (.reg [
    ⟨(some 18), .mov (.t 7), none⟩,
    ⟨(some 19), .bin .neq (.t 18) (.c (.rv (.one (.dat (.val (.int .i64 (0))))))), none⟩]) (.cond (.t 19) (.seq (.reg [
    ⟨(some 20), .build [(.dat (.val (.int .i64 (0)))), (.dat (.val (.int .i64 (0))))] [], none⟩,
    ⟨(some 21), .mov (.t 7), none⟩,
    ⟨(some 2), .mov (.c (.rv (.one .esl))), none⟩,
    ⟨none, .store 2 (.t 3) (.t 20), none⟩,
    ⟨(some 4), .mov (.t 21), none⟩]) .ret) .skip)) (.seq (.reg [
    ⟨(some 23), .mov (.t 5), none⟩,
    ⟨(some 24), .mov (.t 6), none⟩,
    ⟨(some 25), .build [(.dat (.val (.int .i64 (0)))), .esl, .esl, (.dat (.val (.string ⟨#[]⟩))), (.dat (.val (.int .i64 (0)))), .esl, (.dat (.val (.int .i64 (0)))), (.dat (.val (.int .i64 (0)))), (.dat (.val (.int .i64 (0))))] [(0, 1, (.c (.rv (.one (.dat (.val (.int .i64 (4)))))))), (4, 1, (.t 24)), (6, 1, (.c (.rv (.one (.dat (.val (.int .i64 (-1))))))))], none⟩,
    ⟨(some 26), .call (.c (.rv (.one (.fn 21 [])))) [(.t 23), (.t 25)], none⟩,
    ⟨(some 22), .mov (.t 26), none⟩,
    ⟨(some 27), .ext (.t 22) 0, none⟩,
    ⟨(some 28), .ext (.t 22) 1, none⟩,
    ⟨(some 29), .ext (.t 22) 2, none⟩,
    ⟨(some 8), .mov (.t 27), none⟩,
    ⟨(some 9), .mov (.t 28), none⟩,
    ⟨(some 7), .mov (.t 29), none⟩]) (.seq (.seq (.reg [
    ⟨(some 30), .mov (.t 7), none⟩,
    ⟨(some 31), .bin .neq (.t 30) (.c (.rv (.one (.dat (.val (.int .i64 (0))))))), none⟩]) (.cond (.t 31) (.seq (.reg [
    ⟨(some 32), .build [(.dat (.val (.int .i64 (0)))), (.dat (.val (.int .i64 (0))))] [], none⟩,
    ⟨(some 33), .mov (.t 7), none⟩,
    ⟨(some 2), .mov (.c (.rv (.one .esl))), none⟩,
    ⟨none, .store 2 (.t 3) (.t 32), none⟩,
    ⟨(some 4), .mov (.t 33), none⟩]) .ret) .skip)) (.seq (.reg [
    ⟨(some 34), .mov (.t 8), none⟩,
    ⟨(some 35), .mov (.t 6), none⟩,
    ⟨(some 36), .idx 9 (.t 34) (.t 35), none⟩,
    ⟨(some 37), .load true 9 (.t 36), none⟩,
    ⟨(some 10), .alloc [(.dat (.val (.int .i64 (0)))), .esl, .esl, (.dat (.val (.string ⟨#[]⟩))), (.dat (.val (.int .i64 (0)))), .esl, (.dat (.val (.int .i64 (0)))), (.dat (.val (.int .i64 (0)))), (.dat (.val (.int .i64 (0))))], none⟩,
    ⟨none, .store 9 (.t 10) (.t 37), none⟩]) (.seq (.reg [
    ⟨(some 38), .mov (.t 9), none⟩,
    ⟨(some 39), .fadr 4 (.t 10), none⟩,
    ⟨none, .store 1 (.t 39) (.t 38), none⟩]) (.seq (.reg [
    ⟨(some 40), .mov (.t 8), none⟩,
    ⟨(some 41), .mov (.t 6), none⟩,
    ⟨(some 42), .load true 9 (.t 10), none⟩,
    ⟨(some 43), .call (.c (.rv (.one (.fn 23 [])))) [(.t 40), (.t 41), (.t 42)], none⟩,
    ⟨(some 44), .mov (.t 6), none⟩,
    ⟨(some 45), .mov (.t 9), none⟩,
    ⟨(some 46), .build [(.dat (.val (.int .i64 (0)))), (.dat (.val (.int .i64 (0))))] [(0, 1, (.t 44)), (1, 1, (.t 45))], none⟩,
    ⟨(some 2), .mov (.t 43), none⟩,
    ⟨none, .store 2 (.t 3) (.t 46), none⟩,
    ⟨(some 4), .mov (.c (.rv (.one (.dat (.val (.int .i64 (0))))))), none⟩]) .ret))))))))⟩
def c11 : LF := ⟨50, [.tmp 6, .tmp 7], (.seq (.reg [
    ⟨(some 5), .box (.t 2), none⟩,
    ⟨(some 6), .mov (.c (.rv (.one .esl))), none⟩,
    ⟨(some 7), .mov (.c (.rv (.one (.dat (.val (.int .i64 (0))))))), none⟩]) (.seq (.seq (.reg [
    ⟨(some 10), .mov (.t 0), none⟩,
    ⟨(some 11), .mov (.t 1), none⟩,
    ⟨(some 12), .call (.c (.rv (.one (.fn 28 [])))) [(.t 10), (.t 11), (.c (.rv (.one (.dat (.val (.int .i64 (4)))))))], none⟩,
    ⟨(some 13), .un .not (.t 12), none⟩]) (.cond (.t 13) (.seq (.reg [
    ⟨(some 6), .mov (.c (.rv (.one .esl))), none⟩,
    ⟨(some 7), .mov (.c (.rv (.one (.dat (.val (.int .i64 (8))))))), none⟩]) .ret) .skip)) (.seq (.reg [
    ⟨(some 14), .mov (.t 0), none⟩,
    ⟨(some 15), .mov (.t 1), none⟩,
    ⟨(some 16), .idx 9 (.t 14) (.t 15), none⟩,
    ⟨(some 17), .fadr 4 (.t 16), none⟩,
    ⟨(some 18), .load false 1 (.t 17), none⟩,
    ⟨(some 8), .mov (.t 18), none⟩]) (.seq (.seq (.reg [
    ⟨(some 19), .mov (.t 0), none⟩,
    ⟨(some 20), .mov (.t 8), none⟩,
    ⟨(some 21), .call (.c (.rv (.one (.fn 28 [])))) [(.t 19), (.t 20), (.c (.rv (.one (.dat (.val (.int .i64 (4)))))))], none⟩,
    ⟨(some 22), .un .not (.t 21), none⟩]) (.cond (.t 22) (.seq (.reg [
    ⟨(some 6), .mov (.c (.rv (.one .esl))), none⟩,
    ⟨(some 7), .mov (.c (.rv (.one (.dat (.val (.int .i64 (17))))))), none⟩]) .ret) .skip)) (.seq (.seq (.reg [
    ⟨(some 23), .fadr 0 (.t 5), none⟩,
    ⟨(some 24), .load false 1 (.t 23), none⟩,
    ⟨(some 25), .len 1 (.t 24), none⟩,
    ⟨(some 26), .bin .gtr (.t 25) (.c (.rv (.one (.dat (.val (.int .i64 (60))))))), none⟩]) (.cond (.t 26) (.seq (.reg [
    ⟨(some 6), .mov (.c (.rv (.one .esl))), none⟩,
    ⟨(some 7), .mov (.c (.rv (.one (.dat (.val (.int .i64 (4))))))), none⟩]) .ret) .skip)) (.seq (.seq (.reg [
    ⟨(some 27), .mov (.t 0), none⟩,
    ⟨(some 28), .mov (.t 8), none⟩,
    ⟨(some 29), .idx 9 (.t 27) (.t 28), none⟩,
    ⟨(some 30), .fadr 5 (.t 29), none⟩,
    ⟨(some 31), .load false 1 (.t 30), none⟩,
    ⟨(some 32), .len 1 (.t 31), none⟩,
    ⟨(some 33), .bin .geq (.t 32) (.c (.rv (.one (.dat (.val (.int .i64 (4))))))), none⟩]) (.cond (.t 33) (.seq (.reg [
    ⟨(some 6), .mov (.c (.rv (.one .esl))), none⟩,
    ⟨(some 7), .mov (.c (.rv (.one (.dat (.val (.int .i64 (15))))))), none⟩]) .ret) .skip)) (.seq (.reg [
    ⟨(some 34), .mov (.t 0), none⟩,
    ⟨(some 35), .mov (.t 8), none⟩,
    ⟨(some 36), .idx 9 (.t 34) (.t 35), none⟩,
    ⟨(some 37), .load true 9 (.t 36), none⟩,
    ⟨(some 9), .alloc [(.dat (.val (.int .i64 (0)))), .esl, .esl, (.dat (.val (.string ⟨#[]⟩))), (.dat (.val (.int .i64 (0)))), .esl, (.dat (.val (.int .i64 (0)))), (.dat (.val (.int .i64 (0)))), (.dat (.val (.int .i64 (0))))], none⟩,
    ⟨none, .store 9 (.t 9) (.t 37), none⟩]) (.seq (.draw [
    ⟨(some 38), .bsl 4 [.esl, (.dat (.val (.bool false))), (.dat (.val (.int .i64 (0)))), (.dat (.val (.int .i64 (0))))] 0 [], none⟩,
    ⟨(some 39), .fadr 5 (.t 9), none⟩,
    ⟨(some 40), .load false 1 (.t 39), none⟩,
    ⟨(some 41), .app 4 48 (.t 38) (.t 40), none⟩,
    ⟨(some 42), .load true 4 (.t 5), none⟩,
    ⟨(some 43), .bsl 4 [.esl, (.dat (.val (.bool false))), (.dat (.val (.int .i64 (0)))), (.dat (.val (.int .i64 (0))))] 1 [(0, (.t 42))], none⟩,
    ⟨(some 44), .app 4 48 (.t 41) (.t 43), none⟩,
    ⟨(some 45), .fadr 5 (.t 9), none⟩,
    ⟨none, .store 1 (.t 45) (.t 44), none⟩]
    [(.cons 1 none (.cons 2 none (.cons 4 none (.alt (.cons 0 (some [4, 2]) (.alt (.cons 3 (some [4]) (.cons 5 (some [2]) (.cons 6 (some []) (.cons 7 none (.cons 8 (some []) .nil))))) (.cons 5 (some [2]) (.cons 3 (some [4]) (.cons 6 (some []) (.cons 7 none (.cons 8 (some []) .nil))))))) (.cons 5 (some [2]) (.cons 0 (some [4, 2]) (.cons 3 (some [4]) (.cons 6 (some []) (.cons 7 none (.cons 8 (some []) .nil))))))))))]) (.seq (.reg [
    ⟨(some 46), .mov (.t 0), none⟩,
    ⟨(some 47), .mov (.t 8), none⟩,
    ⟨(some 48), .load true 9 (.t 9), none⟩,
    ⟨(some 49), .call (.c (.rv (.one (.fn 23 [])))) [(.t 46), (.t 47), (.t 48)], none⟩,
    ⟨(some 6), .mov (.t 49), none⟩,
    ⟨(some 7), .mov (.c (.rv (.one (.dat (.val (.int .i64 (0))))))), none⟩]) .ret)))))))))⟩
def c13 : LF := ⟨44, [.tmp 4, .cell true 4 5, .tmp 6], (.seq (.reg [
    ⟨(some 4), .mov (.c (.rv (.one .esl))), none⟩,
    ⟨(some 5), .alloc [.esl, (.dat (.val (.bool false))), (.dat (.val (.int .i64 (0)))), (.dat (.val (.int .i64 (0))))], none⟩,
    ⟨(some 6), .mov (.c (.rv (.one (.dat (.val (.int .i64 (0))))))), none⟩]) (.seq (.seq (.reg [
    ⟨(some 9), .mov (.t 0), none⟩,
    ⟨(some 10), .mov (.t 1), none⟩,
    ⟨(some 11), .call (.c (.rv (.one (.fn 28 [])))) [(.t 9), (.t 10), (.c (.rv (.one (.dat (.val (.int .i64 (4)))))))], none⟩,
    ⟨(some 12), .un .not (.t 11), none⟩]) (.cond (.t 12) (.seq (.reg [
    ⟨(some 13), .build [.esl, (.dat (.val (.bool false))), (.dat (.val (.int .i64 (0)))), (.dat (.val (.int .i64 (0))))] [], none⟩,
    ⟨(some 4), .mov (.c (.rv (.one .esl))), none⟩,
    ⟨none, .store 4 (.t 5) (.t 13), none⟩,
    ⟨(some 6), .mov (.c (.rv (.one (.dat (.val (.int .i64 (8))))))), none⟩]) .ret) .skip)) (.seq (.reg [
    ⟨(some 14), .mov (.t 0), none⟩,
    ⟨(some 15), .mov (.t 1), none⟩,
    ⟨(some 16), .idx 9 (.t 14) (.t 15), none⟩,
    ⟨(some 17), .load true 9 (.t 16), none⟩,
    ⟨(some 7), .alloc [(.dat (.val (.int .i64 (0)))), .esl, .esl, (.dat (.val (.string ⟨#[]⟩))), (.dat (.val (.int .i64 (0)))), .esl, (.dat (.val (.int .i64 (0)))), (.dat (.val (.int .i64 (0)))), (.dat (.val (.int .i64 (0))))], none⟩,
    ⟨none, .store 9 (.t 7) (.t 17), none⟩]) (.seq (.seq (.reg [
    ⟨(some 18), .fadr 5 (.t 7), none⟩,
    ⟨(some 19), .load false 1 (.t 18), none⟩,
    ⟨(some 20), .len 1 (.t 19), none⟩,
    ⟨(some 21), .bin .gtr (.t 20) (.c (.rv (.one (.dat (.val (.int .i64 (0))))))), none⟩]) (.cond (.t 21) (.seq (.reg [
    ⟨(some 22), .fadr 5 (.t 7), none⟩,
    ⟨(some 23), .load false 1 (.t 22), none⟩,
    ⟨(some 24), .idx 4 (.t 23) (.c (.rv (.one (.dat (.val (.int .i64 (0))))))), none⟩,
    ⟨(some 25), .load true 4 (.t 24), none⟩,
    ⟨(some 8), .alloc [.esl, (.dat (.val (.bool false))), (.dat (.val (.int .i64 (0)))), (.dat (.val (.int .i64 (0))))], none⟩,
    ⟨none, .store 4 (.t 8) (.t 25), none⟩]) (.seq (.reg [
    ⟨(some 26), .bsl 4 [.esl, (.dat (.val (.bool false))), (.dat (.val (.int .i64 (0)))), (.dat (.val (.int .i64 (0))))] 0 [], none⟩,
    ⟨(some 27), .fadr 5 (.t 7), none⟩,
    ⟨(some 28), .load false 1 (.t 27), none⟩,
    ⟨(some 29), .slc 4 (.t 28) (some (.c (.rv (.one (.dat (.val (.int .i64 (1)))))))) none none, none⟩,
    ⟨(some 30), .app 4 48 (.t 26) (.t 29), none⟩,
    ⟨(some 31), .fadr 5 (.t 7), none⟩,
    ⟨none, .store 1 (.t 31) (.t 30), none⟩]) (.seq (.draw [
    ⟨(some 32), .mov (.t 0), none⟩,
    ⟨(some 33), .mov (.t 1), none⟩,
    ⟨(some 34), .load true 9 (.t 7), none⟩,
    ⟨(some 35), .call (.c (.rv (.one (.fn 23 [])))) [(.t 32), (.t 33), (.t 34)], none⟩,
    ⟨(some 36), .load true 4 (.t 8), none⟩,
    ⟨(some 4), .mov (.t 35), none⟩,
    ⟨none, .store 4 (.t 5) (.t 36), none⟩,
    ⟨(some 6), .mov (.c (.rv (.one (.dat (.val (.int .i64 (0))))))), none⟩]
    [(.cons 0 none (.cons 1 none (.cons 2 none (.cons 4 none (.cons 3 (some [4]) (.cons 5 none (.cons 6 (some []) (.cons 7 none .nil))))))))]) .ret))) .skip)) (.seq (.seq (.reg [
    ⟨(some 37), .mov (.t 0), none⟩,
    ⟨(some 38), .fadr 4 (.t 7), none⟩,
    ⟨(some 39), .load false 1 (.t 38), none⟩,
    ⟨(some 40), .call (.c (.rv (.one (.fn 28 [])))) [(.t 37), (.t 39), (.c (.rv (.one (.dat (.val (.int .i64 (4)))))))], none⟩,
    ⟨(some 41), .un .not (.t 40), none⟩]) (.cond (.t 41) (.seq (.reg [
    ⟨(some 42), .build [.esl, (.dat (.val (.bool false))), (.dat (.val (.int .i64 (0)))), (.dat (.val (.int .i64 (0))))] [], none⟩,
    ⟨(some 4), .mov (.c (.rv (.one .esl))), none⟩,
    ⟨none, .store 4 (.t 5) (.t 42), none⟩,
    ⟨(some 6), .mov (.c (.rv (.one (.dat (.val (.int .i64 (17))))))), none⟩]) .ret) .skip)) (.seq (.reg [
    ⟨(some 43), .build [.esl, (.dat (.val (.bool false))), (.dat (.val (.int .i64 (0)))), (.dat (.val (.int .i64 (0))))] [], none⟩,
    ⟨(some 4), .mov (.c (.rv (.one .esl))), none⟩,
    ⟨none, .store 4 (.t 5) (.t 43), none⟩,
    ⟨(some 6), .mov (.c (.rv (.one (.dat (.val (.int .i64 (16))))))), none⟩]) .ret))))))⟩
/-! Pair, Send, Recv of the document -/
theorem rMake_eq (l : List Obj) (hl : l.length ≤ 40) (o : Obj) : rMakeS l o = makeS l o := by
  unfold rMakeS makeS freeK
  cases h : l.findIdx? (fun x => x.kind == 0) with
  | some k =>
    have hk := (List.findIdx?_eq_some_iff_getElem.1 h).1
    simp only [Option.getD_some]
    rw [if_neg (by omega), withS, if_neg (by omega)]
    simp
  | none =>
    simp only [Option.getD_none]
    by_cases h40 : l.length ≥ 40
    · rw [if_pos h40, if_pos h40]
    · rw [if_neg h40, if_neg h40, withS, if_pos rfl]
theorem make_len {l : List Obj} (hl : l.length ≤ 40) (o : Obj) : (makeS l o).1.length ≤ 40 := by
  unfold makeS
  cases l.findIdx? (fun x => x.kind == 0) with
  | some k => simpa using hl
  | none =>
    by_cases h40 : l.length ≥ 40
    · rw [if_pos h40]; simp
    · rw [if_neg h40]; simp; omega
theorem rm_ok (l : List Obj) (hl : l.length ≤ 40) (o : Obj) {m : Mem} {K : CV → Mem → Prop} (h : K (.tup [objsR (makeS l o).1, iRV (makeS l o).2.1, iRV (makeS l o).2.2]) m) : ACall Try.prog 21 [objsV l, o.cv] m K :=
  rmake_ok l (by omega) o (by rw [rMake_eq l hl]; exact h)
theorem obj_get {l : List Obj} {k : Nat} (h : k < l.length) : getZ (l.map Obj.enc) (k : Nat) = some [.val (.int .i64 l[k].kind), .sl 1 l[k].data, .sl 2 l[k].entries, .val (.string l[k].target), .val (.int .i64 l[k].peer), .sl 4 (l[k].queue.map Msg.enc), .val (.int .i64 l[k].proc), .val (.int .i64 l[k].links), .val (.int .i64 l[k].up)] := by
  rw [getZ_nat, List.getElem?_map, List.getElem?_eq_getElem h]; rfl
theorem l8 : lowF Try.prog Try.f8 = some c8 := by kernel_rfl
set_option maxRecDepth 100000 in
set_option maxHeartbeats 8000000 in
theorem rpair_body (l : List Obj) (hf : fitL l) (hl40 : l.length ≤ 40) : body Try.prog c8 [objsV l] [] (fun r m => FrzV m r (.tup [objsR (pairS l).1, twoR (pairS l).2.1, iRV (pairS l).2.2])) := by
  refine acall_le (endArgs _ (.junk) _) (rm_ok l hl40 (endO (-1)) ?_)
  have hp : pairS l = if (makeS l (endO (-1))).2.2 ≠ 0 then ([], (0, 0), (makeS l (endO (-1))).2.2)
      else if (makeS (makeS l (endO (-1))).1 (endO (makeS l (endO (-1))).2.1)).2.2 ≠ 0 then ([], (0, 0), (makeS (makeS l (endO (-1))).1 (endO (makeS l (endO (-1))).2.1)).2.2)
      else (setPeer (makeS (makeS l (endO (-1))).1 (endO (makeS l (endO (-1))).2.1)).1 (makeS l (endO (-1))).2.1.toNat (makeS (makeS l (endO (-1))).1 (endO (makeS l (endO (-1))).2.1)).2.1, ((makeS l (endO (-1))).2.1, (makeS (makeS l (endO (-1))).1 (endO (makeS l (endO (-1))).2.1)).2.1), 0) := rfl
  have hlen1 := make_len hl40 (endO (-1))
  generalize hx : makeS l (endO (-1)) = x at hp hlen1
  obtain ⟨l1, a, e1⟩ := x
  have hlen1 : l1.length ≤ 40 := hlen1
  refine bB_bne (fun h => ?_) (fun h => ?_)
  · have h : e1 ≠ 0 := h
    rw [hp]
    simp only
    rw [if_pos h]
    exact frz3 (.one (.esl 9)) (FrzR.self rfl)
  · have h : e1 = 0 := h
    subst h
    have hat := make_at (l := l) (o := endO (-1)) (by rw [hx])
    rw [hx] at hat
    obtain ⟨ka, hka, hka2, hka3, hka4, _⟩ := hat
    have hka : a = (ka : Int) := hka
    have hka2 : ka < l1.length := hka2
    subst hka
    simp only [ne_eq, not_true, if_false, Int.toNat_natCast] at hp
    refine acall_le (endArgs _ (.junk) _) (rm_ok l1 hlen1 (endO ka) ?_)
    have hlen2 := make_len hlen1 (endO ka)
    have hat : (makeS l1 (endO ka)).2.2 = 0 → _ := make_at (l := l1) (o := endO ka)
    generalize hy : makeS l1 (endO ka) = y at hp hlen2 hat
    obtain ⟨l2, b, e2⟩ := y
    have hlen2 : l2.length ≤ 40 := hlen2
    refine bB_bne (fun h => ?_) (fun h => ?_)
    · have h : e2 ≠ 0 := h
      rw [if_pos h] at hp
      rw [hp]
      exact frz3 (.one (.esl 9)) (FrzR.self rfl)
    · have h : e2 = 0 := h
      subst h
      obtain ⟨kb, hkb, hkb2, hkb3, hkb4, _⟩ := hat rfl
      have hkb4 : l1.length ≤ l2.length := hkb4
      have hlt : ka < l2.length := by omega
      simp only [not_true, if_false] at hp
      refine ok_some (obj_get hlt) ?_
      refine with_ok l2 (by omega) ka (by omega) { l2[ka] with peer := b } ?_
      have hset : setPeer l2 ka b = withS l2 ka { l2[ka] with peer := b } := by
        rw [withS, if_neg (by omega)]
        simp [setPeer, List.getElem?_eq_getElem hlt]
      rw [hp, hset]
      exact frz3 (FrzR.self rfl) (FrzR.self rfl)
set_option maxRecDepth 100000 in
theorem rpair_ok (l : List Obj) (hf : fitL l) (hl : l.length ≤ 40) {m : Mem} {K : CV → Mem → Prop} (h : K (.tup [objsR (pairS l).1, twoR (pairS l).2.1, iRV (pairS l).2.2]) m) : ACall Try.prog 8 [objsV l] m K :=
  acall_frame (acall_body Try.func8 l8 rfl (Nat.le_of_ble_eq_true rfl) (rpair_body l hf hl)) (by simp [objsV, CV.isD, CC.isD]) fun r m1 hfz => ⟨_, hfz, h⟩
/-! Send -/
theorem is4_yes {l : List Obj} {k c : Int} (hc : c ≠ 0) (h : isS l k c = true) : ∃ n : Nat, k = n ∧ ∃ hn : n < l.length, l[n].kind = c := by
  unfold isS at h
  by_cases h0 : k ≥ 0
  · obtain ⟨n, rfl⟩ : ∃ n : Nat, k = n := ⟨k.toNat, by omega⟩
    by_cases hn : n < l.length
    · refine ⟨n, rfl, hn, ?_⟩
      simp [hn, hc] at h
      exact h.2
    · simp [hn] at h
  · simp [h0] at h
theorem is4_no {l : List Obj} {k c : Int} (hc : c ≠ 0) (h : isS l k c = false) {n : Nat} (hk : k = n) (hn : n < l.length) : l[n].kind ≠ c := by
  subst hk
  intro hkc
  rw [isS] at h
  simp [hn, hkc, hc] at h
theorem sendS_1 {l : List Obj} {e : Int} (h : isS l e 4 = false) (q : Msg) : sendS l e q = ([], 8) := by
  unfold sendS
  by_cases c : e < 0 ∨ e ≥ l.length
  · rw [if_pos c]
  · obtain ⟨n, rfl⟩ : ∃ n : Nat, e = n := ⟨e.toNat, by omega⟩
    have hn : n < l.length := by omega
    rw [if_neg c]
    simp only [Int.toNat_natCast, List.getElem?_eq_getElem hn]
    rw [if_pos (is4_no (by decide) h rfl hn)]
theorem sendS_2 {l : List Obj} {n : Nat} (hn : n < l.length) (hk : l[n].kind = 4) (h : isS l l[n].peer 4 = false) (q : Msg) : sendS l n q = ([], 17) := by
  unfold sendS
  rw [if_neg (by omega)]
  simp only [Int.toNat_natCast, List.getElem?_eq_getElem hn]
  rw [if_neg (by rw [hk]; simp)]
  by_cases c : l[n].peer < 0 ∨ l[n].peer ≥ l.length
  · rw [if_pos c]
  · rw [if_neg c]
    obtain ⟨p, hp⟩ : ∃ p : Nat, l[n].peer = p := ⟨l[n].peer.toNat, by omega⟩
    have hpn : p < l.length := by omega
    simp only [hp, Int.toNat_natCast, List.getElem?_eq_getElem hpn]
    rw [if_pos (is4_no (by decide) h hp hpn)]
theorem sendS_3 {l : List Obj} {n p : Nat} (hn : n < l.length) (hk : l[n].kind = 4) (hp : l[n].peer = p) (hpn : p < l.length) (hpk : l[p].kind = 4) (q : Msg) :
    sendS l n q = if q.data.length > 60 then ([], 4) else if l[p].queue.length ≥ 4 then ([], 15) else (l.set p { l[p] with queue := l[p].queue ++ [q] }, 0) := by
  unfold sendS
  rw [if_neg (by omega)]
  simp only [Int.toNat_natCast, List.getElem?_eq_getElem hn]
  rw [if_neg (by rw [hk]; simp), hp, if_neg (by omega)]
  simp only [Int.toNat_natCast, List.getElem?_eq_getElem hpn]
  rw [if_neg (by rw [hpk]; simp)]
inductive CcsVw (σ : Nat → Nat) (m : Mem) (Z : Nat → Prop) : List CC → List CC → Prop
  | nil : CcsVw σ m Z [] []
  | cons {c c' : CC} {r r' : List CC} (h : VwC σ m Z none c c') (hr : CcsVw σ m Z r r') : CcsVw σ m Z (c :: r) (c' :: r')
theorem CcsVw.len {σ : Nat → Nat} {m : Mem} {Z : Nat → Prop} {cs cs' : List CC} (h : CcsVw σ m Z cs cs') : cs.length = cs'.length := by
  induction h <;> simp [*]
theorem CcsVw.get {σ : Nat → Nat} {m : Mem} {Z : Nat → Prop} {cs cs' : List CC} (h : CcsVw σ m Z cs cs') : ∀ (i : Nat) c c', cs[i]? = some c → cs'[i]? = some c' → VwC σ m Z none c c' := by
  induction h with
  | nil => intro i c c' h; simp at h
  | cons h hr ih =>
    intro i c c' h1 h2
    cases i with
    | zero => simp at h1 h2; subst h1 h2; exact h
    | succ i => exact ih i c c' (by simpa using h1) (by simpa using h2)
theorem CcsVw.agg {σ : Nat → Nat} {m : Mem} {Z : Nat → Prop} {cs cs' : List CC} (h : CcsVw σ m Z cs cs') : VwV σ m Z (.rv (.agg cs)) (.rv (.agg cs')) := .rv (.agg h.len h.get)
theorem msgRows (q : List Msg) (x : Msg) : dRows (q.map Msg.enc) ++ [x.enc.map .dat] = dRows ((q ++ [x]).map Msg.enc) := by
  rw [List.map_append, dRows_append]; rfl
theorem l11 : lowF Try.prog Try.f11 = some c11 := by kernel_rfl
set_option maxRecDepth 100000 in
set_option maxHeartbeats 8000000 in
theorem rsend_body (l : List Obj) (hf : fitL l) (e : Int) (msg : Msg) : body Try.prog c11 [objsV l, vInt .i64 e, msg.cv] [] (fun r m => FrzV m r (twoV (sendS l e msg).1 (sendS l e msg).2)) := by
  refine is_ok l e 4 ?_
  by_cases hI : isS l e 4 = true
  · rw [hI]
    obtain ⟨n, rfl, hn, hk⟩ := is4_yes (by decide) hI
    refine ok_some (obj_get hn) ?_
    refine is_ok l l[n].peer 4 ?_
    by_cases hI2 : isS l l[n].peer 4 = true
    · rw [hI2]
      obtain ⟨p, hp, hpn, hpk⟩ := is4_yes (by decide) hI2
      have hs := sendS_3 hn hk hp hpn hpk msg
      rw [hs]
      rw [hp]
      refine bB_dec (fun h => ?_) (fun h60 => ?_)
      · have h : msg.data.length > 60 := by
          have h : (msg.data.length : Int) > 60 := h
          omega
        rw [if_pos h]
        exact frz2 (.one (.esl 9))
      · have h60 : ¬ msg.data.length > 60 := by
          have h : ¬ (msg.data.length : Int) > 60 := h60
          omega
        rw [if_neg h60]
        refine ok_some (obj_get hpn) ?_
        refine bB_dec (fun h => ?_) (fun h4 => ?_)
        · have h : l[p].queue.length ≥ 4 := by
            have h : ((l[p].queue.map Msg.enc).length : Int) ≥ 4 := h
            rw [List.length_map] at h
            omega
          rw [if_pos h]
          exact frz2 (.one (.esl 9))
        · have h4 : ¬ l[p].queue.length ≥ 4 := by
            have h : ¬ ((l[p].queue.map Msg.enc).length : Int) ≥ 4 := h4
            rw [List.length_map] at h
            omega
          rw [if_neg h4]
          refine ok_some (obj_get hpn) ?_
          have b1 : (0 + (dRows (l[p].queue.map Msg.enc)).length) * 48 ≤ 140737488355328 := by
            have : (dRows (l[p].queue.map Msg.enc)).length = l[p].queue.length := by simp [dRows]
            omega
          have b2 : ((([] : List (List CC)) ++ dRows (l[p].queue.map Msg.enc)).length + 1) * 48 ≤ 140737488355328 := by
            have : (dRows (l[p].queue.map Msg.enc)).length = l[p].queue.length := by simp [dRows]
            simp [this]; omega
          have hw : withS l p { l[p] with queue := l[p].queue ++ [msg] } = l.set p { l[p] with queue := l[p].queue ++ [msg] } := by
            rw [withS, if_neg (by omega)]; simp
          have obx : ∀ (σ : Nat → Nat) (m : Mem) (Z : Nat → Prop) (id : Nat), Z id → m[id]? = some (.row 4 (dRows ((l[p].queue ++ [msg]).map Msg.enc))) →
              VwV σ m Z (.rv (.agg [.dat (.val (.int .i64 l[p].kind)), .dat (.sl 1 l[p].data), .dat (.sl 2 l[p].entries), .dat (.val (.string l[p].target)), .dat (.val (.int .i64 l[p].peer)), .row id 4 0 none, .dat (.val (.int .i64 l[p].proc)), .dat (.val (.int .i64 l[p].links)), .dat (.val (.int .i64 l[p].up))]))
                ({ l[p] with queue := l[p].queue ++ [msg] } : Obj).cv := fun σ m Z id hz hm =>
            CcsVw.agg (.cons (.ren (.dat _)) (.cons (.ren (.dat _)) (.cons (.ren (.dat _)) (.cons (.ren (.dat _)) (.cons (.ren (.dat _)) (.cons (.frz (FrzD.rowD hz hm 0 none)) (.cons (.ren (.dat _)) (.cons (.ren (.dat _)) (.cons (.ren (.dat _)) .nil)))))))))
          have fin : ∀ (b0 b1 b2 b3 b4 : Bk) {K : CV → Mem → Prop}, K (objsV (l.set p { l[p] with queue := l[p].queue ++ [msg] })) [.dead, .dead, .dead, .dead, .dead, .dead] → ACall Try.prog 23 [objsV l, vInt .i64 (p : Nat),
              .rv (.agg [.dat (.val (.int .i64 l[p].kind)), .dat (.sl 1 l[p].data), .dat (.sl 2 l[p].entries), .dat (.val (.string l[p].target)), .dat (.val (.int .i64 l[p].peer)), .row 5 4 0 none, .dat (.val (.int .i64 l[p].proc)), .dat (.val (.int .i64 l[p].links)), .dat (.val (.int .i64 l[p].up))])]
              [b0, b1, b2, b3, b4, .row 4 (dRows (l[p].queue.map Msg.enc) ++ [msg.enc.map .dat])] K := fun b0 b1 b2 b3 b4 K hK => by
            rw [msgRows]
            refine acall_pre (args' := [objsV l, vInt .i64 (p : Nat), ({ l[p] with queue := l[p].queue ++ [msg] } : Obj).cv]) (m' := [.dead, .dead, .dead, .dead, .dead, .dead]) (View.of 6 [0, 1, 2, 3, 4, 5] [5] rfl rfl rfl rfl rfl rfl (.eq rfl (.eq rfl (.put (obx _ _ _ 5 rfl rfl) .nil))) (.dead (.dead (.dead (.dead (.dead (.dead (.nil _)))))))) ?_
            refine with_ok l hf.1 p (by omega) _ ?_
            rw [hw]
            exact hK
          refine ⟨⟨⟨rfl, rfl, trivial⟩, ⟨b1, ⟨rfl, trivial⟩, ⟨rfl, trivial⟩, b2, trivial, trivial, ?_⟩, ⟨⟨rfl, trivial⟩, b1, ⟨rfl, trivial⟩, b2, trivial, trivial, ?_⟩⟩, ⟨rfl, trivial⟩, ⟨rfl, rfl, trivial⟩, b1, ⟨rfl, trivial⟩, b2, trivial, trivial, ?_⟩
          · refine fin _ _ _ _ _ ?_
            exact frz2 (FrzR.self rfl)
          · refine fin _ _ _ _ _ ?_
            exact frz2 (FrzR.self rfl)
          · refine fin _ _ _ _ _ ?_
            exact frz2 (FrzR.self rfl)
    · rw [Bool.not_eq_true] at hI2
      rw [hI2, sendS_2 hn hk hI2]
      exact frz2 (.one (.esl 9))
  · rw [Bool.not_eq_true] at hI
    rw [hI, sendS_1 hI]
    exact frz2 (.one (.esl 9))
set_option maxRecDepth 100000 in
theorem rsend_ok (l : List Obj) (hf : fitL l) (e : Int) (msg : Msg) {m : Mem} {K : CV → Mem → Prop} (h : K (twoV (sendS l e msg).1 (sendS l e msg).2) m) : ACall Try.prog 11 [objsV l, vInt .i64 e, msg.cv] m K :=
  acall_frame (acall_body Try.func11 l11 rfl (Nat.le_of_ble_eq_true rfl) (rsend_body l hf e msg)) (by simp [objsV, vInt, Msg.cv, Msg.enc, CV.isD, CC.isD, RV.isD]) fun r m1 hfz => ⟨_, hfz, h⟩
/-! Recv -/
theorem recvS_1 {l : List Obj} {e : Int} (h : isS l e 4 = false) : recvS l e = ([], msgZ, 8) := by
  unfold recvS
  by_cases c : e < 0 ∨ e ≥ l.length
  · rw [if_pos c]
  · obtain ⟨n, rfl⟩ : ∃ n : Nat, e = n := ⟨e.toNat, by omega⟩
    have hn : n < l.length := by omega
    rw [if_neg c]
    simp only [Int.toNat_natCast, List.getElem?_eq_getElem hn]
    rw [if_pos (is4_no (by decide) h rfl hn)]
theorem recvS_n {l : List Obj} {n : Nat} (hn : n < l.length) (hk : l[n].kind = 4) : recvS l n = match l[n].queue with
    | [] => if isS l l[n].peer 4 = true then ([], msgZ, 16) else ([], msgZ, 17)
    | x :: r => (l.set n { l[n] with queue := r }, x, 0) := by
  unfold recvS
  rw [if_neg (by omega)]
  simp only [Int.toNat_natCast, List.getElem?_eq_getElem hn]
  rw [if_neg (by rw [hk]; simp)]
  cases l[n].queue with
  | cons x r => rfl
  | nil =>
    simp only
    by_cases c : l[n].peer < 0 ∨ l[n].peer ≥ l.length
    · rw [if_pos c]
      rw [if_neg]
      intro h
      obtain ⟨p, hp, hpn, _⟩ := is4_yes (by decide) h
      omega
    · rw [if_neg c]
      obtain ⟨p, hp⟩ : ∃ p : Nat, l[n].peer = p := ⟨l[n].peer.toNat, by omega⟩
      have hpn : p < l.length := by omega
      simp only [hp, Int.toNat_natCast, List.getElem?_eq_getElem hpn]
      by_cases h : isS l (p : Int) 4 = true
      · obtain ⟨p2, hp2, hpn2, hpk⟩ := is4_yes (by decide) h
        have : p = p2 := by omega
        subst this
        rw [if_pos h, if_neg (by rw [hpk]; simp)]
      · rw [Bool.not_eq_true] at h
        rw [h, if_pos (is4_no (by decide) h rfl hpn)]
        simp
theorem l13 : lowF Try.prog Try.f13 = some c13 := by kernel_rfl
set_option maxRecDepth 100000 in
set_option maxHeartbeats 8000000 in
theorem rrecv_body (l : List Obj) (hf : fitL l) (e : Int) : body Try.prog c13 [objsV l, vInt .i64 e] [] (fun r m => ∃ r' m', View 0 ⟨[r], m⟩ ⟨[r'], m'⟩ ∧ r' = threeV (recvS l e) ∧ m' = []) := by
  have bad1 : ∀ (x : Int), recvS l e = ([], msgZ, x) → ∃ r' m', View 0 ⟨[CV.tup [.one .esl, .agg zeroM, iRV x]], [.var zeroM]⟩ ⟨[r'], m'⟩ ∧ r' = threeV (recvS l e) ∧ m' = [] := by
    intro x hx
    refine ⟨_, _, View.of 1 [] [] rfl rfl rfl rfl rfl rfl (.put (vw3 (b := objsR []) (.one (.frz (.esl 9))) vwZ) .nil) (.nil _), ?_, rfl⟩
    rw [hx]
    rfl
  have bad2 : ∀ (x : Int) (b : Bk), recvS l e = ([], msgZ, x) → ∃ r' m', View 0 ⟨[CV.tup [.one .esl, .agg zeroM, iRV x]], [.var zeroM, b]⟩ ⟨[r'], m'⟩ ∧ r' = threeV (recvS l e) ∧ m' = [] := by
    intro x b hx
    refine ⟨_, _, View.of 2 [] [] rfl rfl rfl rfl rfl rfl (.put (vw3 (b := objsR []) (.one (.frz (.esl 9))) vwZ) .nil) (.nil _), ?_, rfl⟩
    rw [hx]
    rfl
  refine is_ok l e 4 ?_
  by_cases hI : isS l e 4 = true
  · rw [hI]
    obtain ⟨n, rfl, hn, hk⟩ := is4_yes (by decide) hI
    have hS := recvS_n hn hk
    refine ok_some (obj_get hn) ?_
    have hof := hf.2 _ (List.getElem_mem hn)
    have hg := obj_get hn
    generalize l[n] = o at hS hof hg
    obtain ⟨kind, data, entries, target, peer, queue, proc, links, up⟩ := o
    simp only at hS
    cases queue with
    | nil =>
      simp only at hS
      refine is_ok l peer 4 ?_
      by_cases hI2 : isS l peer 4 = true
      · rw [hI2]
        exact bad2 16 _ (by rw [hS, if_pos hI2])
      · have hI3 := hI2
        rw [Bool.not_eq_true] at hI3
        rw [hI3]
        exact bad2 17 _ (by rw [hS, if_neg hI2])
    | cons x r =>
      simp only at hS
      have hql : (x :: r).length ≤ 4194304 := hof.2.2.1
      have hql : r.length + 1 ≤ 4194304 := by simpa using hql
      have hw : withS l n ⟨kind, data, entries, target, peer, r, proc, links, up⟩ = l.set n ⟨kind, data, entries, target, peer, r, proc, links, up⟩ := by
        rw [withS, if_neg (by omega)]; simp
      have fin : ∀ (X : List (List CC)) (b1 b3 : Bk) {K : CV → Mem → Prop}, X = dRows (r.map Msg.enc) → K (objsV (l.set n ⟨kind, data, entries, target, peer, r, proc, links, up⟩)) [.var zeroM, .dead, .var (x.enc.map .dat), .dead, .dead] → ACall Try.prog 23 [objsV l, vInt .i64 (n : Nat),
          .rv (.agg [.dat (.val (.int .i64 kind)), .dat (.sl 1 data), .dat (.sl 2 entries), .dat (.val (.string target)), .dat (.val (.int .i64 peer)), .row 4 4 0 none, .dat (.val (.int .i64 proc)), .dat (.val (.int .i64 links)), .dat (.val (.int .i64 up))])]
          [.var zeroM, b1, .var (x.enc.map .dat), b3, .row 4 X] K := fun X b1 b3 K hX hK => by
        subst hX
        refine acall_pre (args' := [objsV l, vInt .i64 (n : Nat), (Obj.mk kind data entries target peer r proc links up).cv]) (m' := [.var zeroM, .dead, .var (x.enc.map .dat), .dead, .dead]) (View.of 5 [0, 1, 2, 3, 4] [4] rfl rfl rfl rfl rfl rfl
          (.eq rfl (.eq rfl (.put (CcsVw.agg (.cons (.ren (.dat _)) (.cons (.ren (.dat _)) (.cons (.ren (.dat _)) (.cons (.ren (.dat _)) (.cons (.ren (.dat _)) (.cons (.frz (FrzD.rowD (Z := fun k => memN [4] k = true) rfl rfl 0 none)) (.cons (.ren (.dat _)) (.cons (.ren (.dat _)) (.cons (.ren (.dat _)) .nil)))))))))) .nil)))
          (.put (notF rfl) rfl (.eq rfl (by simp)) (.dead (.put (notF rfl) rfl (.eq rfl (by simp)) (.dead (.dead (.nil _))))))) ?_
        refine with_ok l hf.1 n (by omega) _ ?_
        rw [hw]
        exact hK
      refine bB_yes (by simp) ?_
      refine bB_yes (by simp [Nat.ble_eq]) ?_
      refine ⟨?_, ?_⟩
      · simp [subL]; omega
      refine fin _ _ _ ?_ ?_
      · simp only [subL, dRows, List.nil_append]
        rw [List.take_of_length_le (by simp)]
        simp
      refine ⟨⟨rfl, trivial⟩, trivial, ?_⟩
      refine ⟨threeV (recvS l n), [], View.of 5 [] [] rfl rfl rfl rfl rfl rfl ?_ (.nil _), rfl, rfl⟩
      rw [hS]
      exact .put (vw3 (.one (.ren (.dat _))) (vwMsg x)) .nil
  · rw [Bool.not_eq_true] at hI
    rw [hI]
    exact bad1 8 (recvS_1 hI)
set_option maxRecDepth 100000 in
theorem rrecv_ok (l : List Obj) (hf : fitL l) (e : Int) {m : Mem} {K : CV → Mem → Prop} (h : K (threeV (recvS l e)) m) : ACall Try.prog 13 [objsV l, vInt .i64 e] m K := by
  refine acall_frame (K0 := fun r m => r = threeV (recvS l e) ∧ m = []) (acall_view (acall_body Try.func13 l13 rfl (Nat.le_of_ble_eq_true rfl) (rrecv_body l hf e)) fun r m1 ⟨r', m', hv, hp⟩ => ⟨r', m', hv, hp⟩) (by simp [objsV, vInt, CV.isD, CC.isD, RV.isD]) fun r m1 hr => ?_
  obtain ⟨rfl, rfl⟩ := hr
  exact ⟨_, FrzV.self rfl, h⟩

def c36 : LF := ⟨54, [.tmp 2], (.seq (.reg [
    ⟨(some 2), .mov (.c (.rv (.one (.dat (.val (.bool false)))))), none⟩]) (.seq (.seq (.reg [
    ⟨(some 5), .mov (.t 0), none⟩,
    ⟨(some 6), .len 0 (.t 5), none⟩,
    ⟨(some 7), .mov (.c (.rv (.one (.dat (.val (.int .i64 (0))))))), none⟩]) (.block 0 (.loop (.seq (.reg [
    ⟨(some 8), .bin .lss (.t 7) (.t 6), none⟩]) (.seq (.cond (.t 8) .skip (.exit 0)) (.seq (.block 1 (.seq (.reg [
    ⟨(some 9), .mov (.t 7), none⟩,
    ⟨(some 3), .mov (.t 9), none⟩]) (.seq (.reg [
    ⟨(some 10), .mov (.t 0), none⟩,
    ⟨(some 11), .mov (.t 3), none⟩,
    ⟨(some 12), .sidx (.t 10) (.t 11), none⟩,
    ⟨(some 4), .mov (.t 12), none⟩]) (.seq (.reg [
    ⟨(some 13), .mov (.t 4), none⟩,
    ⟨(some 14), .bin .geq (.t 13) (.c (.rv (.one (.dat (.val (.int .u8 (97))))))), none⟩,
    ⟨(some 15), .mov (.t 14), none⟩,
    ⟨(some 16), .mov (.t 4), (some (15, true))⟩,
    ⟨(some 17), .bin .leq (.t 16) (.c (.rv (.one (.dat (.val (.int .u8 (122))))))), (some (15, true))⟩,
    ⟨(some 18), .pick (.t 15) (.t 17) (.c (.rv (.one (.dat (.val (.bool false)))))), none⟩,
    ⟨(some 19), .un .not (.t 18), none⟩,
    ⟨(some 20), .mov (.t 19), none⟩,
    ⟨(some 21), .mov (.t 4), (some (20, true))⟩,
    ⟨(some 22), .bin .geq (.t 21) (.c (.rv (.one (.dat (.val (.int .u8 (48))))))), (some (20, true))⟩,
    ⟨(some 23), .mov (.t 22), (some (20, true))⟩,
    ⟨(some 24), .mov (.t 4), (some (23, true))⟩,
    ⟨(some 25), .bin .leq (.t 24) (.c (.rv (.one (.dat (.val (.int .u8 (57))))))), (some (23, true))⟩,
    ⟨(some 26), .pick (.t 23) (.t 25) (.c (.rv (.one (.dat (.val (.bool false)))))), (some (20, true))⟩,
    ⟨(some 27), .un .not (.t 26), (some (20, true))⟩,
    ⟨(some 28), .pick (.t 20) (.t 27) (.c (.rv (.one (.dat (.val (.bool false)))))), none⟩,
    ⟨(some 29), .mov (.t 28), none⟩,
    ⟨(some 30), .mov (.t 4), (some (29, true))⟩,
    ⟨(some 31), .bin .neq (.t 30) (.c (.rv (.one (.dat (.val (.int .u8 (46))))))), (some (29, true))⟩,
    ⟨(some 32), .pick (.t 29) (.t 31) (.c (.rv (.one (.dat (.val (.bool false)))))), none⟩,
    ⟨(some 33), .mov (.t 32), none⟩,
    ⟨(some 34), .mov (.t 4), (some (33, true))⟩,
    ⟨(some 35), .bin .neq (.t 34) (.c (.rv (.one (.dat (.val (.int .u8 (95))))))), (some (33, true))⟩,
    ⟨(some 36), .pick (.t 33) (.t 35) (.c (.rv (.one (.dat (.val (.bool false)))))), none⟩]) (.cond (.t 36) (.seq (.reg [
    ⟨(some 2), .mov (.c (.rv (.one (.dat (.val (.bool false)))))), none⟩]) .ret) .skip))))) (.reg [
    ⟨(some 37), .bin .add (.t 7) (.c (.rv (.one (.dat (.val (.int .i64 (1))))))), none⟩,
    ⟨(some 7), .mov (.t 37), none⟩]))))))) (.seq (.reg [
    ⟨(some 38), .mov (.t 0), none⟩,
    ⟨(some 39), .len 0 (.t 38), none⟩,
    ⟨(some 40), .bin .gtr (.t 39) (.c (.rv (.one (.dat (.val (.int .i64 (0))))))), none⟩,
    ⟨(some 41), .mov (.t 40), none⟩,
    ⟨(some 42), .mov (.t 0), (some (41, true))⟩,
    ⟨(some 43), .len 0 (.t 42), (some (41, true))⟩,
    ⟨(some 44), .bin .leq (.t 43) (.c (.rv (.one (.dat (.val (.int .i64 (12))))))), (some (41, true))⟩,
    ⟨(some 45), .pick (.t 41) (.t 44) (.c (.rv (.one (.dat (.val (.bool false)))))), none⟩,
    ⟨(some 46), .mov (.t 45), none⟩,
    ⟨(some 47), .mov (.t 0), (some (46, true))⟩,
    ⟨(some 48), .bin .neq (.t 47) (.c (.rv (.one (.dat (.val (.string ⟨#[46]⟩)))))), (some (46, true))⟩,
    ⟨(some 49), .pick (.t 46) (.t 48) (.c (.rv (.one (.dat (.val (.bool false)))))), none⟩,
    ⟨(some 50), .mov (.t 49), none⟩,
    ⟨(some 51), .mov (.t 0), (some (50, true))⟩,
    ⟨(some 52), .bin .neq (.t 51) (.c (.rv (.one (.dat (.val (.string ⟨#[46, 46]⟩)))))), (some (50, true))⟩,
    ⟨(some 53), .pick (.t 50) (.t 52) (.c (.rv (.one (.dat (.val (.bool false)))))), none⟩,
    ⟨(some 2), .mov (.t 53), none⟩]) .ret)))⟩
def c37 : LF := ⟨30, [.tmp 6], (.seq (.reg [
    ⟨(some 6), .mov (.c (.rv (.one (.dat (.val (.int .i64 (0))))))), none⟩]) (.seq (.seq (.reg [
    ⟨(some 9), .mov (.t 0), none⟩,
    ⟨(some 10), .mov (.t 1), none⟩,
    ⟨(some 11), .call (.c (.rv (.one (.fn 28 [])))) [(.t 9), (.t 10), (.c (.rv (.one (.dat (.val (.int .i64 (2)))))))], none⟩,
    ⟨(some 12), .un .not (.t 11), none⟩]) (.cond (.t 12) (.seq (.reg [
    ⟨(some 6), .mov (.c (.rv (.one (.dat (.val (.int .i64 (-1))))))), none⟩]) .ret) .skip)) (.seq (.seq (.reg [
    ⟨(some 13), .mov (.t 0), none⟩,
    ⟨(some 14), .mov (.t 1), none⟩,
    ⟨(some 15), .idx 9 (.t 13) (.t 14), none⟩,
    ⟨(some 16), .fadr 2 (.t 15), none⟩,
    ⟨(some 17), .load false 1 (.t 16), none⟩,
    ⟨(some 18), .len 1 (.t 17), none⟩,
    ⟨(some 19), .mov (.c (.rv (.one (.dat (.val (.int .i64 (0))))))), none⟩]) (.block 0 (.loop (.seq (.reg [
    ⟨(some 20), .bin .lss (.t 19) (.t 18), none⟩]) (.seq (.cond (.t 20) .skip (.exit 0)) (.seq (.block 1 (.seq (.reg [
    ⟨(some 21), .idx 2 (.t 17) (.t 19), none⟩,
    ⟨(some 22), .load true 2 (.t 21), none⟩,
    ⟨(some 8), .alloc [(.dat (.val (.string ⟨#[]⟩))), (.dat (.val (.int .i64 (0))))], none⟩,
    ⟨none, .store 2 (.t 8) (.t 22), none⟩]) (.seq (.reg [
    ⟨(some 23), .fadr 0 (.t 8), none⟩,
    ⟨(some 24), .load false 1 (.t 23), none⟩,
    ⟨(some 25), .mov (.t 2), none⟩,
    ⟨(some 26), .bin .eql (.t 24) (.t 25), none⟩]) (.cond (.t 26) (.seq (.reg [
    ⟨(some 27), .fadr 1 (.t 8), none⟩,
    ⟨(some 28), .load false 1 (.t 27), none⟩,
    ⟨(some 6), .mov (.t 28), none⟩]) .ret) .skip)))) (.reg [
    ⟨(some 29), .bin .add (.t 19) (.c (.rv (.one (.dat (.val (.int .i64 (1))))))), none⟩,
    ⟨(some 19), .mov (.t 29), none⟩]))))))) (.seq (.reg [
    ⟨(some 6), .mov (.c (.rv (.one (.dat (.val (.int .i64 (-1))))))), none⟩]) .ret))))⟩
/-! Name, Find, Enter of the document: what they say fits -/
theorem l36 : lowF Try.prog Try.f36 = some c36 := by kernel_rfl
set_option maxRecDepth 100000 in
set_option maxHeartbeats 8000000 in
theorem name_body (s : ByteArray) (hs : s.size ≤ 4194304) : body Try.prog c36 [vStr s] [] (fun r m => ∃ b, r = vBool b) := by
  refine loop_keep (fun k => k ≤ s.size) [0, 6] (fun k => [(7, vInt .i64 (k : Nat))]) (fun _ => []) (fun k => s.size - k) 0 (Nat.zero_le _) ?_ (fun k hk => ?_)
  · refine View.of 0 [] [] rfl rfl rfl rfl rfl rfl ?_ (.nil _)
    repeat (first | exact .nil | refine .junk ?_ | refine .eq rfl ?_)
  have hk : k ≤ s.size := hk
  refine bB_dec (fun h => ?_) (fun h => ?_)
  · have hlt : k < s.size := by
      have h : (k : Int) < (s.size : Int) := h
      omega
    obtain ⟨c, hc⟩ : ∃ c, getZ s.data.toList (k : Nat) = some c := by
      rw [getZ_nat]
      have : k < s.data.toList.length := by simpa using hlt
      exact ⟨_, List.getElem?_eq_getElem this⟩
    refine ok_some hc ?_
    repeat' refine bB_split (fun _ => ?_) (fun _ => ?_)
    all_goals first
      | exact ⟨_, rfl⟩
      | (refine ⟨k + 1, hlt, (show s.size - (k + 1) < s.size - k by omega), View.of 0 [] [] rfl rfl rfl rfl rfl rfl ?_ (.nil _)⟩
         repeat (first | exact .nil | refine .junk ?_ | refine .put (.ren (next_i64 (by omega)).symm) ?_ | refine .eq rfl ?_))
  · repeat' refine bB_split (fun _ => ?_) (fun _ => ?_)
    all_goals exact ⟨_, rfl⟩
set_option maxRecDepth 100000 in
theorem name_ok (s : ByteArray) (hs : s.size ≤ 4194304) {m : Mem} {K : CV → Mem → Prop} (h : ∀ b, K (vBool b) m) : ACall Try.prog 36 [vStr s] m K := by
  refine acall_frame (K0 := fun r _ => ∃ b, r = vBool b) (acall_body Try.func36 l36 rfl (Nat.le_of_ble_eq_true rfl) (name_body s hs)) (by simp [vStr, CV.isD, CC.isD, RV.isD]) fun r m1 hr => ?_
  obtain ⟨b, rfl⟩ := hr
  exact ⟨_, FrzV.self rfl, h b⟩
theorem is0_yes {l : List Obj} {k : Int} (h : isS l k 0 = true) : ∃ n : Nat, k = n ∧ n < l.length := by
  unfold isS at h
  by_cases h0 : k ≥ 0
  · obtain ⟨n, rfl⟩ : ∃ n : Nat, k = n := ⟨k.toNat, by omega⟩
    by_cases hn : n < l.length
    · exact ⟨n, rfl, hn⟩
    · simp [hn] at h
  · simp [h0] at h
/-- small, and of the right shape -/
structure Obj.sm (o : Obj) : Prop where
  t : o.typ
  d : o.data.length ≤ 64
  e : o.entries.length ≤ 8
  q : o.queue.length ≤ 8
  qd : ∀ q, q ∈ o.queue → q.data.length ≤ 64
theorem Obj.sm.fit {o : Obj} (h : o.sm) : o.fit := ⟨by have := h.d; omega, by have := h.e; omega, by have := h.q; omega, fun q hq => by have := h.qd q hq; omega⟩
structure GoodL (l : List Obj) : Prop where
  len : l.length ≤ 40
  sm : ∀ o, o ∈ l → o.sm
  root : ∃ o, l[0]? = some o ∧ o.kind = 2
theorem GoodL.fit {l : List Obj} (h : GoodL l) : fitL l := ⟨by have := h.len; omega, fun o ho => (h.sm o ho).fit⟩
theorem GoodL.set {l : List Obj} (h : GoodL l) {n : Nat} {o : Obj} (ho : o.sm) (hn : n < l.length) (hk : o.kind = l[n].kind) : GoodL (l.set n o) := by
  refine ⟨by simpa using h.len, fun x hx => ?_, ?_⟩
  · rcases List.mem_or_eq_of_mem_set hx with hx | rfl
    · exact h.sm x hx
    · exact ho
  · obtain ⟨r, hr, hr2⟩ := h.root
    by_cases h0 : n = 0
    · subst h0
      refine ⟨o, by simp [hn], ?_⟩
      rw [hk]
      rw [List.getElem?_eq_getElem hn] at hr
      cases hr
      exact hr2
    · exact ⟨r, by rw [List.getElem?_set_ne (by omega)]; exact hr, hr2⟩
theorem l37 : lowF Try.prog Try.f37 = some c37 := by kernel_rfl
theorem ent_get {es : List (ByteArray × Int)} {k : Nat} (h : k < es.length) : getZ (es.map entD) (k : Nat) = some [.val (.string es[k].1), .val (.int .i64 es[k].2)] := by
  rw [getZ_nat, List.getElem?_map, List.getElem?_eq_getElem h]; rfl
set_option maxRecDepth 100000 in
set_option maxHeartbeats 8000000 in
theorem find_body (l : List Obj) (hg : GoodL l) (dir : Int) (name : ByteArray) : body Try.prog c37 [objsV l, vInt .i64 dir, vStr name] [] (fun r m => ∃ n, r = vInt .i64 n) := by
  refine is_ok l dir 2 ?_
  by_cases hI : isS l dir 2 = true
  · rw [hI]
    obtain ⟨n, rfl, hn, hk⟩ := is4_yes (by decide) hI
    refine ok_some (obj_get hn) ?_
    have hsm := hg.sm _ (List.getElem_mem hn)
    generalize l[n] = o at hsm
    obtain ⟨kind, data, entries, target, peer, queue, proc, links, up⟩ := o
    obtain ⟨es, rfl⟩ : ∃ es : List (ByteArray × Int), entries = es.map entD := hsm.t.2.1
    have hlen : es.length ≤ 8 := by have := hsm.e; simpa using this
    refine loop_keep (fun k => k ≤ es.length) [2, 17, 18] (fun k => [(19, vInt .i64 (k : Nat))]) (fun _ => []) (fun k => es.length - k) 0 (Nat.zero_le _) ?_ (fun k hk => ?_)
    · refine View.of 0 [] [] rfl rfl rfl rfl rfl rfl ?_ (.nil _)
      repeat (first | exact .nil | refine .junk ?_ | refine .eq rfl ?_)
    have hk : k ≤ es.length := hk
    refine bB_dec (fun h => ?_) (fun h => ?_)
    · have hlt : k < es.length := by
        have h : (k : Int) < ((es.map entD).length : Int) := h
        rw [List.length_map] at h
        omega
      refine ok_some (ent_get hlt) ?_
      refine bB_split (fun _ => ?_) (fun _ => ?_)
      · exact ⟨_, rfl⟩
      · refine ⟨k + 1, hlt, (show es.length - (k + 1) < es.length - k by omega), View.of 1 [] [] rfl rfl rfl rfl rfl rfl ?_ (.nil _)⟩
        repeat (first | exact .nil | refine .junk ?_ | refine .put (.ren (next_i64 (by omega)).symm) ?_ | refine .eq rfl ?_)
    · exact ⟨_, rfl⟩
  · rw [Bool.not_eq_true] at hI
    rw [hI]
    exact ⟨_, rfl⟩
set_option maxRecDepth 100000 in
theorem find_ok (l : List Obj) (hg : GoodL l) (dir : Int) (name : ByteArray) {m : Mem} {K : CV → Mem → Prop} (h : ∀ n, K (vInt .i64 n) m) : ACall Try.prog 37 [objsV l, vInt .i64 dir, vStr name] m K := by
  refine acall_frame (K0 := fun r _ => ∃ n, r = vInt .i64 n) (acall_body Try.func37 l37 rfl (Nat.le_of_ble_eq_true rfl) (find_body l hg dir name)) (by simp [vStr, vInt, objsV, CV.isD, CC.isD, RV.isD]) fun r m1 hr => ?_
  obtain ⟨b, rfl⟩ := hr
  exact ⟨_, FrzV.self rfl, h b⟩

end Go.Proofs.Ytnlhnmlojcfljaa
