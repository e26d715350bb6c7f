import Derived.Test.YtnlhnmlojcfljaaAmZ2
import Derived.Test.YtnlhnmlojcfljaaDvKeeps
import Derived.Test.YtnlhnmlojcfljaaAmY
set_option linter.unusedVariables false
set_option linter.unusedSimpArgs false
namespace Go.Proofs.Ytnlhnmlojcfljaa
open Go.AM Go.ChangeShapes Go.WideShapes Go.ChangeAt Go.RowKit
def c4 : LF := ⟨35, [.tmp 2], (.seq (.reg [
    ⟨(some 2), .mov (.c (.rv (.one (.dat (.val (.bool false)))))), none⟩]) (.seq (.seq (.reg [
    ⟨(some 7), .call (.c (.rv (.one (.fn 14 [])))) [], none⟩,
    ⟨(some 8), .un .not (.t 7), none⟩]) (.cond (.t 8) (.seq (.reg [
    ⟨(some 2), .mov (.c (.rv (.one (.dat (.val (.bool false)))))), none⟩]) .ret) .skip)) (.seq (.reg [
    ⟨(some 9), .mov (.t 0), none⟩,
    ⟨(some 10), .call (.c (.rv (.one (.fn 6 [])))) [(.t 9)], none⟩,
    ⟨(some 11), .call (.c (.rv (.one (.fn 15 [])))) [(.t 10)], none⟩,
    ⟨(some 3), .alloc [.esl, .esl, .esl], none⟩,
    ⟨none, .store 3 (.t 3) (.t 11), none⟩]) (.seq (.seq (.draw [
    ⟨(some 12), .load true 3 (.t 3), none⟩,
    ⟨(some 13), .call (.c (.rv (.one (.fn 15 [])))) [(.t 12)], none⟩,
    ⟨(some 14), .load true 3 (.t 3), none⟩,
    ⟨(some 15), .call (.c (.rv (.one (.fn 16 [])))) [(.t 13), (.t 14)], none⟩,
    ⟨(some 16), .un .not (.t 15), none⟩]
    [(.cons 0 none (.cons 2 none (.cons 1 (some [2]) (.cons 3 (some []) (.cons 4 none .nil)))))]) (.cond (.t 16) (.seq (.reg [
    ⟨(some 2), .mov (.c (.rv (.one (.dat (.val (.bool false)))))), none⟩]) .ret) .skip)) (.seq (.reg [
    ⟨(some 4), .mov (.c (.rv (.one (.dat (.val (.int .i64 (0))))))), none⟩]) (.seq (.seq (.reg [
    ⟨(some 17), .fadr 0 (.t 3), none⟩,
    ⟨(some 18), .load false 1 (.t 17), none⟩,
    ⟨(some 19), .len 1 (.t 18), none⟩,
    ⟨(some 20), .mov (.c (.rv (.one (.dat (.val (.int .i64 (0))))))), none⟩]) (.block 0 (.loop (.seq (.reg [
    ⟨(some 21), .bin .lss (.t 20) (.t 19), none⟩]) (.seq (.cond (.t 21) .skip (.exit 0)) (.seq (.block 1 (.seq (.reg [
    ⟨(some 22), .idx 9 (.t 18) (.t 20), none⟩,
    ⟨(some 23), .load true 9 (.t 22), none⟩,
    ⟨(some 6), .alloc [(.dat (.val (.int .i64 (0)))), .esl, .esl, (.dat (.val (.string ⟨#[]⟩))), (.dat (.val (.int .i64 (0)))), .esl, (.dat (.val (.int .i64 (0)))), (.dat (.val (.int .i64 (0)))), (.dat (.val (.int .i64 (0))))], none⟩,
    ⟨none, .store 9 (.t 6) (.t 23), none⟩]) (.seq (.reg [
    ⟨(some 24), .fadr 0 (.t 6), none⟩,
    ⟨(some 25), .load false 1 (.t 24), none⟩,
    ⟨(some 26), .bin .neq (.t 25) (.c (.rv (.one (.dat (.val (.int .i64 (0))))))), none⟩]) (.cond (.t 26) (.reg [
    ⟨(some 27), .mov (.t 4), none⟩,
    ⟨(some 28), .bin .add (.t 27) (.c (.rv (.one (.dat (.val (.int .i64 (1))))))), none⟩,
    ⟨(some 4), .mov (.t 28), none⟩]) .skip)))) (.reg [
    ⟨(some 29), .bin .add (.t 20) (.c (.rv (.one (.dat (.val (.int .i64 (1))))))), none⟩,
    ⟨(some 20), .mov (.t 29), none⟩]))))))) (.seq (.reg [
    ⟨(some 30), .load true 3 (.t 3), none⟩,
    ⟨(some 31), .call (.c (.rv (.one (.fn 17 [])))) [(.t 30)], none⟩,
    ⟨(some 32), .len 1 (.t 31), none⟩,
    ⟨(some 33), .mov (.t 4), none⟩,
    ⟨(some 34), .bin .eql (.t 32) (.t 33), none⟩,
    ⟨(some 2), .mov (.t 34), none⟩]) .ret)))))))⟩
def c16 : LF := ⟨95, [.tmp 4], (.seq (.reg [
    ⟨(some 2), .box (.t 0), none⟩,
    ⟨(some 3), .box (.t 1), none⟩,
    ⟨(some 4), .mov (.c (.rv (.one (.dat (.val (.bool false)))))), none⟩]) (.seq (.seq (.reg [
    ⟨(some 9), .fadr 0 (.t 2), none⟩,
    ⟨(some 10), .load false 1 (.t 9), none⟩,
    ⟨(some 11), .fadr 0 (.t 3), none⟩,
    ⟨(some 12), .load false 1 (.t 11), none⟩,
    ⟨(some 13), .call (.c (.rv (.one (.fn 9 [])))) [(.t 10), (.t 12)], none⟩,
    ⟨(some 14), .un .not (.t 13), none⟩,
    ⟨(some 15), .mov (.t 14), none⟩,
    ⟨(some 16), .fadr 1 (.t 2), (some (15, false))⟩,
    ⟨(some 17), .load false 1 (.t 16), (some (15, false))⟩,
    ⟨(some 18), .len 1 (.t 17), (some (15, false))⟩,
    ⟨(some 19), .fadr 1 (.t 3), (some (15, false))⟩,
    ⟨(some 20), .load false 1 (.t 19), (some (15, false))⟩,
    ⟨(some 21), .len 1 (.t 20), (some (15, false))⟩,
    ⟨(some 22), .bin .neq (.t 18) (.t 21), (some (15, false))⟩,
    ⟨(some 23), .pick (.t 15) (.c (.rv (.one (.dat (.val (.bool true)))))) (.t 22), none⟩,
    ⟨(some 24), .mov (.t 23), none⟩,
    ⟨(some 25), .fadr 2 (.t 2), (some (24, false))⟩,
    ⟨(some 26), .load false 1 (.t 25), (some (24, false))⟩,
    ⟨(some 27), .len 1 (.t 26), (some (24, false))⟩,
    ⟨(some 28), .fadr 2 (.t 3), (some (24, false))⟩,
    ⟨(some 29), .load false 1 (.t 28), (some (24, false))⟩,
    ⟨(some 30), .len 1 (.t 29), (some (24, false))⟩,
    ⟨(some 31), .bin .neq (.t 27) (.t 30), (some (24, false))⟩,
    ⟨(some 32), .pick (.t 24) (.c (.rv (.one (.dat (.val (.bool true)))))) (.t 31), none⟩]) (.cond (.t 32) (.seq (.reg [
    ⟨(some 4), .mov (.c (.rv (.one (.dat (.val (.bool false)))))), none⟩]) .ret) .skip)) (.seq (.seq (.reg [
    ⟨(some 33), .fadr 1 (.t 2), none⟩,
    ⟨(some 34), .load false 1 (.t 33), none⟩,
    ⟨(some 35), .len 1 (.t 34), none⟩,
    ⟨(some 36), .mov (.c (.rv (.one (.dat (.val (.int .i64 (0))))))), none⟩]) (.block 0 (.loop (.seq (.reg [
    ⟨(some 37), .bin .lss (.t 36) (.t 35), none⟩]) (.seq (.cond (.t 37) .skip (.exit 0)) (.seq (.block 1 (.seq (.reg [
    ⟨(some 38), .mov (.t 36), none⟩,
    ⟨(some 5), .mov (.t 38), none⟩]) (.seq (.draw [
    ⟨(some 39), .fadr 1 (.t 2), none⟩,
    ⟨(some 40), .load false 1 (.t 39), none⟩,
    ⟨(some 41), .mov (.t 5), none⟩,
    ⟨(some 42), .idx 2 (.t 40) (.t 41), none⟩,
    ⟨(some 43), .load true 2 (.t 42), none⟩,
    ⟨(some 44), .fadr 1 (.t 3), none⟩,
    ⟨(some 45), .load false 1 (.t 44), none⟩,
    ⟨(some 46), .mov (.t 5), none⟩,
    ⟨(some 47), .idx 2 (.t 45) (.t 46), none⟩,
    ⟨(some 48), .load true 2 (.t 47), none⟩,
    ⟨(some 49), .eqa true [.i, .i] (.t 43) (.t 48), none⟩]
    [(.cons 0 none (.cons 1 none (.cons 2 none (.cons 3 none (.cons 4 none (.cons 5 none (.cons 6 none (.cons 7 none (.cons 8 none (.cons 9 none (.cons 10 none .nil)))))))))))]) (.cond (.t 49) (.seq (.reg [
    ⟨(some 4), .mov (.c (.rv (.one (.dat (.val (.bool false)))))), none⟩]) .ret) .skip)))) (.reg [
    ⟨(some 50), .bin .add (.t 36) (.c (.rv (.one (.dat (.val (.int .i64 (1))))))), none⟩,
    ⟨(some 36), .mov (.t 50), none⟩]))))))) (.seq (.seq (.reg [
    ⟨(some 51), .fadr 2 (.t 2), none⟩,
    ⟨(some 52), .load false 1 (.t 51), none⟩,
    ⟨(some 53), .len 1 (.t 52), none⟩,
    ⟨(some 54), .mov (.c (.rv (.one (.dat (.val (.int .i64 (0))))))), none⟩]) (.block 2 (.loop (.seq (.reg [
    ⟨(some 55), .bin .lss (.t 54) (.t 53), none⟩]) (.seq (.cond (.t 55) .skip (.exit 2)) (.seq (.block 3 (.seq (.reg [
    ⟨(some 56), .mov (.t 54), none⟩,
    ⟨(some 6), .mov (.t 56), none⟩]) (.seq (.draw [
    ⟨(some 57), .fadr 2 (.t 2), none⟩,
    ⟨(some 58), .load false 1 (.t 57), none⟩,
    ⟨(some 59), .mov (.t 6), none⟩,
    ⟨(some 60), .idx 4 (.t 58) (.t 59), none⟩,
    ⟨(some 61), .load true 4 (.t 60), none⟩,
    ⟨(some 62), .fadr 2 (.t 3), none⟩,
    ⟨(some 63), .load false 1 (.t 62), none⟩,
    ⟨(some 64), .mov (.t 6), none⟩,
    ⟨(some 65), .idx 4 (.t 63) (.t 64), none⟩,
    ⟨(some 66), .load true 4 (.t 65), none⟩,
    ⟨(some 7), .alloc [(.dat (.val (.bool false))), (.dat (.val (.bool false))), (.dat (.val (.int .i64 (0)))), .esl], none⟩,
    ⟨(some 8), .alloc [(.dat (.val (.bool false))), (.dat (.val (.bool false))), (.dat (.val (.int .i64 (0)))), .esl], none⟩,
    ⟨none, .store 4 (.t 7) (.t 61), none⟩,
    ⟨none, .store 4 (.t 8) (.t 66), none⟩]
    [(.cons 0 none (.cons 1 none (.cons 2 none (.cons 3 none (.cons 4 none (.cons 5 none (.cons 6 none (.cons 7 none (.cons 8 none (.cons 9 none (.alt (.cons 10 (some [9, 8, 6, 4, 3, 1]) (.cons 11 (some [9, 8, 6, 4, 3, 1]) (.cons 12 (some [9, 8, 6]) (.cons 13 (some []) .nil)))) (.cons 11 (some [9, 8, 6, 4, 3, 1]) (.cons 10 (some [9, 8, 6, 4, 3, 1]) (.cons 12 (some [9, 8, 6]) (.cons 13 (some []) .nil)))))))))))))))]) (.seq (.reg [
    ⟨(some 67), .fadr 0 (.t 7), none⟩,
    ⟨(some 68), .load false 1 (.t 67), none⟩,
    ⟨(some 69), .fadr 0 (.t 8), none⟩,
    ⟨(some 70), .load false 1 (.t 69), none⟩,
    ⟨(some 71), .beq true (.t 68) (.t 70), none⟩,
    ⟨(some 72), .mov (.t 71), none⟩,
    ⟨(some 73), .fadr 1 (.t 7), (some (72, false))⟩,
    ⟨(some 74), .load false 1 (.t 73), (some (72, false))⟩,
    ⟨(some 75), .fadr 1 (.t 8), (some (72, false))⟩,
    ⟨(some 76), .load false 1 (.t 75), (some (72, false))⟩,
    ⟨(some 77), .beq true (.t 74) (.t 76), (some (72, false))⟩,
    ⟨(some 78), .pick (.t 72) (.c (.rv (.one (.dat (.val (.bool true)))))) (.t 77), none⟩,
    ⟨(some 79), .mov (.t 78), none⟩,
    ⟨(some 80), .fadr 2 (.t 7), (some (79, false))⟩,
    ⟨(some 81), .load false 1 (.t 80), (some (79, false))⟩,
    ⟨(some 82), .fadr 2 (.t 8), (some (79, false))⟩,
    ⟨(some 83), .load false 1 (.t 82), (some (79, false))⟩,
    ⟨(some 84), .bin .neq (.t 81) (.t 83), (some (79, false))⟩,
    ⟨(some 85), .pick (.t 79) (.c (.rv (.one (.dat (.val (.bool true)))))) (.t 84), none⟩,
    ⟨(some 86), .mov (.t 85), none⟩,
    ⟨(some 87), .fadr 3 (.t 7), (some (86, false))⟩,
    ⟨(some 88), .load false 1 (.t 87), (some (86, false))⟩,
    ⟨(some 89), .fadr 3 (.t 8), (some (86, false))⟩,
    ⟨(some 90), .load false 1 (.t 89), (some (86, false))⟩,
    ⟨(some 91), .call (.c (.rv (.one (.fn 18 [])))) [(.t 88), (.t 90)], (some (86, false))⟩,
    ⟨(some 92), .un .not (.t 91), (some (86, false))⟩,
    ⟨(some 93), .pick (.t 86) (.c (.rv (.one (.dat (.val (.bool true)))))) (.t 92), none⟩]) (.cond (.t 93) (.seq (.reg [
    ⟨(some 4), .mov (.c (.rv (.one (.dat (.val (.bool false)))))), none⟩]) .ret) .skip))))) (.reg [
    ⟨(some 94), .bin .add (.t 54) (.c (.rv (.one (.dat (.val (.int .i64 (1))))))), none⟩,
    ⟨(some 54), .mov (.t 94), none⟩]))))))) (.seq (.reg [
    ⟨(some 4), .mov (.c (.rv (.one (.dat (.val (.bool true)))))), none⟩]) .ret)))))⟩
/-! SameKernel: of what is the same it says yes; the law SweepTwice -/
theorem l16 : lowF Try.prog Try.f16 = some c16 := by kernel_rfl
theorem l4 : lowF Try.prog Try.f4 = some c4 := by kernel_rfl
theorem opn_get {l : List Opn} {k : Nat} (h : k < l.length) : getZ (l.map Opn.enc) (k : Nat) = some [.val (.int .i64 l[k].obj), .val (.int .i64 l[k].at')] := by
  rw [getZ_nat, List.getElem?_map, List.getElem?_eq_getElem h]; rfl
set_option maxRecDepth 100000 in
set_option maxHeartbeats 32000000 in
theorem ksame_body (k : Kr) (hk : KrOK k.l k.ops k.ps) : body Try.prog c16 [kernV k.l k.ops k.ps, kernV k.l k.ops k.ps] [] (fun r m => r = vBool true) := by
  obtain ⟨l, ops, ps⟩ := k
  have hk : KrOK l ops ps := hk
  have h1 := hk.lo
  have h2 := hk.lp
  refine sames_ok l ⟨hk.ll, fun o ho => (hk.sm o ho).fit⟩ (fun o ho => (hk.sm o ho).t) ?_
  refine bB_no (by simp) ?_
  refine bB_no (by simp) ?_
  refine loop_keep (fun j => j ≤ ops.length) [2, 3, 35] (fun j => [(36, vInt .i64 (j : Nat))]) (fun _ => [.var [.dat (objsD l), .dat (opnD ops), .dat (prcD ps)], .var [.dat (objsD l), .dat (opnD ops), .dat (prcD ps)]]) (fun j => ops.length - j) 0 (Nat.zero_le _) ?_ (fun j hj => ?_)
  · refine View.of 2 [0, 1] [] rfl rfl rfl rfl rfl rfl ?_ ?_
    · repeat (first | exact .nil | refine .junk ?_ | refine .eq rfl ?_)
    · exact .put (notF rfl) rfl (.eq rfl (by simp)) (.put (notF rfl) rfl (.eq rfl (by simp)) (.nil _))
  have hj : j ≤ ops.length := hj
  refine bB_dec (fun h => ?_) (fun h => ?_)
  · have hjlt : j < ops.length := by
      have h : (j : Int) < ((ops.map Opn.enc).length : Int) := h
      rw [List.length_map] at h
      omega
    refine ok_some (opn_get hjlt) ?_
    refine ok_some (opn_get hjlt) ?_
    refine bB_no (by simp) ?_
    refine ⟨j + 1, hjlt, (show ops.length - (j + 1) < ops.length - j by omega), View.of 2 [0, 1] [] rfl rfl rfl rfl rfl rfl ?_ ?_⟩
    · repeat (first | exact .nil | refine .junk ?_ | refine .put (.ren (next_i64 (by omega)).symm) ?_ | refine .eq rfl ?_)
    · exact .put (notF rfl) rfl (.eq rfl (by simp)) (.put (notF rfl) rfl (.eq rfl (by simp)) (.nil _))
  · refine loop_keep (fun p => p ≤ ps.length) [2, 3, 53] (fun p => [(54, vInt .i64 (p : Nat))]) (fun _ => [.var [.dat (objsD l), .dat (opnD ops), .dat (prcD ps)], .var [.dat (objsD l), .dat (opnD ops), .dat (prcD ps)]]) (fun p => ps.length - p) 0 (Nat.zero_le _) ?_ (fun p hp => ?_)
    · refine View.of 2 [0, 1] [] rfl rfl rfl rfl rfl rfl ?_ ?_
      · repeat (first | exact .nil | refine .junk ?_ | refine .eq rfl ?_)
      · exact .put (notF rfl) rfl (.eq rfl (by simp)) (.put (notF rfl) rfl (.eq rfl (by simp)) (.nil _))
    have hp : p ≤ ps.length := hp
    refine bB_dec (fun h => ?_) (fun h => ?_)
    · have hplt : p < ps.length := by
        have h : (p : Int) < ((ps.map Prc.enc).length : Int) := h
        rw [List.length_map] at h
        omega
      have hg := prc_get hplt
      have hsl := hk.sl _ (List.getElem_mem hplt)
      generalize ps[p] = x at hg hsl
      refine ok_some hg ?_
      refine ok_some hg ?_
      refine ⟨⟨⟨rfl, ok_some hg rfl, rfl, rfl, ok_some hg rfl, rfl, trivial⟩, ⟨rfl, ok_some hg rfl, rfl, rfl, ok_some hg rfl, rfl, trivial⟩, ⟨rfl, ok_some hg rfl, rfl, trivial⟩, trivial, ?_⟩,
        ⟨⟨rfl, ok_some hg rfl, rfl, rfl, ok_some hg rfl, rfl, trivial⟩, ⟨rfl, ok_some hg rfl, rfl, rfl, ok_some hg rfl, rfl, trivial⟩, ⟨rfl, ok_some hg rfl, rfl, trivial⟩, trivial, ?_⟩⟩
      · refine bB_no (by simp) ?_
        refine bB_no (by simp) ?_
        refine bB_no (by simp) ?_
        refine ssame_ok x.slots (by omega) ?_
        refine ⟨p + 1, hplt, (show ps.length - (p + 1) < ps.length - p by omega), View.of 4 [0, 1] [] rfl rfl rfl rfl rfl rfl ?_ ?_⟩
        · repeat (first | exact .nil | refine .junk ?_ | refine .put (.ren (next_i64 (by omega)).symm) ?_ | refine .eq rfl ?_)
        · exact .put (notF rfl) rfl (.eq rfl (by simp)) (.put (notF rfl) rfl (.eq rfl (by simp)) (.nil _))
      · refine bB_no (by simp) ?_
        refine bB_no (by simp) ?_
        refine bB_no (by simp) ?_
        refine ssame_ok x.slots (by omega) ?_
        refine ⟨p + 1, hplt, (show ps.length - (p + 1) < ps.length - p by omega), View.of 4 [0, 1] [] rfl rfl rfl rfl rfl rfl ?_ ?_⟩
        · repeat (first | exact .nil | refine .junk ?_ | refine .put (.ren (next_i64 (by omega)).symm) ?_ | refine .eq rfl ?_)
        · exact .put (notF rfl) rfl (.eq rfl (by simp)) (.put (notF rfl) rfl (.eq rfl (by simp)) (.nil _))
    · exact rfl
set_option maxRecDepth 100000 in
theorem ksame_ok (k : Kr) (hk : KrOK k.l k.ops k.ps) {m : Mem} {K : CV → Mem → Prop} (h : K (vBool true) m) : ACall Try.prog 16 [kernV k.l k.ops k.ps, kernV k.l k.ops k.ps] m K :=
  acall_val Try.func16 l16 rfl (Nat.le_of_ble_eq_true rfl) (ksame_body k hk) (by simp [kernV, objsD, opnD, prcD, CV.isD, CC.isD, RV.isD]) rfl h
def kinds (l : List Obj) (i : Nat) : Nat := ((List.range i).filter fun k => match l[k]? with | some o => o.kind != 0 | none => false).length
theorem kinds_succ {l : List Obj} {i : Nat} (h : i < l.length) : kinds l (i + 1) = kinds l i + (if l[i].kind ≠ 0 then 1 else 0) := by
  unfold kinds
  rw [List.range_succ, List.filter_append, List.length_append]
  by_cases hk : l[i].kind = 0
  · simp [List.getElem?_eq_getElem h, hk]
  · simp [List.getElem?_eq_getElem h, hk]
theorem kinds_le (l : List Obj) (i : Nat) : kinds l i ≤ i := Nat.le_trans (List.length_filter_le _ _) (by simp)
theorem kinds_idx {l : List Obj} {L : List Bool} (h : ∀ (i : Nat), onB L i ↔ ∃ o, l[i]? = some o ∧ o.kind ≠ 0) (n : Nat) : (idxsB L n).length = kinds l n := by
  unfold idxsB kinds
  congr 1
  apply List.filter_congr
  intro k _
  cases hk : l[k]? with
  | none =>
    have : ¬ onB L k := fun hh => by obtain ⟨o, ho, _⟩ := (h k).1 hh; rw [hk] at ho; cases ho
    simpa [onB] using this
  | some o =>
    by_cases h0 : o.kind = 0
    · have : ¬ onB L k := fun hh => by obtain ⟨o2, ho, hk2⟩ := (h k).1 hh; rw [hk] at ho; cases ho; exact hk2 h0
      have h2 : (L[k]? == some true) = false := by simpa [onB] using this
      rw [h2]; simp [h0]
    · have : onB L k := (h k).2 ⟨o, hk, h0⟩
      have h2 : L[k]? = some true := this
      rw [h2]; simp [h0]
set_option maxRecDepth 100000 in
set_option maxHeartbeats 32000000 in
theorem twice_body (b : List Int) (hb : BYb b) : body Try.prog c4 [.rv (.one (.dat (.sl 1 (byD b))))] [] (fun r m => r = vBool true) := by
  refine alive8_ok ?_
  refine build_ok b hb fun l op ps hk => ?_
  have hlen := hk.objs.len
  have hkr : KrOK l op ps := ⟨hk.objs.sm, by omega, by have := hk.opns.1; omega, by have := hk.prcs.1; omega, hk.prcs.2, fun e => by obtain ⟨p, hp, _⟩ := hk.first; rw [e] at hp; simp at hp⟩
  refine sweep_ok ⟨l, op, ps⟩ hkr fun a c d h1 h2 h3 => ?_
  obtain ⟨bm, hleft⟩ := h2.left
  have hkd := h3.kr ((h2.kr (h1.kr hkr)))
  refine sweep_ok d hkd fun a2 c2 d2 k1 k2 k3 => ?_
  have hd2 := h3.twice hleft k1 k2 k3
  subst hd2
  refine ⟨⟨rfl, trivial⟩, ?_⟩
  refine ksame_ok d2 hkd ?_
  refine ⟨trivial, ?_⟩
  have hmk := fun bd hbd => (h3.marks hleft (bd := bd) hbd).1
  obtain ⟨dl, dop, dps⟩ := d2
  have hkd : KrOK dl dop dps := hkd
  have hmk : ∀ bd, MarkOK dl dop dps bd → ∀ (i : Nat) o, dl[i]? = some o → o.kind ≠ 0 → onB bd.O i := hmk
  have hll := hkd.ll
  refine loop_keep (fun i => i ≤ dl.length) [3, 18, 19] (fun i => [(20, vInt .i64 (i : Nat)), (4, vInt .i64 (kinds dl i : Nat))]) (fun _ => [.var [.dat (objsD dl), .dat (opnD dop), .dat (prcD dps)]]) (fun i => dl.length - i) 0 (Nat.zero_le _) ?_ (fun i hi => ?_)
  · refine View.of 1 [0] [] rfl rfl rfl rfl rfl rfl ?_ ?_
    · repeat (first | exact .nil | refine .junk ?_ | refine .eq rfl ?_)
    · exact .put (notF rfl) rfl (.eq rfl (by simp)) (.nil _)
  have hi : i ≤ dl.length := hi
  have hkl := kinds_le dl i
  refine bB_dec (fun h => ?_) (fun h => ?_)
  · have hlt : i < dl.length := by
      have h : (i : Int) < ((dl.map Obj.enc).length : Int) := h
      rw [List.length_map] at h
      omega
    have hs := kinds_succ hlt
    refine ok_some (obj_get hlt) ?_
    refine bB_bne (fun h0 => ?_) (fun h0 => ?_)
    · rw [if_pos h0] at hs
      refine ⟨i + 1, hlt, (show dl.length - (i + 1) < dl.length - i by omega), View.of 2 [0] [] rfl rfl rfl rfl rfl rfl ?_ ?_⟩
      · rw [hs]
        repeat (first | exact .nil | refine .junk ?_ | refine .put (.ren (next_i64 (by omega)).symm) ?_ | refine .eq rfl ?_)
      · exact .put (notF rfl) rfl (.eq rfl (by simp)) (.nil _)
    · rw [if_neg (by simpa using h0)] at hs
      refine ⟨i + 1, hlt, (show dl.length - (i + 1) < dl.length - i by omega), View.of 2 [0] [] rfl rfl rfl rfl rfl rfl ?_ ?_⟩
      · rw [hs]
        repeat (first | exact .nil | refine .junk ?_ | refine .put (.ren (next_i64 (by omega)).symm) ?_ | refine .eq rfl ?_)
      · exact .put (notF rfl) rfl (.eq rfl (by simp)) (.nil _)
  · have hie : i = dl.length := by
      have h : ¬ (i : Int) < ((dl.map Obj.enc).length : Int) := h
      rw [List.length_map] at h
      omega
    subst hie
    refine sreach_ok dl dop dps hkd.sm hkd.ll hkd.lo hkd.lp hkd.sl fun bd hbd => ?_
    have he := kinds_idx (l := dl) (L := bd.O) (fun i => ⟨fun hh => hbd.kind hh, fun ⟨o, ho, hk⟩ => hmk bd hbd i o ho hk⟩) dl.length
    show vBool ((((idxsB bd.O dl.length).map nE).length : Int) == ((kinds dl dl.length : Nat) : Int)) = vBool true
    rw [List.length_map, he]
    simp
set_option maxRecDepth 100000 in
theorem twice_ok (b : List Int) (hb : BYb b) : ACall Try.prog 4 [.rv (.one (.dat (.sl 1 (byD b))))] [] (fun r m => r = vBool true) :=
  acall_body Try.func4 l4 rfl (Nat.le_of_ble_eq_true rfl) (twice_body b hb)
end Go.Proofs.Ytnlhnmlojcfljaa
