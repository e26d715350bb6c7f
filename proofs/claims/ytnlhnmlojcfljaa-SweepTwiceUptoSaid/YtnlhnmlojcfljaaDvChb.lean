import Derived.Test.YtnlhnmlojcfljaaAmZ2
import Derived.Test.YtnlhnmlojcfljaaDvCha
import Derived.Test.YtnlhnmlojcfljaaAmY
set_option linter.unusedVariables false
set_option linter.unusedSimpArgs false
namespace Go.Proofs.Ytnlhnmlojcfljaa
open Go.AM Go.ChangeShapes Go.WideShapes Go.ChangeAt Go.RowKit
def c7 : LF := ⟨41, [.tmp 2, .cell true 2 3, .tmp 4], (.seq (.reg [
    ⟨(some 2), .mov (.c (.rv (.one .esl))), none⟩,
    ⟨(some 3), .alloc [(.dat (.val (.int .i64 (0)))), (.dat (.val (.int .i64 (0))))], none⟩,
    ⟨(some 4), .mov (.c (.rv (.one (.dat (.val (.int .i64 (0))))))), none⟩]) (.seq (.reg [
    ⟨(some 10), .mov (.t 0), none⟩,
    ⟨(some 11), .build [(.dat (.val (.int .i64 (0)))), .esl, .esl, (.dat (.val (.string ⟨#[]⟩))), (.dat (.val (.int .i64 (0)))), .esl, (.dat (.val (.int .i64 (0)))), (.dat (.val (.int .i64 (0)))), (.dat (.val (.int .i64 (0))))] [(0, 1, (.c (.rv (.one (.dat (.val (.int .i64 (4)))))))), (4, 1, (.c (.rv (.one (.dat (.val (.int .i64 (-1)))))))), (6, 1, (.c (.rv (.one (.dat (.val (.int .i64 (-1))))))))], none⟩,
    ⟨(some 12), .call (.c (.rv (.one (.fn 25 [])))) [(.t 10), (.t 11)], none⟩,
    ⟨(some 9), .mov (.t 12), none⟩,
    ⟨(some 13), .ext (.t 9) 0, none⟩,
    ⟨(some 14), .ext (.t 9) 1, none⟩,
    ⟨(some 15), .ext (.t 9) 2, none⟩,
    ⟨(some 5), .mov (.t 13), none⟩,
    ⟨(some 6), .mov (.t 14), none⟩,
    ⟨(some 7), .mov (.t 15), none⟩]) (.seq (.seq (.reg [
    ⟨(some 16), .mov (.t 7), none⟩,
    ⟨(some 17), .bin .neq (.t 16) (.c (.rv (.one (.dat (.val (.int .i64 (0))))))), none⟩]) (.cond (.t 17) (.seq (.reg [
    ⟨(some 18), .build [(.dat (.val (.int .i64 (0)))), (.dat (.val (.int .i64 (0))))] [], none⟩,
    ⟨(some 19), .mov (.t 7), none⟩,
    ⟨(some 2), .mov (.c (.rv (.one .esl))), none⟩,
    ⟨none, .store 2 (.t 3) (.t 18), none⟩,
    ⟨(some 4), .mov (.t 19), none⟩]) .ret) .skip)) (.seq (.reg [
    ⟨(some 21), .mov (.t 5), none⟩,
    ⟨(some 22), .mov (.t 6), none⟩,
    ⟨(some 23), .build [(.dat (.val (.int .i64 (0)))), .esl, .esl, (.dat (.val (.string ⟨#[]⟩))), (.dat (.val (.int .i64 (0)))), .esl, (.dat (.val (.int .i64 (0)))), (.dat (.val (.int .i64 (0)))), (.dat (.val (.int .i64 (0))))] [(0, 1, (.c (.rv (.one (.dat (.val (.int .i64 (4)))))))), (4, 1, (.t 22)), (6, 1, (.c (.rv (.one (.dat (.val (.int .i64 (-1))))))))], none⟩,
    ⟨(some 24), .call (.c (.rv (.one (.fn 25 [])))) [(.t 21), (.t 23)], none⟩,
    ⟨(some 20), .mov (.t 24), none⟩,
    ⟨(some 25), .ext (.t 20) 0, none⟩,
    ⟨(some 26), .ext (.t 20) 1, none⟩,
    ⟨(some 27), .ext (.t 20) 2, none⟩,
    ⟨(some 5), .mov (.t 25), none⟩,
    ⟨(some 8), .mov (.t 26), none⟩,
    ⟨(some 7), .mov (.t 27), none⟩]) (.seq (.seq (.reg [
    ⟨(some 28), .mov (.t 7), none⟩,
    ⟨(some 29), .bin .neq (.t 28) (.c (.rv (.one (.dat (.val (.int .i64 (0))))))), none⟩]) (.cond (.t 29) (.seq (.reg [
    ⟨(some 30), .build [(.dat (.val (.int .i64 (0)))), (.dat (.val (.int .i64 (0))))] [], none⟩,
    ⟨(some 31), .mov (.t 7), none⟩,
    ⟨(some 2), .mov (.c (.rv (.one .esl))), none⟩,
    ⟨none, .store 2 (.t 3) (.t 30), none⟩,
    ⟨(some 4), .mov (.t 31), none⟩]) .ret) .skip)) (.seq (.reg [
    ⟨(some 32), .mov (.t 5), none⟩,
    ⟨(some 33), .mov (.t 6), none⟩,
    ⟨(some 34), .mov (.t 8), none⟩,
    ⟨(some 35), .idx 9 (.t 32) (.t 33), none⟩,
    ⟨(some 36), .fadr 4 (.t 35), none⟩,
    ⟨none, .store 1 (.t 36) (.t 34), none⟩]) (.seq (.reg [
    ⟨(some 37), .mov (.t 5), none⟩,
    ⟨(some 38), .mov (.t 6), none⟩,
    ⟨(some 39), .mov (.t 8), none⟩,
    ⟨(some 40), .build [(.dat (.val (.int .i64 (0)))), (.dat (.val (.int .i64 (0))))] [(0, 1, (.t 38)), (1, 1, (.t 39))], none⟩,
    ⟨(some 2), .mov (.t 37), none⟩,
    ⟨none, .store 2 (.t 3) (.t 40), none⟩,
    ⟨(some 4), .mov (.c (.rv (.one (.dat (.val (.int .i64 (0))))))), none⟩]) .ret)))))))⟩
/-! Pair -/
theorem make_at {l : List Obj} {o : Obj} (h : (makeS l o).2.2 = 0) : ∃ k : Nat, (makeS l o).2.1 = k ∧ k < (makeS l o).1.length ∧ (makeS l o).1[k]? = some o ∧ l.length ≤ (makeS l o).1.length ∧ (∀ j, j ≠ k → j < l.length → (makeS l o).1[j]? = l[j]?) := by
  unfold makeS at h ⊢
  split
  · rename_i k hk
    have hkl : k < l.length := (List.findIdx?_eq_some_iff_getElem.1 hk).1
    exact ⟨k, rfl, by simpa using hkl, by simp [hkl], by simp, fun j hj hjl => by simp [List.getElem?_set, Ne.symm hj]⟩
  · rename_i hk
    rw [hk] at h
    simp only at h
    split at h
    · simp at h
    · rename_i hc
      rw [if_neg hc]
      exact ⟨l.length, rfl, by simp, by simp, by simp, fun j hj hjl => by simp [List.getElem?_append_left hjl]⟩
theorem make_fit {l : List Obj} {o : Obj} (hf : fitL l) (ho : o.fit) : fitL (makeS l o).1 := by
  unfold makeS
  split
  · refine ⟨by simpa using hf.1, fun x hx => ?_⟩
    rcases List.mem_or_eq_of_mem_set hx with h | rfl
    · exact hf.2 x h
    · exact ho
  · split
    · exact ⟨by simp, by simp⟩
    · refine ⟨by simp; omega, fun x hx => ?_⟩
      rcases List.mem_append.1 hx with h | h
      · exact hf.2 x h
      · simp at h
        subst h
        exact ho
def endO (p : Int) : Obj := ⟨4, [], [], ⟨#[]⟩, p, [], -1, 0, 0⟩
theorem endO_fit (p : Int) : (endO p).fit := by simp [Obj.fit, endO]
def setPeer (l : List Obj) (k : Nat) (b : Int) : List Obj := match l[k]? with | some o => l.set k { o with peer := b } | none => l
def pairS (l : List Obj) : List Obj × (Int × Int) × Int :=
  if (makeS l (endO (-1))).2.2 ≠ 0 then ([], (0, 0), (makeS l (endO (-1))).2.2)
  else if (makeS (makeS l (endO (-1))).1 (endO (makeS l (endO (-1))).2.1)).2.2 ≠ 0 then ([], (0, 0), (makeS (makeS l (endO (-1))).1 (endO (makeS l (endO (-1))).2.1)).2.2)
  else (setPeer (makeS (makeS l (endO (-1))).1 (endO (makeS l (endO (-1))).2.1)).1 (makeS l (endO (-1))).2.1.toNat (makeS (makeS l (endO (-1))).1 (endO (makeS l (endO (-1))).2.1)).2.1, ((makeS l (endO (-1))).2.1, (makeS (makeS l (endO (-1))).1 (endO (makeS l (endO (-1))).2.1)).2.1), 0)
def twoR (x : Int × Int) : RV := .agg [.dat (.val (.int .i64 x.1)), .dat (.val (.int .i64 x.2))]
theorem l7 : lowF Try.prog Try.f7 = some c7 := by kernel_rfl
theorem endArgs (a b : CV) (p : Int) : ArgsL [a, .rv (.agg [.dat (.val (.int .i64 4)), .esl, .esl, .dat (.val (.string ⟨#[]⟩)), .dat (.val (.int .i64 p)), .esl, .dat (.val (.int .i64 (-1))), .dat (.val (.int .i64 0)), .dat (.val (.int .i64 0))])] [a, (endO p).cv] :=
  .same _ (.agg (.cons (.same _) (.cons (.esl 1) (.cons (.esl 2) (.cons (.same _) (.cons (.same _) (.cons (.esl 4) (.cons (.same _) (.cons (.same _) (.cons (.same _) .nil))))))))) .nil)
set_option maxRecDepth 100000 in
set_option maxHeartbeats 8000000 in
theorem pair_body (l : List Obj) (hf : fitL l) : body Try.prog c7 [objsV l] [] (fun r m => FrzV m r (.tup [objsR (pairS l).1, twoR (pairS l).2.1, iRV (pairS l).2.2])) := by
  refine acall_le (endArgs _ (.junk) _) (make_ok l hf (endO (-1)) ?_)
  have hp : pairS l = if (makeS l (endO (-1))).2.2 ≠ 0 then ([], (0, 0), (makeS l (endO (-1))).2.2)
      else if (makeS (makeS l (endO (-1))).1 (endO (makeS l (endO (-1))).2.1)).2.2 ≠ 0 then ([], (0, 0), (makeS (makeS l (endO (-1))).1 (endO (makeS l (endO (-1))).2.1)).2.2)
      else (setPeer (makeS (makeS l (endO (-1))).1 (endO (makeS l (endO (-1))).2.1)).1 (makeS l (endO (-1))).2.1.toNat (makeS (makeS l (endO (-1))).1 (endO (makeS l (endO (-1))).2.1)).2.1, ((makeS l (endO (-1))).2.1, (makeS (makeS l (endO (-1))).1 (endO (makeS l (endO (-1))).2.1)).2.1), 0) := rfl
  have hfit := make_fit (o := endO (-1)) hf (endO_fit _)
  generalize hx : makeS l (endO (-1)) = x at hp hfit
  obtain ⟨l1, a, e1⟩ := x
  have hfit : fitL l1 := hfit
  refine bB_bne (fun h => ?_) (fun h => ?_)
  · have h : e1 ≠ 0 := h
    rw [hp]
    simp only
    rw [if_pos h]
    exact frz3 (.one (.esl 9)) (FrzR.self rfl)
  · have h : e1 = 0 := h
    subst h
    have hat := make_at (l := l) (o := endO (-1)) (by rw [hx])
    rw [hx] at hat
    obtain ⟨ka, hka, hka2, hka3, hka4, _⟩ := hat
    have hka : a = (ka : Int) := hka
    have hka2 : ka < l1.length := hka2
    subst hka
    simp only [ne_eq, not_true, if_false, Int.toNat_natCast] at hp
    refine acall_le (endArgs _ (.junk) _) (make_row l1 hfit (endO ka) (fun h => ?_) (fun h => ?_))
    · rw [h] at hp
      rw [h, hp]
      exact frz3 (.one (.esl 9)) (FrzR.self rfl)
    · have hat := make_at (l := l1) (o := endO ka) h
      generalize hy : makeS l1 (endO ka) = y at hp hat h
      obtain ⟨l2, b, e2⟩ := y
      have h : e2 = 0 := h
      subst h
      obtain ⟨kb, hkb, hkb2, hkb3, hkb4, _⟩ := hat
      have hkb4 : l1.length ≤ l2.length := hkb4
      have hlt : ka < l2.length := by omega
      have hlen : (dRows (l2.map Obj.enc)).length = l2.length := by simp [dRows]
      refine ok_some (idxZ_nat (k := ka) (by simpa [hlen, lenOf] using hlt)) ?_
      refine ok_some (x := l2[ka].enc.map .dat) (by simpa [addN] using dRows_nth l2 hlt) ?_
      have hset : setN (dRows (l2.map Obj.enc)) (addN 0 ka) (({ l2[ka] with peer := b } : Obj).enc.map .dat) = dRows ((setPeer l2 ka b).map Obj.enc) := by
        rw [setN_eq]
        simp only [setPeer, List.getElem?_eq_getElem hlt]
        rw [← dRows_set]
        simp [addN]
      have hfin : some (Bk.row 9 (setN (dRows (l2.map Obj.enc)) (addN 0 ka) (({ l2[ka] with peer := b } : Obj).enc.map .dat))) = some (Bk.row 9 (dRows ((setPeer l2 ka b).map Obj.enc))) := by rw [hset]
      rw [hp]
      exact frz3 (.one (FrzC.rowD hfin 0 none)) (FrzR.self rfl)
set_option maxRecDepth 100000 in
theorem pair_ok (l : List Obj) (hf : fitL l) {m : Mem} {K : CV → Mem → Prop} (h : K (.tup [objsR (pairS l).1, twoR (pairS l).2.1, iRV (pairS l).2.2]) m) : ACall Try.prog 7 [objsV l] m K :=
  acall_frame (acall_body Try.func7 l7 rfl (Nat.le_of_ble_eq_true rfl) (pair_body l hf)) (by simp [objsV, CV.isD, CC.isD]) fun r m1 hfz => ⟨_, hfz, h⟩

def c10 : LF := ⟨80, [.tmp 6, .tmp 7], (.seq (.reg [
    ⟨(some 5), .box (.t 2), none⟩,
    ⟨(some 6), .mov (.c (.rv (.one .esl))), none⟩,
    ⟨(some 7), .mov (.c (.rv (.one (.dat (.val (.int .i64 (0))))))), none⟩]) (.seq (.seq (.reg [
    ⟨(some 10), .mov (.t 1), none⟩,
    ⟨(some 11), .bin .lss (.t 10) (.c (.rv (.one (.dat (.val (.int .i64 (0))))))), none⟩,
    ⟨(some 12), .mov (.t 11), none⟩,
    ⟨(some 13), .mov (.t 1), (some (12, false))⟩,
    ⟨(some 14), .mov (.t 0), (some (12, false))⟩,
    ⟨(some 15), .len 1 (.t 14), (some (12, false))⟩,
    ⟨(some 16), .bin .geq (.t 13) (.t 15), (some (12, false))⟩,
    ⟨(some 17), .pick (.t 12) (.c (.rv (.one (.dat (.val (.bool true)))))) (.t 16), none⟩,
    ⟨(some 18), .mov (.t 17), none⟩,
    ⟨(some 19), .mov (.t 0), (some (18, false))⟩,
    ⟨(some 20), .mov (.t 1), (some (18, false))⟩,
    ⟨(some 21), .idx 9 (.t 19) (.t 20), (some (18, false))⟩,
    ⟨(some 22), .fadr 0 (.t 21), (some (18, false))⟩,
    ⟨(some 23), .load false 1 (.t 22), (some (18, false))⟩,
    ⟨(some 24), .bin .neq (.t 23) (.c (.rv (.one (.dat (.val (.int .i64 (4))))))), (some (18, false))⟩,
    ⟨(some 25), .pick (.t 18) (.c (.rv (.one (.dat (.val (.bool true)))))) (.t 24), none⟩]) (.cond (.t 25) (.seq (.reg [
    ⟨(some 6), .mov (.c (.rv (.one .esl))), none⟩,
    ⟨(some 7), .mov (.c (.rv (.one (.dat (.val (.int .i64 (8))))))), none⟩]) .ret) .skip)) (.seq (.reg [
    ⟨(some 26), .mov (.t 0), none⟩,
    ⟨(some 27), .mov (.t 1), none⟩,
    ⟨(some 28), .idx 9 (.t 26) (.t 27), none⟩,
    ⟨(some 29), .fadr 4 (.t 28), none⟩,
    ⟨(some 30), .load false 1 (.t 29), none⟩,
    ⟨(some 8), .mov (.t 30), none⟩]) (.seq (.block 0 (.seq (.reg [
    ⟨(some 32), .mov (.t 8), none⟩,
    ⟨(some 33), .bin .lss (.t 32) (.c (.rv (.one (.dat (.val (.int .i64 (0))))))), none⟩,
    ⟨(some 34), .mov (.t 33), none⟩,
    ⟨(some 35), .mov (.t 8), (some (34, false))⟩,
    ⟨(some 36), .mov (.t 0), (some (34, false))⟩,
    ⟨(some 37), .len 1 (.t 36), (some (34, false))⟩,
    ⟨(some 38), .bin .geq (.t 35) (.t 37), (some (34, false))⟩,
    ⟨(some 39), .pick (.t 34) (.c (.rv (.one (.dat (.val (.bool true)))))) (.t 38), none⟩,
    ⟨(some 40), .mov (.t 39), none⟩,
    ⟨(some 41), .mov (.t 0), (some (40, false))⟩,
    ⟨(some 42), .mov (.t 8), (some (40, false))⟩,
    ⟨(some 43), .idx 9 (.t 41) (.t 42), (some (40, false))⟩,
    ⟨(some 44), .fadr 0 (.t 43), (some (40, false))⟩,
    ⟨(some 45), .load false 1 (.t 44), (some (40, false))⟩,
    ⟨(some 46), .bin .neq (.t 45) (.c (.rv (.one (.dat (.val (.int .i64 (4))))))), (some (40, false))⟩,
    ⟨(some 47), .pick (.t 40) (.c (.rv (.one (.dat (.val (.bool true)))))) (.t 46), none⟩,
    ⟨(some 31), .mov (.t 47), none⟩]) (.cond (.t 31) (.seq (.reg [
    ⟨(some 6), .mov (.c (.rv (.one .esl))), none⟩,
    ⟨(some 7), .mov (.c (.rv (.one (.dat (.val (.int .i64 (17))))))), none⟩]) .ret) (.seq (.reg [
    ⟨(some 49), .fadr 0 (.t 5), none⟩,
    ⟨(some 50), .load false 1 (.t 49), none⟩,
    ⟨(some 51), .len 1 (.t 50), none⟩,
    ⟨(some 52), .bin .gtr (.t 51) (.c (.rv (.one (.dat (.val (.int .i64 (60))))))), none⟩,
    ⟨(some 48), .mov (.t 52), none⟩]) (.cond (.t 48) (.seq (.reg [
    ⟨(some 6), .mov (.c (.rv (.one .esl))), none⟩,
    ⟨(some 7), .mov (.c (.rv (.one (.dat (.val (.int .i64 (4))))))), none⟩]) .ret) (.seq (.reg [
    ⟨(some 54), .mov (.t 0), none⟩,
    ⟨(some 55), .mov (.t 8), none⟩,
    ⟨(some 56), .idx 9 (.t 54) (.t 55), none⟩,
    ⟨(some 57), .fadr 5 (.t 56), none⟩,
    ⟨(some 58), .load false 1 (.t 57), none⟩,
    ⟨(some 59), .len 1 (.t 58), none⟩,
    ⟨(some 60), .bin .geq (.t 59) (.c (.rv (.one (.dat (.val (.int .i64 (4))))))), none⟩,
    ⟨(some 53), .mov (.t 60), none⟩]) (.cond (.t 53) (.seq (.reg [
    ⟨(some 6), .mov (.c (.rv (.one .esl))), none⟩,
    ⟨(some 7), .mov (.c (.rv (.one (.dat (.val (.int .i64 (15))))))), none⟩]) .ret) .skip))))))) (.seq (.reg [
    ⟨(some 61), .mov (.t 0), none⟩,
    ⟨(some 62), .call (.c (.rv (.one (.fn 26 [])))) [(.t 61)], none⟩,
    ⟨(some 9), .mov (.t 62), none⟩]) (.seq (.reg [
    ⟨(some 63), .fadr 0 (.t 5), none⟩,
    ⟨(some 64), .load false 1 (.t 63), none⟩,
    ⟨(some 65), .call (.c (.rv (.one (.fn 27 [])))) [(.t 64)], none⟩,
    ⟨(some 66), .fadr 0 (.t 5), none⟩,
    ⟨none, .store 1 (.t 66) (.t 65), none⟩]) (.seq (.draw [
    ⟨(some 67), .mov (.t 9), none⟩,
    ⟨(some 68), .mov (.t 8), none⟩,
    ⟨(some 69), .mov (.t 9), none⟩,
    ⟨(some 70), .mov (.t 8), none⟩,
    ⟨(some 71), .idx 9 (.t 69) (.t 70), none⟩,
    ⟨(some 72), .fadr 5 (.t 71), none⟩,
    ⟨(some 73), .load false 1 (.t 72), none⟩,
    ⟨(some 74), .load true 4 (.t 5), none⟩,
    ⟨(some 75), .bsl 4 [.esl, (.dat (.val (.bool false))), (.dat (.val (.int .i64 (0)))), (.dat (.val (.int .i64 (0))))] 1 [(0, (.t 74))], none⟩,
    ⟨(some 76), .app 4 48 (.t 73) (.t 75), none⟩,
    ⟨(some 77), .idx 9 (.t 67) (.t 68), none⟩,
    ⟨(some 78), .fadr 5 (.t 77), none⟩,
    ⟨none, .store 1 (.t 78) (.t 76), none⟩]
    [(.cons 0 none (.cons 1 none (.cons 2 none (.cons 3 none (.cons 4 none (.cons 5 none (.cons 6 none (.cons 7 none (.cons 8 (some [6, 4]) (.cons 9 (some []) (.cons 10 none (.cons 11 none (.cons 12 (some []) .nil)))))))))))))]) (.seq (.reg [
    ⟨(some 79), .mov (.t 9), none⟩,
    ⟨(some 6), .mov (.t 79), none⟩,
    ⟨(some 7), .mov (.c (.rv (.one (.dat (.val (.int .i64 (0))))))), none⟩]) .ret))))))))⟩
/-! Send -/
def rowC (o : Obj) (c : CC) : List CC := [.dat (.val (.int .i64 o.kind)), .dat (.sl 1 o.data), .dat (.sl 2 o.entries), .dat (.val (.string o.target)), .dat (.val (.int .i64 o.peer)), c, .dat (.val (.int .i64 o.proc)), .dat (.val (.int .i64 o.links)), .dat (.val (.int .i64 o.up))]
theorem rowsO_at {l : List Obj} {p Q : Nat} {q : Obj} (h : l[p]? = some q) : nth (rowsO p Q 0 l) p = some (rowC q (.row Q 4 0 none)) := by
  rw [nth_eq, rowsO_get, h]
  simp [rowO, rowC]
theorem qbO_at {l : List Obj} {p : Nat} {q : Obj} (h : l[p]? = some q) : qbO l p l.length = .row 4 (dRows (q.queue.map Msg.enc)) := by
  have hp := (List.getElem?_eq_some_iff.1 h).1
  have : Nat.blt p l.length = true := by rw [Nat.blt_eq]; exact hp
  simp only [qbO, this, quO, h]
/-- the row as data, when its queue is -/
theorem frzRows {m : Mem} {Z : Nat → Prop} {id p Q : Nat} {l : List Obj} {q : Obj} {c : CC} (hz : Z id) (hb : m[id]? = some (.row 9 (setN (rowsO p Q 0 l) p (rowC q c)))) (hc : FrzD m Z (some id) c (.sl 4 (q.queue.map Msg.enc))) :
    FrzD m Z none (.row id 9 0 none) (.sl 9 ((l.set p q).map Obj.enc)) := by
  have key : ∀ (i : Nat) cs es, (setN (rowsO p Q 0 l) p (rowC q c))[i]? = some cs → ((l.set p q).map Obj.enc)[i]? = some es → (cs = rowC q c ∧ es = q.enc) ∨ ∃ o : Obj, cs = o.enc.map .dat ∧ es = o.enc := by
    intro i cs es h1 h2
    rw [setN_eq, List.getElem?_set] at h1
    rw [List.getElem?_map, List.getElem?_set] at h2
    by_cases hi : p = i
    · subst hi
      rw [if_pos rfl] at h1 h2
      split at h1
      · cases h1
        split at h2
        · cases h2
          exact .inl ⟨rfl, rfl⟩
        · cases h2
      · cases h1
    · rw [if_neg hi] at h1 h2
      rw [rowsO_get] at h1
      cases ho : l[i]? with
      | none => rw [ho] at h1; cases h1
      | some o =>
        rw [ho] at h1 h2
        cases h1
        cases h2
        refine .inr ⟨o, ?_, rfl⟩
        simp only [rowO, Nat.zero_add, if_neg (Ne.symm hi)]
        rfl
  refine .row id 9 0 none _ ((l.set p q).map Obj.enc) hz hb (by rw [setN_eq]; simp [rowsO_len]) (fun i cs es h1 h2 => ?_) (fun i cs es j cc d h1 h2 h3 h4 => ?_)
  · rcases key i cs es h1 h2 with ⟨rfl, rfl⟩ | ⟨o, rfl, rfl⟩
    · rfl
    · simp
  · rcases key i cs es h1 h2 with ⟨rfl, rfl⟩ | ⟨o, rfl, rfl⟩
    · match j, h3, h4 with
      | 0, h3, h4 => cases h3; cases h4; exact .dat _
      | 1, h3, h4 => cases h3; cases h4; exact .dat _
      | 2, h3, h4 => cases h3; cases h4; exact .dat _
      | 3, h3, h4 => cases h3; cases h4; exact .dat _
      | 4, h3, h4 => cases h3; cases h4; exact .dat _
      | 5, h3, h4 => cases h3; cases h4; exact hc
      | 6, h3, h4 => cases h3; cases h4; exact .dat _
      | 7, h3, h4 => cases h3; cases h4; exact .dat _
      | 8, h3, h4 => cases h3; cases h4; exact .dat _
      | n + 9, h3, h4 => simp [rowC] at h3
    · rw [List.getElem?_map, h4] at h3
      cases h3
      exact .dat _
def sendS (l : List Obj) (e : Int) (m : Msg) : List Obj × Int :=
  if e < 0 ∨ e ≥ l.length then ([], 8) else match l[e.toNat]? with
  | none => ([], 8)
  | some o => if o.kind ≠ 4 then ([], 8) else if o.peer < 0 ∨ o.peer ≥ l.length then ([], 17) else match l[o.peer.toNat]? with
    | none => ([], 17)
    | some q => if q.kind ≠ 4 then ([], 17) else if m.data.length > 60 then ([], 4) else if q.queue.length ≥ 4 then ([], 15) else (l.set o.peer.toNat { q with queue := q.queue ++ [m] }, 0)
def twoV (l : List Obj) (e : Int) : CV := .tup [objsR l, iRV e]
theorem frz2 {m : Mem} {a b : RV} {x : Int} (h : FrzR m a b) : FrzV m (.tup [a, iRV x]) (.tup [b, iRV x]) := by
  refine .tup rfl fun i r r' h1 h2 => ?_
  match i, h1, h2 with
  | 0, h1, h2 => cases h1; cases h2; exact h
  | 1, h1, h2 => cases h1; cases h2; exact FrzR.self rfl
theorem vw2 {σ : Nat → Nat} {m : Mem} {Z : Nat → Prop} {a b : RV} {x : Int} (h : VwR σ m Z a b) : VwV σ m Z (.tup [a, iRV x]) (.tup [b, iRV x]) := by
  refine .tup rfl fun i r r' h1 h2 => ?_
  match i, h1, h2 with
  | 0, h1, h2 => cases h1; cases h2; exact h
  | 1, h1, h2 => cases h1; cases h2; exact .one (.ren (.dat _))
theorem l10 : lowF Try.prog Try.f10 = some c10 := by kernel_rfl
set_option maxRecDepth 100000 in
set_option maxHeartbeats 16000000 in
theorem send_body (l : List Obj) (hf : fitL l) (e : Int) (msg : Msg) (hmf : msg.data.length ≤ 4194304) : body Try.prog c10 [objsV l, vInt .i64 e, msg.cv] [] (fun r m => ∃ r' m', View 0 ⟨[r], m⟩ ⟨[r'], m'⟩ ∧ r' = twoV (sendS l e msg).1 (sendS l e msg).2 ∧ m' = []) := by
  have hlm : (((l.map Obj.enc).length : Nat) : Int) = (l.length : Int) := by simp
  have bad : ∀ (x : Int), sendS l e msg = ([], x) → ∃ r' m', View 0 ⟨[CV.tup [.one .esl, iRV x]], [.var (msg.enc.map .dat)]⟩ ⟨[r'], m'⟩ ∧ r' = twoV (sendS l e msg).1 (sendS l e msg).2 ∧ m' = [] := by
    intro x hx
    refine ⟨_, _, View.of 1 [] [] rfl rfl rfl rfl rfl rfl (.put (vw2 (b := objsR []) (.one (.frz (.esl 9)))) .nil) (.nil _), ?_, rfl⟩
    rw [hx]
    rfl
  refine bB_dec (fun h => ?_) (fun h1 => ?_)
  · exact bad 8 (by rw [sendS, if_pos (.inl h)])
  refine bB_dec (fun h => ?_) (fun h2 => ?_)
  · exact bad 8 (by rw [sendS, if_pos (.inr (by rw [← hlm]; exact h))])
  have h2 : ¬ e ≥ (l.length : Int) := by rw [← hlm]; exact h2
  obtain ⟨k, rfl⟩ : ∃ k : Nat, e = k := ⟨e.toNat, by omega⟩
  have hk : k < l.length := by omega
  have hi := List.getElem?_eq_getElem hk
  have hS1 : sendS l (k : Int) msg = if l[k].kind ≠ 4 then (([], 8) : List Obj × Int) else if l[k].peer < 0 ∨ l[k].peer ≥ l.length then ([], 17) else match l[l[k].peer.toNat]? with
      | none => ([], 17)
      | some q => if q.kind ≠ 4 then ([], 17) else if msg.data.length > 60 then ([], 4) else if q.queue.length ≥ 4 then ([], 15) else (l.set l[k].peer.toNat { q with queue := q.queue ++ [msg] }, 0) := by
    rw [sendS, if_neg (by omega), Int.toNat_natCast, hi]
  have hg : getZ (l.map Obj.enc) (k : Nat) = some (l[k].enc) := by
    rw [getZ_nat, List.getElem?_map, hi]; rfl
  generalize l[k] = o at hS1 hg
  obtain ⟨kind, data, entries, target, peer, queue, proc, links, up⟩ := o
  have hg : getZ (l.map Obj.enc) (k : Nat) = some [.val (.int .i64 kind), .sl 1 data, .sl 2 entries, .val (.string target), .val (.int .i64 peer), .sl 4 (queue.map Msg.enc), .val (.int .i64 proc), .val (.int .i64 links), .val (.int .i64 up)] := hg
  refine ok_some hg ?_
  refine bB_bne (fun h => ?_) (fun h3 => ?_)
  · exact bad 8 (by rw [hS1, if_pos h])
  have h3 : kind = 4 := h3
  rw [if_neg (by simpa using h3)] at hS1
  simp only at hS1
  refine ok_some hg ?_
  refine bB_dec (fun h => ?_) (fun h4 => ?_)
  · exact bad 17 (by rw [hS1, if_pos (.inl h)])
  refine bB_dec (fun h => ?_) (fun h5 => ?_)
  · exact bad 17 (by rw [hS1, if_pos (.inr (by rw [← hlm]; exact h))])
  have h5 : ¬ peer ≥ (l.length : Int) := by rw [← hlm]; exact h5
  have h4 : ¬ peer < 0 := h4
  obtain ⟨p, rfl⟩ : ∃ p : Nat, peer = p := ⟨peer.toNat, by omega⟩
  have hp : p < l.length := by omega
  have hpi := List.getElem?_eq_getElem hp
  rw [if_neg (by omega), Int.toNat_natCast, hpi] at hS1
  simp only at hS1
  have hg2 : getZ (l.map Obj.enc) (p : Nat) = some (l[p].enc) := by
    rw [getZ_nat, List.getElem?_map, hpi]; rfl
  have hqf := hf.2 _ (List.getElem_mem hp)
  generalize l[p] = q at hS1 hg2 hpi hqf
  have hg2 : getZ (l.map Obj.enc) (p : Nat) = some [.val (.int .i64 q.kind), .sl 1 q.data, .sl 2 q.entries, .val (.string q.target), .val (.int .i64 q.peer), .sl 4 (q.queue.map Msg.enc), .val (.int .i64 q.proc), .val (.int .i64 q.links), .val (.int .i64 q.up)] := hg2
  refine ok_some hg2 ?_
  refine bB_bne (fun h => ?_) (fun h6 => ?_)
  · exact bad 17 (by rw [hS1, if_pos h])
  rw [if_neg (by simpa using h6)] at hS1
  refine bB_dec (fun h => ?_) (fun h7 => ?_)
  · exact bad 4 (by rw [hS1, if_pos (by
      have h : ((msg.data.length : Nat) : Int) > 60 := h
      omega)])
  rw [if_neg (by
      have h : ¬ ((msg.data.length : Nat) : Int) > 60 := h7
      omega)] at hS1
  refine ok_some hg2 ?_
  refine bB_dec (fun h => ?_) (fun h8 => ?_)
  · exact bad 15 (by rw [hS1, if_pos (by
      have h : (((q.queue.map Msg.enc).length : Nat) : Int) ≥ 4 := h
      rw [List.length_map] at h
      omega)])
  have h8 : ¬ q.queue.length ≥ 4 := by
    have h : ¬ (((q.queue.map Msg.enc).length : Nat) : Int) ≥ 4 := h8
    rw [List.length_map] at h
    omega
  rw [if_neg h8] at hS1
  refine own_ok l hf p ?_
  rw [qbO_at hpi]
  refine bclone_ok msg.data hmf ?_
  have hidx : idxZ (p : Int) (lenOf (rowsO p 2 0 l).length 0 none) = some p := idxZ_nat (by simp [lenOf, rowsO_len]; omega)
  have hrow := rowsO_at (Q := 2) hpi
  refine ok_some hidx ?_
  refine ok_some hrow ?_
  refine ⟨⟨ok_some hrow rfl, ok_some hidx rfl, trivial⟩, ?_⟩
  refine ⟨?_, ?_⟩
  · show ((dRows (q.queue.map Msg.enc)).length + 1) * 48 ≤ _
    simp [dRows]; omega
  refine ⟨trivial, ?_⟩
  refine ok_some hidx ?_
  refine ok_some hrow ?_
  refine ⟨trivial, ?_⟩
  refine ⟨twoV (l.set p { q with queue := q.queue ++ [msg] }) 0, [], View.of 5 [] [1, 4] rfl rfl rfl rfl rfl rfl (.put (vw2 (.one (.frz ?_))) .nil) (.nil _), ?_, rfl⟩
  · refine frzRows (p := p) (Q := 2) (l := l) (q := { q with queue := q.queue ++ [msg] }) (c := .row 4 4 0 none) rfl (by rw [← nth_eq]; rfl) ?_
    refine FrzD.rowD (Z := fun k => memN [1, 4] k = true) (ds := (q.queue ++ [msg]).map Msg.enc) rfl ?_ 0 none
    rw [← nth_eq, List.map_append, dRows_append]
    rfl
  · rw [hS1]
set_option maxRecDepth 100000 in
theorem send_ok (l : List Obj) (hf : fitL l) (e : Int) (msg : Msg) (hmf : msg.data.length ≤ 4194304) {m : Mem} {K : CV → Mem → Prop} (h : K (twoV (sendS l e msg).1 (sendS l e msg).2) m) : ACall Try.prog 10 [objsV l, vInt .i64 e, msg.cv] m K := by
  refine acall_frame (K0 := fun r m => r = twoV (sendS l e msg).1 (sendS l e msg).2 ∧ m = []) (acall_view (acall_body Try.func10 l10 rfl (Nat.le_of_ble_eq_true rfl) (send_body l hf e msg hmf)) fun r m1 ⟨r', m', hv, hp⟩ => ⟨r', m', hv, hp⟩) (by simp [objsV, vInt, Msg.cv, CV.isD, CC.isD, RV.isD]) fun r m1 hr => ?_
  obtain ⟨rfl, rfl⟩ := hr
  exact ⟨_, FrzV.self rfl, h⟩

def c29 : LF := ⟨33, [.tmp 6], (.seq (.reg [
    ⟨(some 6), .mov (.c (.rv (.one .esl))), none⟩]) (.seq (.reg [
    ⟨(some 8), .mov (.t 0), none⟩,
    ⟨(some 9), .mov (.t 1), none⟩,
    ⟨(some 10), .mov (.t 2), none⟩,
    ⟨(some 11), .mov (.t 0), none⟩,
    ⟨(some 12), .len 1 (.t 11), none⟩,
    ⟨(some 13), .slc 4 (.t 8) (some (.t 9)) (some (.t 10)) (some (.t 12)), none⟩]) (.seq (.seq (.reg [
    ⟨(some 14), .mov (.t 1), none⟩,
    ⟨(some 15), .mov (.t 2), none⟩,
    ⟨(some 16), .bin .eql (.t 14) (.t 15), none⟩]) (.cond (.t 16) (.seq (.reg [
    ⟨(some 17), .mov (.t 0), none⟩,
    ⟨(some 6), .mov (.t 17), none⟩]) .ret) .skip)) (.seq (.reg [
    ⟨(some 18), .mov (.t 0), none⟩,
    ⟨(some 19), .len 1 (.t 18), none⟩,
    ⟨(some 7), .mov (.t 19), none⟩]) (.seq (.draw [
    ⟨(some 20), .mov (.t 0), none⟩,
    ⟨(some 21), .mov (.t 1), none⟩,
    ⟨(some 22), .slc 4 (.t 20) none (some (.t 21)) none, none⟩,
    ⟨(some 23), .mov (.t 0), none⟩,
    ⟨(some 24), .mov (.t 2), none⟩,
    ⟨(some 25), .slc 4 (.t 23) (some (.t 24)) none none, none⟩,
    ⟨(some 26), .app 4 48 (.t 22) (.t 25), none⟩,
    ⟨(some 0), .mov (.t 26), none⟩]
    [(.cons 0 none (.cons 1 none (.cons 2 none (.cons 3 none (.cons 4 none (.cons 5 none (.cons 6 (some []) (.cons 7 none .nil))))))))]) (.seq (.reg [
    ⟨(some 27), .mov (.t 0), none⟩,
    ⟨(some 28), .mov (.t 0), none⟩,
    ⟨(some 29), .len 1 (.t 28), none⟩,
    ⟨(some 30), .mov (.t 7), none⟩,
    ⟨(some 31), .slc 4 (.t 27) (some (.t 29)) (some (.t 30)) none, none⟩,
    ⟨none, .clr 4 [.esl, (.dat (.val (.bool false))), (.dat (.val (.int .i64 (0)))), (.dat (.val (.int .i64 (0))))] (.t 31), none⟩]) (.seq (.reg [
    ⟨(some 32), .mov (.t 0), none⟩,
    ⟨(some 6), .mov (.t 32), none⟩]) .ret)))))))⟩
/-! Delete of the first, Recv -/
def zeroM : List CC := [.esl, .dat (.val (.bool false)), .dat (.val (.int .i64 0)), .dat (.val (.int .i64 0))]
theorem noOwnRows_dRows : ∀ ds : List (List Dt), noOwnRows (dRows ds) = true
  | [] => rfl
  | d :: r => by
    have h1 : ∀ e : List Dt, noOwnL (e.map CC.dat) = true := by
      intro e
      induction e with
      | nil => rfl
      | cons x e ih => simpa [noOwnL, CC.noOwn] using ih
    have := noOwnRows_dRows r
    simp only [dRows, List.map_cons, noOwnRows] at this ⊢
    rw [h1, this]
    rfl
theorem l29 : lowF Try.prog Try.f29 = some c29 := by kernel_rfl
def delRows (x : Msg) (r : List Msg) : List (List CC) := dRows (r.map Msg.enc) ++ [zeroM]
set_option maxRecDepth 100000 in
set_option maxHeartbeats 8000000 in
theorem del_body (x : Msg) (r : List Msg) (hl : r.length ≤ 4194303) : body Try.prog c29 [.rv (.one (.row 0 4 0 none)), vInt .i64 0, vInt .i64 1] [.row 4 (dRows ((x :: r).map Msg.enc))] (fun v m => v = .rv (.one (.row 0 4 0 (some r.length))) ∧ m = [.row 4 (delRows x r)]) := by
  have hlen : (dRows ((x :: r).map Msg.enc)).length = r.length + 1 := by simp [dRows]
  have hdrop : (dRows ((x :: r).map Msg.enc)).drop 1 = dRows (r.map Msg.enc) := rfl
  generalize dRows ((x :: r).map Msg.enc) = D at hlen hdrop
  have hL : lenOf D.length 0 none = r.length + 1 := by rw [lenOf_eq, hlen]; rfl
  have hE : subL D 1 (some (r.length + 1)) = dRows (r.map Msg.enc) := by
    rw [subL_eq]
    simp only
    rw [← hlen, List.take_length, hdrop]
  have hEl : (dRows (r.map Msg.enc)).length = r.length := by simp [dRows]
  refine bB_yes ?_ ?_
  · show (Nat.ble 0 1 && (Nat.ble 1 (lenOf D.length 0 none) && Nat.ble (lenOf D.length 0 none) (subL D 0 none).length)) = true
    rw [hL]
    simp [subL, hlen, Nat.ble_eq]
  rw [hL]
  refine bB_yes ?_ ?_
  · show (Nat.ble 1 (lenOf D.length 0 none) && Nat.ble (lenOf D.length 0 none) (D.length - 0)) = true
    rw [hL, hlen]
    simp [Nat.ble_eq]
  rw [hL]
  refine bB_yes ?_ ?_
  · show (Nat.beq 0 0 && (Nat.beq 4 4 && (Nat.beq 4 4 && (Nat.ble 1 D.length && (Nat.ble (0 + (subL D 1 (some (r.length + 1))).length) D.length && noOwnRows (subL D 1 (some (r.length + 1)))))))) = true
    rw [hE, noOwnRows_dRows, hEl, hlen]
    simp [Nat.ble_eq]
  refine ⟨?_, ?_⟩
  · rw [hlen]; omega
  refine ⟨trivial, ?_⟩
  have hsp : (splice D 0 (dRows (r.map Msg.enc))).length = r.length + 1 := by rw [splice_len (by rw [hEl, hlen]; omega), hlen]
  refine bB_yes ?_ ?_
  · simp only [addN_eq, Nat.zero_add, hE, hEl, lenOf_eq, Option.getD_some, Nat.sub_zero, hsp]
    simp [Nat.ble_eq]
  refine bB_yes ?_ ?_
  · simp only [addN_eq, Nat.zero_add, hE, hEl, lenOf_eq, Option.getD_some, Nat.sub_zero, hsp, hiOf]
    simp [Nat.ble_eq]
  refine bB_yes ?_ ?_
  · simp only [addN_eq, Nat.zero_add, hE, hEl, lenOf_eq, Option.getD_some, Nat.sub_zero, hsp, hiOf]
    simp [Nat.blt_eq]
  have hfin : splice (splice D 0 (dRows (r.map Msg.enc))) r.length (repl 1 zeroM) = delRows x r := by
    have h1 : splice D 0 (dRows (r.map Msg.enc)) = dRows (r.map Msg.enc) ++ D.drop r.length := by
      simp [splice, hEl]
    rw [h1]
    simp only [splice, repl_eq, delRows]
    rw [List.take_append_of_le_length (by rw [hEl]; exact Nat.le_refl _), List.take_of_length_le (by rw [hEl]; exact Nat.le_refl _)]
    congr 1
    have : (dRows (r.map Msg.enc) ++ D.drop r.length).length = r.length + 1 := by simp [hEl, hlen]
    rw [List.drop_of_length_le (by rw [this]; simp)]
    rfl
  refine ⟨?_, ?_⟩
  · show CV.rv (.one (.row 0 4 0 (some (0 + (subL D (addN 0 1) (some (addN 0 (r.length + 1)))).length)))) = _
    simp only [addN_eq, Nat.zero_add, hE, hEl]
  · rw [← hfin]
    show [Bk.row 4 (splice (splice D 0 (subL D (addN 0 1) (some (addN 0 (r.length + 1))))) _ (repl (_ - _) zeroM))] = _
    simp only [addN_eq, Nat.zero_add, hE, hEl, lenOf_eq, Option.getD_some, Nat.sub_zero, hsp, hiOf, Nat.add_sub_cancel_left]
set_option maxRecDepth 100000 in
/-- a queue's first goes -/
theorem del_ok (x : Msg) (r : List Msg) (hl : r.length ≤ 4194303) {m : Mem} {K : CV → Mem → Prop} (id : Nat) (hb : nth m id = some (.row 4 (dRows ((x :: r).map Msg.enc)))) (h : K (.rv (.one (.row id 4 0 (some r.length)))) (setN m id (.row 4 (delRows x r)))) :
    ACall Try.prog 29 [.rv (.one (.row id 4 0 none)), vInt .i64 0, vInt .i64 1] m K := by
  have hid : id < m.length := by
    rw [nth_eq] at hb
    exact (List.getElem?_eq_some_iff.1 hb).1
  refine acall_borrow [id] m.length rfl rfl rfl (by simp [allLt, hid]) (args0 := [.rv (.one (.row 0 4 0 none)), vInt .i64 0, vInt .i64 1]) rfl (fun i b' hi => ?_) (acall_body Try.func29 l29 rfl (Nat.le_of_ble_eq_true rfl) (del_body x r hl)) (fun r1 m1 hr => ?_)
  · cases i with
    | zero =>
      simp at hi
      subst hi
      refine .inr ⟨fun h => h, _, ?_, .rowDE rfl⟩
      rw [nth_eq] at hb
      exact hb
    | succ i => simp at hi
  · obtain ⟨rfl, rfl⟩ := hr
    refine ⟨Nat.le_refl _, ?_⟩
    have hren : (Bk.row 4 (delRows x r)).ren (sg [id] m.length) = .row 4 (delRows x r) := by
      simp only [Bk.ren, delRows, List.map_append, dRows_ren]
      rfl
    show K (.rv (.one (.row id 4 0 (some r.length)))) (weave m [id] [(Bk.row 4 (delRows x r)).ren (sg [id] m.length)])
    rw [hren]
    simp only [weave, app2_eq, List.append_nil]
    exact h

def c12 : LF := ⟨78, [.tmp 4, .cell true 4 5, .tmp 6], (.seq (.reg [
    ⟨(some 4), .mov (.c (.rv (.one .esl))), none⟩,
    ⟨(some 5), .alloc [.esl, (.dat (.val (.bool false))), (.dat (.val (.int .i64 (0)))), (.dat (.val (.int .i64 (0))))], none⟩,
    ⟨(some 6), .mov (.c (.rv (.one (.dat (.val (.int .i64 (0))))))), none⟩]) (.seq (.seq (.reg [
    ⟨(some 10), .mov (.t 1), none⟩,
    ⟨(some 11), .bin .lss (.t 10) (.c (.rv (.one (.dat (.val (.int .i64 (0))))))), none⟩,
    ⟨(some 12), .mov (.t 11), none⟩,
    ⟨(some 13), .mov (.t 1), (some (12, false))⟩,
    ⟨(some 14), .mov (.t 0), (some (12, false))⟩,
    ⟨(some 15), .len 1 (.t 14), (some (12, false))⟩,
    ⟨(some 16), .bin .geq (.t 13) (.t 15), (some (12, false))⟩,
    ⟨(some 17), .pick (.t 12) (.c (.rv (.one (.dat (.val (.bool true)))))) (.t 16), none⟩,
    ⟨(some 18), .mov (.t 17), none⟩,
    ⟨(some 19), .mov (.t 0), (some (18, false))⟩,
    ⟨(some 20), .mov (.t 1), (some (18, false))⟩,
    ⟨(some 21), .idx 9 (.t 19) (.t 20), (some (18, false))⟩,
    ⟨(some 22), .fadr 0 (.t 21), (some (18, false))⟩,
    ⟨(some 23), .load false 1 (.t 22), (some (18, false))⟩,
    ⟨(some 24), .bin .neq (.t 23) (.c (.rv (.one (.dat (.val (.int .i64 (4))))))), (some (18, false))⟩,
    ⟨(some 25), .pick (.t 18) (.c (.rv (.one (.dat (.val (.bool true)))))) (.t 24), none⟩]) (.cond (.t 25) (.seq (.reg [
    ⟨(some 26), .build [.esl, (.dat (.val (.bool false))), (.dat (.val (.int .i64 (0)))), (.dat (.val (.int .i64 (0))))] [], none⟩,
    ⟨(some 4), .mov (.c (.rv (.one .esl))), none⟩,
    ⟨none, .store 4 (.t 5) (.t 26), none⟩,
    ⟨(some 6), .mov (.c (.rv (.one (.dat (.val (.int .i64 (8))))))), none⟩]) .ret) .skip)) (.seq (.seq (.reg [
    ⟨(some 27), .mov (.t 0), none⟩,
    ⟨(some 28), .mov (.t 1), none⟩,
    ⟨(some 29), .idx 9 (.t 27) (.t 28), none⟩,
    ⟨(some 30), .fadr 5 (.t 29), none⟩,
    ⟨(some 31), .load false 1 (.t 30), none⟩,
    ⟨(some 32), .len 1 (.t 31), none⟩,
    ⟨(some 33), .bin .eql (.t 32) (.c (.rv (.one (.dat (.val (.int .i64 (0))))))), none⟩]) (.cond (.t 33) (.seq (.seq (.reg [
    ⟨(some 34), .mov (.t 0), none⟩,
    ⟨(some 35), .mov (.t 1), none⟩,
    ⟨(some 36), .idx 9 (.t 34) (.t 35), none⟩,
    ⟨(some 37), .fadr 4 (.t 36), none⟩,
    ⟨(some 38), .load false 1 (.t 37), none⟩,
    ⟨(some 7), .mov (.t 38), none⟩]) (.seq (.reg [
    ⟨(some 39), .mov (.t 7), none⟩,
    ⟨(some 40), .bin .lss (.t 39) (.c (.rv (.one (.dat (.val (.int .i64 (0))))))), none⟩,
    ⟨(some 41), .mov (.t 40), none⟩,
    ⟨(some 42), .mov (.t 7), (some (41, false))⟩,
    ⟨(some 43), .mov (.t 0), (some (41, false))⟩,
    ⟨(some 44), .len 1 (.t 43), (some (41, false))⟩,
    ⟨(some 45), .bin .geq (.t 42) (.t 44), (some (41, false))⟩,
    ⟨(some 46), .pick (.t 41) (.c (.rv (.one (.dat (.val (.bool true)))))) (.t 45), none⟩,
    ⟨(some 47), .mov (.t 46), none⟩,
    ⟨(some 48), .mov (.t 0), (some (47, false))⟩,
    ⟨(some 49), .mov (.t 7), (some (47, false))⟩,
    ⟨(some 50), .idx 9 (.t 48) (.t 49), (some (47, false))⟩,
    ⟨(some 51), .fadr 0 (.t 50), (some (47, false))⟩,
    ⟨(some 52), .load false 1 (.t 51), (some (47, false))⟩,
    ⟨(some 53), .bin .neq (.t 52) (.c (.rv (.one (.dat (.val (.int .i64 (4))))))), (some (47, false))⟩,
    ⟨(some 54), .pick (.t 47) (.c (.rv (.one (.dat (.val (.bool true)))))) (.t 53), none⟩]) (.cond (.t 54) (.seq (.reg [
    ⟨(some 55), .build [.esl, (.dat (.val (.bool false))), (.dat (.val (.int .i64 (0)))), (.dat (.val (.int .i64 (0))))] [], none⟩,
    ⟨(some 4), .mov (.c (.rv (.one .esl))), none⟩,
    ⟨none, .store 4 (.t 5) (.t 55), none⟩,
    ⟨(some 6), .mov (.c (.rv (.one (.dat (.val (.int .i64 (17))))))), none⟩]) .ret) .skip))) (.seq (.reg [
    ⟨(some 56), .build [.esl, (.dat (.val (.bool false))), (.dat (.val (.int .i64 (0)))), (.dat (.val (.int .i64 (0))))] [], none⟩,
    ⟨(some 4), .mov (.c (.rv (.one .esl))), none⟩,
    ⟨none, .store 4 (.t 5) (.t 56), none⟩,
    ⟨(some 6), .mov (.c (.rv (.one (.dat (.val (.int .i64 (16))))))), none⟩]) .ret)) .skip)) (.seq (.reg [
    ⟨(some 57), .mov (.t 0), none⟩,
    ⟨(some 58), .call (.c (.rv (.one (.fn 26 [])))) [(.t 57)], none⟩,
    ⟨(some 8), .mov (.t 58), none⟩]) (.seq (.reg [
    ⟨(some 59), .mov (.t 8), none⟩,
    ⟨(some 60), .mov (.t 1), none⟩,
    ⟨(some 61), .idx 9 (.t 59) (.t 60), none⟩,
    ⟨(some 62), .fadr 5 (.t 61), none⟩,
    ⟨(some 63), .load false 1 (.t 62), none⟩,
    ⟨(some 64), .idx 4 (.t 63) (.c (.rv (.one (.dat (.val (.int .i64 (0))))))), none⟩,
    ⟨(some 65), .load true 4 (.t 64), none⟩,
    ⟨(some 9), .alloc [.esl, (.dat (.val (.bool false))), (.dat (.val (.int .i64 (0)))), (.dat (.val (.int .i64 (0))))], none⟩,
    ⟨none, .store 4 (.t 9) (.t 65), none⟩]) (.seq (.reg [
    ⟨(some 66), .mov (.t 8), none⟩,
    ⟨(some 67), .mov (.t 1), none⟩,
    ⟨(some 68), .mov (.t 8), none⟩,
    ⟨(some 69), .mov (.t 1), none⟩,
    ⟨(some 70), .idx 9 (.t 68) (.t 69), none⟩,
    ⟨(some 71), .fadr 5 (.t 70), none⟩,
    ⟨(some 72), .load false 1 (.t 71), none⟩,
    ⟨(some 73), .call (.c (.rv (.one (.fn 29 [])))) [(.t 72), (.c (.rv (.one (.dat (.val (.int .i64 (0))))))), (.c (.rv (.one (.dat (.val (.int .i64 (1)))))))], none⟩,
    ⟨(some 74), .idx 9 (.t 66) (.t 67), none⟩,
    ⟨(some 75), .fadr 5 (.t 74), none⟩,
    ⟨none, .store 1 (.t 75) (.t 73), none⟩]) (.seq (.draw [
    ⟨(some 76), .mov (.t 8), none⟩,
    ⟨(some 77), .load true 4 (.t 9), none⟩,
    ⟨(some 4), .mov (.t 76), none⟩,
    ⟨none, .store 4 (.t 5) (.t 77), none⟩,
    ⟨(some 6), .mov (.c (.rv (.one (.dat (.val (.int .i64 (0))))))), none⟩]
    [(.cons 0 none (.cons 1 none (.cons 2 none (.cons 3 (some []) (.cons 4 none .nil)))))]) .ret)))))))⟩
/-! Recv -/
def msgZ : Msg := ⟨[], false, 0, 0⟩
def Msg.rv (m : Msg) : RV := .agg (m.enc.map .dat)
def recvS (l : List Obj) (e : Int) : List Obj × Msg × Int :=
  if e < 0 ∨ e ≥ l.length then ([], msgZ, 8) else match l[e.toNat]? with
  | none => ([], msgZ, 8)
  | some o => if o.kind ≠ 4 then ([], msgZ, 8) else match o.queue with
    | [] => if o.peer < 0 ∨ o.peer ≥ l.length then ([], msgZ, 17) else match l[o.peer.toNat]? with
      | none => ([], msgZ, 17)
      | some q => if q.kind ≠ 4 then ([], msgZ, 17) else ([], msgZ, 16)
    | x :: r => (l.set e.toNat { o with queue := r }, x, 0)
def threeV (x : List Obj × Msg × Int) : CV := .tup [objsR x.1, x.2.1.rv, iRV x.2.2]
theorem vw3 {σ : Nat → Nat} {m : Mem} {Z : Nat → Prop} {a b c d : RV} {x : Int} (h : VwR σ m Z a b) (hc : VwR σ m Z c d) : VwV σ m Z (.tup [a, c, iRV x]) (.tup [b, d, iRV x]) := by
  refine .tup rfl fun i r r' h1 h2 => ?_
  match i, h1, h2 with
  | 0, h1, h2 => cases h1; cases h2; exact h
  | 1, h1, h2 => cases h1; cases h2; exact hc
  | 2, h1, h2 => cases h1; cases h2; exact .one (.ren (.dat _))
theorem vwZ {σ : Nat → Nat} {m : Mem} {Z : Nat → Prop} : VwR σ m Z (.agg zeroM) msgZ.rv := by
  refine .agg rfl fun i c c' h1 h2 => ?_
  match i, h1, h2 with
  | 0, h1, h2 => cases h1; cases h2; exact .frz (.esl 1)
  | 1, h1, h2 => cases h1; cases h2; exact .ren (.dat _)
  | 2, h1, h2 => cases h1; cases h2; exact .ren (.dat _)
  | 3, h1, h2 => cases h1; cases h2; exact .ren (.dat _)
  | n + 4, h1, h2 => simp [zeroM] at h1
theorem vwMsg {σ : Nat → Nat} {m : Mem} {Z : Nat → Prop} (x : Msg) : VwR σ m Z (.agg (x.enc.map .dat)) x.rv := by
  refine .agg rfl fun i c c' h1 h2 => ?_
  rw [h1] at h2
  cases h2
  rw [List.getElem?_map] at h1
  cases hd : x.enc[i]? with
  | none => rw [hd] at h1; cases h1
  | some d =>
    rw [hd] at h1
    cases h1
    exact .ren (.dat d)
theorem frzDel {m : Mem} {Z : Nat → Prop} {p : Option Nat} {id : Nat} {x : Msg} {r : List Msg} (hz : Z id) (hb : m[id]? = some (.row 4 (delRows x r))) : FrzD m Z p (.row id 4 0 (some r.length)) (.sl 4 (r.map Msg.enc)) := by
  have h := FrzD.row (m := m) (Z := Z) (p := p) id 4 0 (some r.length) (delRows x r) (r.map Msg.enc ++ [msgZ.enc]) hz hb (by simp [delRows, dRows]) (fun i cs es h1 h2 => ?_) (fun i cs es j c d h1 h2 h3 h4 => ?_)
  · have : subL (r.map Msg.enc ++ [msgZ.enc]) 0 (some r.length) = r.map Msg.enc := by
      rw [subL_eq]
      simp
    rw [this] at h
    exact h
  · rcases Nat.lt_or_ge i r.length with hi | hi
    · rw [delRows, List.getElem?_append_left (by simpa [dRows] using hi), dRows, List.getElem?_map] at h1
      rw [List.getElem?_append_left (by simpa using hi)] at h2
      rw [h2] at h1
      cases h1
      simp
    · rw [delRows, List.getElem?_append_right (by simpa [dRows] using hi)] at h1
      rw [List.getElem?_append_right (by simpa using hi)] at h2
      have e1 : (dRows (r.map Msg.enc)).length = r.length := by simp [dRows]
      have e2 : (r.map Msg.enc).length = r.length := by simp
      rw [e1] at h1
      rw [e2] at h2
      cases hn : i - r.length with
      | zero => rw [hn] at h1 h2; cases h1; cases h2; rfl
      | succ n => rw [hn] at h1; simp at h1
  · rcases Nat.lt_or_ge i r.length with hi | hi
    · rw [delRows, List.getElem?_append_left (by simpa [dRows] using hi), dRows, List.getElem?_map] at h1
      rw [List.getElem?_append_left (by simpa using hi)] at h2
      rw [h2] at h1
      cases h1
      rw [List.getElem?_map, h4] at h3
      cases h3
      exact .dat _
    · rw [delRows, List.getElem?_append_right (by simpa [dRows] using hi)] at h1
      rw [List.getElem?_append_right (by simpa using hi)] at h2
      have e1 : (dRows (r.map Msg.enc)).length = r.length := by simp [dRows]
      have e2 : (r.map Msg.enc).length = r.length := by simp
      rw [e1] at h1
      rw [e2] at h2
      cases hn : i - r.length with
      | zero =>
        rw [hn] at h1 h2
        cases h1
        cases h2
        match j, h3, h4 with
        | 0, h3, h4 => cases h3; cases h4; exact .esl 1
        | 1, h3, h4 => cases h3; cases h4; exact .dat _
        | 2, h3, h4 => cases h3; cases h4; exact .dat _
        | 3, h3, h4 => cases h3; cases h4; exact .dat _
        | n + 4, h3, h4 => simp [zeroM] at h3
      | succ n => rw [hn] at h1; simp at h1
theorem l12 : lowF Try.prog Try.f12 = some c12 := by kernel_rfl
set_option maxRecDepth 100000 in
set_option maxHeartbeats 16000000 in
theorem recv_body (l : List Obj) (hf : fitL l) (e : Int) : body Try.prog c12 [objsV l, vInt .i64 e] [] (fun r m => ∃ r' m', View 0 ⟨[r], m⟩ ⟨[r'], m'⟩ ∧ r' = threeV (recvS l e) ∧ m' = []) := by
  have hlm : (((l.map Obj.enc).length : Nat) : Int) = (l.length : Int) := by simp
  have bad : ∀ (x : Int), recvS l e = ([], msgZ, x) → ∃ r' m', View 0 ⟨[CV.tup [.one .esl, .agg zeroM, iRV x]], [.var zeroM]⟩ ⟨[r'], m'⟩ ∧ r' = threeV (recvS l e) ∧ m' = [] := by
    intro x hx
    refine ⟨_, _, View.of 1 [] [] rfl rfl rfl rfl rfl rfl (.put (vw3 (b := objsR []) (.one (.frz (.esl 9))) vwZ) .nil) (.nil _), ?_, rfl⟩
    rw [hx]
    rfl
  refine bB_dec (fun h => ?_) (fun h1 => ?_)
  · exact bad 8 (by rw [recvS, if_pos (.inl h)])
  refine bB_dec (fun h => ?_) (fun h2 => ?_)
  · exact bad 8 (by rw [recvS, if_pos (.inr (by rw [← hlm]; exact h))])
  have h2 : ¬ e ≥ (l.length : Int) := by rw [← hlm]; exact h2
  obtain ⟨k, rfl⟩ : ∃ k : Nat, e = k := ⟨e.toNat, by omega⟩
  have hk : k < l.length := by omega
  have hi := List.getElem?_eq_getElem hk
  have hS1 : recvS l (k : Int) = if l[k].kind ≠ 4 then (([], msgZ, 8) : List Obj × Msg × Int) else match l[k].queue with
      | [] => if l[k].peer < 0 ∨ l[k].peer ≥ l.length then ([], msgZ, 17) else match l[l[k].peer.toNat]? with
        | none => ([], msgZ, 17)
        | some q => if q.kind ≠ 4 then ([], msgZ, 17) else ([], msgZ, 16)
      | x :: r => (l.set k { l[k] with queue := r }, x, 0) := by
    rw [recvS, if_neg (by omega), Int.toNat_natCast, hi]
  have hg : getZ (l.map Obj.enc) (k : Nat) = some (l[k].enc) := by
    rw [getZ_nat, List.getElem?_map, hi]; rfl
  have hof := hf.2 _ (List.getElem_mem hk)
  generalize l[k] = o at hS1 hg hi hof
  obtain ⟨kind, data, entries, target, peer, queue, proc, links, up⟩ := o
  have hg : getZ (l.map Obj.enc) (k : Nat) = some [.val (.int .i64 kind), .sl 1 data, .sl 2 entries, .val (.string target), .val (.int .i64 peer), .sl 4 (queue.map Msg.enc), .val (.int .i64 proc), .val (.int .i64 links), .val (.int .i64 up)] := hg
  refine ok_some hg ?_
  refine bB_bne (fun h => ?_) (fun h3 => ?_)
  · exact bad 8 (by rw [hS1, if_pos h])
  have h3 : kind = 4 := h3
  rw [if_neg (by simpa using h3)] at hS1
  simp only at hS1
  refine ok_some hg ?_
  cases queue with
  | nil =>
    simp only at hS1
    refine ok_some hg ?_
    refine bB_dec (fun h => ?_) (fun h4 => ?_)
    · exact bad 17 (by rw [hS1, if_pos (.inl h)])
    refine bB_dec (fun h => ?_) (fun h5 => ?_)
    · exact bad 17 (by rw [hS1, if_pos (.inr (by rw [← hlm]; exact h))])
    have h5 : ¬ peer ≥ (l.length : Int) := by rw [← hlm]; exact h5
    have h4 : ¬ peer < 0 := h4
    obtain ⟨p, rfl⟩ : ∃ p : Nat, peer = p := ⟨peer.toNat, by omega⟩
    have hp : p < l.length := by omega
    have hpi := List.getElem?_eq_getElem hp
    rw [if_neg (by omega), Int.toNat_natCast, hpi] at hS1
    simp only at hS1
    have hg2 : getZ (l.map Obj.enc) (p : Nat) = some (l[p].enc) := by
      rw [getZ_nat, List.getElem?_map, hpi]; rfl
    generalize l[p] = q at hS1 hg2
    have hg2 : getZ (l.map Obj.enc) (p : Nat) = some [.val (.int .i64 q.kind), .sl 1 q.data, .sl 2 q.entries, .val (.string q.target), .val (.int .i64 q.peer), .sl 4 (q.queue.map Msg.enc), .val (.int .i64 q.proc), .val (.int .i64 q.links), .val (.int .i64 q.up)] := hg2
    refine ok_some hg2 ?_
    refine bB_bne (fun h => ?_) (fun h6 => ?_)
    · exact bad 17 (by rw [hS1, if_pos h])
    · exact bad 16 (by rw [hS1, if_neg (by simpa using h6)])
  | cons x r =>
    simp only at hS1
    have hql : (x :: r).length ≤ 4194304 := hof.2.2.1
    refine own_ok l hf k ?_
    rw [qbO_at hi]
    have hidx : idxZ (k : Int) (lenOf (rowsO k 2 0 l).length 0 none) = some k := idxZ_nat (by simp [lenOf, rowsO_len]; omega)
    have hrow := rowsO_at (Q := 2) hi
    refine ok_some hidx ?_
    refine ok_some hrow ?_
    refine ok_some hidx ?_
    refine ok_some hrow ?_
    refine del_ok x r (by simp at hql; omega) 2 rfl ?_
    refine ok_some hidx ?_
    refine ok_some hrow ?_
    refine ⟨trivial, ?_⟩
    refine ⟨threeV (recvS l k), [], View.of 4 [] [1, 2] rfl rfl rfl rfl rfl rfl ?_ (.nil _), rfl, rfl⟩
    rw [hS1]
    refine .put (vw3 (.one (.frz ?_)) (vwMsg x)) .nil
    exact frzRows (p := k) (Q := 2) (l := l) (q := ⟨kind, data, entries, target, peer, r, proc, links, up⟩) (c := .row 2 4 0 (some r.length)) rfl (by rw [← nth_eq]; rfl) (frzDel (x := x) rfl (by rw [← nth_eq]; rfl))
set_option maxRecDepth 100000 in
theorem recv_ok (l : List Obj) (hf : fitL l) (e : Int) {m : Mem} {K : CV → Mem → Prop} (h : K (threeV (recvS l e)) m) : ACall Try.prog 12 [objsV l, vInt .i64 e] m K := by
  refine acall_frame (K0 := fun r m => r = threeV (recvS l e) ∧ m = []) (acall_view (acall_body Try.func12 l12 rfl (Nat.le_of_ble_eq_true rfl) (recv_body l hf e)) fun r m1 ⟨r', m', hv, hp⟩ => ⟨r', m', hv, hp⟩) (by simp [objsV, vInt, CV.isD, CC.isD, RV.isD]) fun r m1 hr => ?_
  obtain ⟨rfl, rfl⟩ := hr
  exact ⟨_, FrzV.self rfl, h⟩

end Go.Proofs.Ytnlhnmlojcfljaa
