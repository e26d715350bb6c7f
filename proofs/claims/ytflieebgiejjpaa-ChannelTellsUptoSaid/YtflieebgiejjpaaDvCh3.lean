import Derived.Test.YtflieebgiejjpaaAmZ2
import Derived.Test.YtflieebgiejjpaaDvCh2
import Derived.Test.YtflieebgiejjpaaAmY
set_option linter.unusedVariables false
set_option linter.unusedSimpArgs false
namespace Go.Proofs.Ytflieebgiejjpaa
open Go.AM Go.ChangeShapes Go.WideShapes Go.ChangeAt Go.RowKit
def c48 : LF := ⟨41, [.tmp 2, .cell true 2 3, .tmp 4], (.seq (.reg [
    ⟨(some 2), .mov (.c (.rv (.one .esl))), none⟩,
    ⟨(some 3), .alloc [(.dat (.val (.int .i64 (0)))), (.dat (.val (.int .i64 (0))))], none⟩,
    ⟨(some 4), .mov (.c (.rv (.one (.dat (.val (.int .i64 (0))))))), none⟩]) (.seq (.reg [
    ⟨(some 10), .mov (.t 0), none⟩,
    ⟨(some 11), .build [(.dat (.val (.int .i64 (0)))), .esl, .esl, (.dat (.val (.string ⟨#[]⟩))), (.dat (.val (.int .i64 (0)))), .esl, (.dat (.val (.int .i64 (0)))), (.dat (.val (.int .i64 (0)))), (.dat (.val (.int .i64 (0))))] [(0, 1, (.c (.rv (.one (.dat (.val (.int .i64 (4)))))))), (4, 1, (.c (.rv (.one (.dat (.val (.int .i64 (-1)))))))), (6, 1, (.c (.rv (.one (.dat (.val (.int .i64 (-1))))))))], none⟩,
    ⟨(some 12), .call (.c (.rv (.one (.fn 91 [])))) [(.t 10), (.t 11)], none⟩,
    ⟨(some 9), .mov (.t 12), none⟩,
    ⟨(some 13), .ext (.t 9) 0, none⟩,
    ⟨(some 14), .ext (.t 9) 1, none⟩,
    ⟨(some 15), .ext (.t 9) 2, none⟩,
    ⟨(some 5), .mov (.t 13), none⟩,
    ⟨(some 6), .mov (.t 14), none⟩,
    ⟨(some 7), .mov (.t 15), none⟩]) (.seq (.seq (.reg [
    ⟨(some 16), .mov (.t 7), none⟩,
    ⟨(some 17), .bin .neq (.t 16) (.c (.rv (.one (.dat (.val (.int .i64 (0))))))), none⟩]) (.cond (.t 17) (.seq (.reg [
    ⟨(some 18), .build [(.dat (.val (.int .i64 (0)))), (.dat (.val (.int .i64 (0))))] [], none⟩,
    ⟨(some 19), .mov (.t 7), none⟩,
    ⟨(some 2), .mov (.c (.rv (.one .esl))), none⟩,
    ⟨none, .store 2 (.t 3) (.t 18), none⟩,
    ⟨(some 4), .mov (.t 19), none⟩]) .ret) .skip)) (.seq (.reg [
    ⟨(some 21), .mov (.t 5), none⟩,
    ⟨(some 22), .mov (.t 6), none⟩,
    ⟨(some 23), .build [(.dat (.val (.int .i64 (0)))), .esl, .esl, (.dat (.val (.string ⟨#[]⟩))), (.dat (.val (.int .i64 (0)))), .esl, (.dat (.val (.int .i64 (0)))), (.dat (.val (.int .i64 (0)))), (.dat (.val (.int .i64 (0))))] [(0, 1, (.c (.rv (.one (.dat (.val (.int .i64 (4)))))))), (4, 1, (.t 22)), (6, 1, (.c (.rv (.one (.dat (.val (.int .i64 (-1))))))))], none⟩,
    ⟨(some 24), .call (.c (.rv (.one (.fn 91 [])))) [(.t 21), (.t 23)], none⟩,
    ⟨(some 20), .mov (.t 24), none⟩,
    ⟨(some 25), .ext (.t 20) 0, none⟩,
    ⟨(some 26), .ext (.t 20) 1, none⟩,
    ⟨(some 27), .ext (.t 20) 2, none⟩,
    ⟨(some 5), .mov (.t 25), none⟩,
    ⟨(some 8), .mov (.t 26), none⟩,
    ⟨(some 7), .mov (.t 27), none⟩]) (.seq (.seq (.reg [
    ⟨(some 28), .mov (.t 7), none⟩,
    ⟨(some 29), .bin .neq (.t 28) (.c (.rv (.one (.dat (.val (.int .i64 (0))))))), none⟩]) (.cond (.t 29) (.seq (.reg [
    ⟨(some 30), .build [(.dat (.val (.int .i64 (0)))), (.dat (.val (.int .i64 (0))))] [], none⟩,
    ⟨(some 31), .mov (.t 7), none⟩,
    ⟨(some 2), .mov (.c (.rv (.one .esl))), none⟩,
    ⟨none, .store 2 (.t 3) (.t 30), none⟩,
    ⟨(some 4), .mov (.t 31), none⟩]) .ret) .skip)) (.seq (.reg [
    ⟨(some 32), .mov (.t 5), none⟩,
    ⟨(some 33), .mov (.t 6), none⟩,
    ⟨(some 34), .mov (.t 8), none⟩,
    ⟨(some 35), .idx 9 (.t 32) (.t 33), none⟩,
    ⟨(some 36), .fadr 4 (.t 35), none⟩,
    ⟨none, .store 1 (.t 36) (.t 34), none⟩]) (.seq (.reg [
    ⟨(some 37), .mov (.t 5), none⟩,
    ⟨(some 38), .mov (.t 6), none⟩,
    ⟨(some 39), .mov (.t 8), none⟩,
    ⟨(some 40), .build [(.dat (.val (.int .i64 (0)))), (.dat (.val (.int .i64 (0))))] [(0, 1, (.t 38)), (1, 1, (.t 39))], none⟩,
    ⟨(some 2), .mov (.t 37), none⟩,
    ⟨none, .store 2 (.t 3) (.t 40), none⟩,
    ⟨(some 4), .mov (.c (.rv (.one (.dat (.val (.int .i64 (0))))))), none⟩]) .ret)))))))⟩
/-! Pair -/
theorem make_at {l : List Obj} {o : Obj} (h : (makeS l o).2.2 = 0) : ∃ k : Nat, (makeS l o).2.1 = k ∧ k < (makeS l o).1.length ∧ (makeS l o).1[k]? = some o ∧ l.length ≤ (makeS l o).1.length ∧ (∀ j, j ≠ k → j < l.length → (makeS l o).1[j]? = l[j]?) := by
  unfold makeS at h ⊢
  split
  · rename_i k hk
    have hkl : k < l.length := (List.findIdx?_eq_some_iff_getElem.1 hk).1
    exact ⟨k, rfl, by simpa using hkl, by simp [hkl], by simp, fun j hj hjl => by simp [List.getElem?_set, Ne.symm hj]⟩
  · rename_i hk
    rw [hk] at h
    simp only at h
    split at h
    · simp at h
    · rename_i hc
      rw [if_neg hc]
      exact ⟨l.length, rfl, by simp, by simp, by simp, fun j hj hjl => by simp [List.getElem?_append_left hjl]⟩
theorem make_fit {l : List Obj} {o : Obj} (hf : fitL l) (ho : o.fit) : fitL (makeS l o).1 := by
  unfold makeS
  split
  · refine ⟨by simpa using hf.1, fun x hx => ?_⟩
    rcases List.mem_or_eq_of_mem_set hx with h | rfl
    · exact hf.2 x h
    · exact ho
  · split
    · exact ⟨by simp, by simp⟩
    · refine ⟨by simp; omega, fun x hx => ?_⟩
      rcases List.mem_append.1 hx with h | h
      · exact hf.2 x h
      · simp at h
        subst h
        exact ho
def endO (p : Int) : Obj := ⟨4, [], [], ⟨#[]⟩, p, [], -1, 0, 0⟩
theorem endO_fit (p : Int) : (endO p).fit := by simp [Obj.fit, endO]
def setPeer (l : List Obj) (k : Nat) (b : Int) : List Obj := match l[k]? with | some o => l.set k { o with peer := b } | none => l
def pairS (l : List Obj) : List Obj × (Int × Int) × Int :=
  if (makeS l (endO (-1))).2.2 ≠ 0 then ([], (0, 0), (makeS l (endO (-1))).2.2)
  else if (makeS (makeS l (endO (-1))).1 (endO (makeS l (endO (-1))).2.1)).2.2 ≠ 0 then ([], (0, 0), (makeS (makeS l (endO (-1))).1 (endO (makeS l (endO (-1))).2.1)).2.2)
  else (setPeer (makeS (makeS l (endO (-1))).1 (endO (makeS l (endO (-1))).2.1)).1 (makeS l (endO (-1))).2.1.toNat (makeS (makeS l (endO (-1))).1 (endO (makeS l (endO (-1))).2.1)).2.1, ((makeS l (endO (-1))).2.1, (makeS (makeS l (endO (-1))).1 (endO (makeS l (endO (-1))).2.1)).2.1), 0)
def twoR (x : Int × Int) : RV := .agg [.dat (.val (.int .i64 x.1)), .dat (.val (.int .i64 x.2))]
theorem l48 : lowF Try.prog Try.f48 = some c48 := by kernel_rfl
theorem endArgs (a b : CV) (p : Int) : ArgsL [a, .rv (.agg [.dat (.val (.int .i64 4)), .esl, .esl, .dat (.val (.string ⟨#[]⟩)), .dat (.val (.int .i64 p)), .esl, .dat (.val (.int .i64 (-1))), .dat (.val (.int .i64 0)), .dat (.val (.int .i64 0))])] [a, (endO p).cv] :=
  .same _ (.agg (.cons (.same _) (.cons (.esl 1) (.cons (.esl 2) (.cons (.same _) (.cons (.same _) (.cons (.esl 4) (.cons (.same _) (.cons (.same _) (.cons (.same _) .nil))))))))) .nil)
set_option maxRecDepth 100000 in
set_option maxHeartbeats 8000000 in
theorem pair_body (l : List Obj) (hf : fitL l) : body Try.prog c48 [objsV l] [] (fun r m => FrzV m r (.tup [objsR (pairS l).1, twoR (pairS l).2.1, iRV (pairS l).2.2])) := by
  refine acall_le (endArgs _ (.junk) _) (make_ok l hf (endO (-1)) ?_)
  have hp : pairS l = if (makeS l (endO (-1))).2.2 ≠ 0 then ([], (0, 0), (makeS l (endO (-1))).2.2)
      else if (makeS (makeS l (endO (-1))).1 (endO (makeS l (endO (-1))).2.1)).2.2 ≠ 0 then ([], (0, 0), (makeS (makeS l (endO (-1))).1 (endO (makeS l (endO (-1))).2.1)).2.2)
      else (setPeer (makeS (makeS l (endO (-1))).1 (endO (makeS l (endO (-1))).2.1)).1 (makeS l (endO (-1))).2.1.toNat (makeS (makeS l (endO (-1))).1 (endO (makeS l (endO (-1))).2.1)).2.1, ((makeS l (endO (-1))).2.1, (makeS (makeS l (endO (-1))).1 (endO (makeS l (endO (-1))).2.1)).2.1), 0) := rfl
  have hfit := make_fit (o := endO (-1)) hf (endO_fit _)
  generalize hx : makeS l (endO (-1)) = x at hp hfit
  obtain ⟨l1, a, e1⟩ := x
  have hfit : fitL l1 := hfit
  refine bB_bne (fun h => ?_) (fun h => ?_)
  · have h : e1 ≠ 0 := h
    rw [hp]
    simp only
    rw [if_pos h]
    exact frz3 (.one (.esl 9)) (FrzR.self rfl)
  · have h : e1 = 0 := h
    subst h
    have hat := make_at (l := l) (o := endO (-1)) (by rw [hx])
    rw [hx] at hat
    obtain ⟨ka, hka, hka2, hka3, hka4, _⟩ := hat
    have hka : a = (ka : Int) := hka
    have hka2 : ka < l1.length := hka2
    subst hka
    simp only [ne_eq, not_true, if_false, Int.toNat_natCast] at hp
    refine acall_le (endArgs _ (.junk) _) (make_row l1 hfit (endO ka) (fun h => ?_) (fun h => ?_))
    · rw [h] at hp
      rw [h, hp]
      exact frz3 (.one (.esl 9)) (FrzR.self rfl)
    · have hat := make_at (l := l1) (o := endO ka) h
      generalize hy : makeS l1 (endO ka) = y at hp hat h
      obtain ⟨l2, b, e2⟩ := y
      have h : e2 = 0 := h
      subst h
      obtain ⟨kb, hkb, hkb2, hkb3, hkb4, _⟩ := hat
      have hkb4 : l1.length ≤ l2.length := hkb4
      have hlt : ka < l2.length := by omega
      have hlen : (dRows (l2.map Obj.enc)).length = l2.length := by simp [dRows]
      refine ok_some (idxZ_nat (k := ka) (by simpa [hlen, lenOf] using hlt)) ?_
      refine ok_some (x := l2[ka].enc.map .dat) (by simpa [addN] using dRows_nth l2 hlt) ?_
      have hset : setN (dRows (l2.map Obj.enc)) (addN 0 ka) (({ l2[ka] with peer := b } : Obj).enc.map .dat) = dRows ((setPeer l2 ka b).map Obj.enc) := by
        rw [setN_eq]
        simp only [setPeer, List.getElem?_eq_getElem hlt]
        rw [← dRows_set]
        simp [addN]
      have hfin : some (Bk.row 9 (setN (dRows (l2.map Obj.enc)) (addN 0 ka) (({ l2[ka] with peer := b } : Obj).enc.map .dat))) = some (Bk.row 9 (dRows ((setPeer l2 ka b).map Obj.enc))) := by rw [hset]
      rw [hp]
      exact frz3 (.one (FrzC.rowD hfin 0 none)) (FrzR.self rfl)
set_option maxRecDepth 100000 in
theorem pair_ok (l : List Obj) (hf : fitL l) {m : Mem} {K : CV → Mem → Prop} (h : K (.tup [objsR (pairS l).1, twoR (pairS l).2.1, iRV (pairS l).2.2]) m) : ACall Try.prog 48 [objsV l] m K :=
  acall_frame (acall_body Try.func48 l48 rfl (Nat.le_of_ble_eq_true rfl) (pair_body l hf)) (by simp [objsV, CV.isD, CC.isD]) fun r m1 hfz => ⟨_, hfz, h⟩
end Go.Proofs.Ytflieebgiejjpaa
