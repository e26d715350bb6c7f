import Derived.Test.YtflieebgiejjpaaDvTab2
import Derived.Test.YtflieebgiejjpaaAmY
set_option linter.unusedVariables false
set_option linter.unusedSimpArgs false
namespace Go.Proofs.Ytflieebgiejjpaa
open Go.AM Go.ChangeShapes Go.WideShapes Go.ChangeAt Go.RowKit
def c27 : LF := ⟨54, [.tmp 4, .tmp 5, .tmp 6], (.seq (.reg [
    ⟨(some 3), .box (.t 1), none⟩,
    ⟨(some 4), .mov (.c (.rv (.one .esl))), none⟩,
    ⟨(some 5), .mov (.c (.rv (.one (.dat (.val (.int .i64 (0))))))), none⟩,
    ⟨(some 6), .mov (.c (.rv (.one (.dat (.val (.int .i64 (0))))))), none⟩]) (.seq (.seq (.reg [
    ⟨(some 9), .fadr 1 (.t 3), none⟩,
    ⟨(some 10), .load false 1 (.t 9), none⟩,
    ⟨(some 11), .bin .lss (.t 10) (.c (.rv (.one (.dat (.val (.int .i64 (0))))))), none⟩,
    ⟨(some 12), .mov (.t 11), none⟩,
    ⟨(some 13), .fadr 1 (.t 3), (some (12, false))⟩,
    ⟨(some 14), .load false 1 (.t 13), (some (12, false))⟩,
    ⟨(some 15), .bin .gtr (.t 14) (.c (.rv (.one (.dat (.val (.int .i64 (4095))))))), (some (12, false))⟩,
    ⟨(some 16), .pick (.t 12) (.c (.rv (.one (.dat (.val (.bool true)))))) (.t 15), none⟩,
    ⟨(some 17), .mov (.t 16), none⟩,
    ⟨(some 18), .fadr 0 (.t 3), (some (17, false))⟩,
    ⟨(some 19), .load false 1 (.t 18), (some (17, false))⟩,
    ⟨(some 20), .bin .lss (.t 19) (.c (.rv (.one (.dat (.val (.int .i64 (0))))))), (some (17, false))⟩,
    ⟨(some 21), .pick (.t 17) (.c (.rv (.one (.dat (.val (.bool true)))))) (.t 20), none⟩]) (.cond (.t 21) (.seq (.reg [
    ⟨(some 4), .mov (.c (.rv (.one .esl))), none⟩,
    ⟨(some 5), .mov (.c (.rv (.one (.dat (.val (.int .i64 (0))))))), none⟩,
    ⟨(some 6), .mov (.c (.rv (.one (.dat (.val (.int .i64 (3))))))), none⟩]) .ret) .skip)) (.seq (.reg [
    ⟨(some 22), .bsl 3 [(.dat (.val (.bool false))), (.dat (.val (.int .i64 (0)))), (.dat (.val (.int .i64 (0))))] 0 [], none⟩,
    ⟨(some 23), .mov (.t 0), none⟩,
    ⟨(some 24), .app 3 24 (.t 22) (.t 23), none⟩,
    ⟨(some 7), .mov (.t 24), none⟩]) (.seq (.seq (.reg [
    ⟨(some 25), .mov (.t 7), none⟩,
    ⟨(some 26), .len 1 (.t 25), none⟩,
    ⟨(some 27), .mov (.c (.rv (.one (.dat (.val (.int .i64 (0))))))), none⟩]) (.block 0 (.loop (.seq (.reg [
    ⟨(some 28), .bin .lss (.t 27) (.t 26), none⟩]) (.seq (.cond (.t 28) .skip (.exit 0)) (.seq (.block 1 (.seq (.reg [
    ⟨(some 29), .mov (.t 27), none⟩,
    ⟨(some 8), .mov (.t 29), none⟩]) (.seq (.reg [
    ⟨(some 30), .mov (.t 7), none⟩,
    ⟨(some 31), .mov (.t 8), none⟩,
    ⟨(some 32), .idx 3 (.t 30) (.t 31), none⟩,
    ⟨(some 33), .fadr 0 (.t 32), none⟩,
    ⟨(some 34), .load false 1 (.t 33), none⟩,
    ⟨(some 35), .un .not (.t 34), none⟩]) (.cond (.t 35) (.seq (.reg [
    ⟨(some 36), .mov (.t 7), none⟩,
    ⟨(some 37), .mov (.t 8), none⟩,
    ⟨(some 38), .load true 2 (.t 3), none⟩,
    ⟨(some 39), .build [(.dat (.val (.bool false))), (.dat (.val (.int .i64 (0)))), (.dat (.val (.int .i64 (0))))] [(0, 1, (.c (.rv (.one (.dat (.val (.bool true))))))), (1, 2, (.t 38))], none⟩,
    ⟨(some 40), .idx 3 (.t 36) (.t 37), none⟩,
    ⟨none, .store 3 (.t 40) (.t 39), none⟩]) (.seq (.reg [
    ⟨(some 41), .mov (.t 7), none⟩,
    ⟨(some 42), .mov (.t 8), none⟩,
    ⟨(some 4), .mov (.t 41), none⟩,
    ⟨(some 5), .mov (.t 42), none⟩,
    ⟨(some 6), .mov (.c (.rv (.one (.dat (.val (.int .i64 (0))))))), none⟩]) .ret)) .skip)))) (.reg [
    ⟨(some 43), .bin .add (.t 27) (.c (.rv (.one (.dat (.val (.int .i64 (1))))))), none⟩,
    ⟨(some 27), .mov (.t 43), none⟩]))))))) (.seq (.seq (.reg [
    ⟨(some 44), .mov (.t 7), none⟩,
    ⟨(some 45), .len 1 (.t 44), none⟩,
    ⟨(some 46), .bin .geq (.t 45) (.c (.rv (.one (.dat (.val (.int .i64 (10))))))), none⟩]) (.cond (.t 46) (.seq (.reg [
    ⟨(some 4), .mov (.c (.rv (.one .esl))), none⟩,
    ⟨(some 5), .mov (.c (.rv (.one (.dat (.val (.int .i64 (0))))))), none⟩,
    ⟨(some 6), .mov (.c (.rv (.one (.dat (.val (.int .i64 (15))))))), none⟩]) .ret) .skip)) (.seq (.reg [
    ⟨(some 47), .mov (.t 7), none⟩,
    ⟨(some 48), .load true 2 (.t 3), none⟩,
    ⟨(some 49), .build [(.dat (.val (.bool false))), (.dat (.val (.int .i64 (0)))), (.dat (.val (.int .i64 (0))))] [(0, 1, (.c (.rv (.one (.dat (.val (.bool true))))))), (1, 2, (.t 48))], none⟩,
    ⟨(some 50), .bsl 3 [(.dat (.val (.bool false))), (.dat (.val (.int .i64 (0)))), (.dat (.val (.int .i64 (0))))] 1 [(0, (.t 49))], none⟩,
    ⟨(some 51), .app 3 24 (.t 47) (.t 50), none⟩,
    ⟨(some 52), .mov (.t 0), none⟩,
    ⟨(some 53), .len 1 (.t 52), none⟩,
    ⟨(some 4), .mov (.t 51), none⟩,
    ⟨(some 5), .mov (.t 53), none⟩,
    ⟨(some 6), .mov (.c (.rv (.one (.dat (.val (.int .i64 (0))))))), none⟩]) .ret))))))⟩
def c31 : LF := ⟨40, [.tmp 6, .tmp 7], (.seq (.reg [
    ⟨(some 6), .mov (.c (.rv (.one .esl))), none⟩,
    ⟨(some 7), .mov (.c (.rv (.one (.dat (.val (.int .i64 (0))))))), none⟩]) (.seq (.reg [
    ⟨(some 12), .mov (.t 0), none⟩,
    ⟨(some 13), .mov (.t 1), none⟩,
    ⟨(some 14), .call (.c (.rv (.one (.fn 24 [])))) [(.t 12), (.t 13)], none⟩,
    ⟨(some 11), .mov (.t 14), none⟩,
    ⟨(some 15), .ext (.t 11) 0, none⟩,
    ⟨(some 16), .ext (.t 11) 1, none⟩,
    ⟨(some 8), .alloc [(.dat (.val (.int .i64 (0)))), (.dat (.val (.int .i64 (0))))], none⟩,
    ⟨none, .store 2 (.t 8) (.t 15), none⟩,
    ⟨(some 9), .mov (.t 16), none⟩]) (.seq (.block 0 (.seq (.reg [
    ⟨(some 18), .mov (.t 9), none⟩,
    ⟨(some 19), .bin .neq (.t 18) (.c (.rv (.one (.dat (.val (.int .i64 (0))))))), none⟩,
    ⟨(some 17), .mov (.t 19), none⟩]) (.cond (.t 17) (.seq (.reg [
    ⟨(some 20), .mov (.t 9), none⟩,
    ⟨(some 6), .mov (.c (.rv (.one .esl))), none⟩,
    ⟨(some 7), .mov (.t 20), none⟩]) .ret) (.seq (.reg [
    ⟨(some 22), .mov (.t 2), none⟩,
    ⟨(some 23), .call (.c (.rv (.one (.fn 82 [])))) [(.t 22)], none⟩,
    ⟨(some 24), .un .not (.t 23), none⟩,
    ⟨(some 21), .mov (.t 24), none⟩]) (.cond (.t 21) (.seq (.reg [
    ⟨(some 6), .mov (.c (.rv (.one .esl))), none⟩,
    ⟨(some 7), .mov (.c (.rv (.one (.dat (.val (.int .i64 (3))))))), none⟩]) .ret) (.seq (.reg [
    ⟨(some 26), .mov (.t 2), none⟩,
    ⟨(some 27), .fadr 1 (.t 8), none⟩,
    ⟨(some 28), .load false 1 (.t 27), none⟩,
    ⟨(some 29), .call (.c (.rv (.one (.fn 86 [])))) [(.t 26), (.t 28)], none⟩,
    ⟨(some 30), .un .not (.t 29), none⟩,
    ⟨(some 25), .mov (.t 30), none⟩]) (.cond (.t 25) (.seq (.reg [
    ⟨(some 6), .mov (.c (.rv (.one .esl))), none⟩,
    ⟨(some 7), .mov (.c (.rv (.one (.dat (.val (.int .i64 (10))))))), none⟩]) .ret) .skip))))))) (.seq (.reg [
    ⟨(some 31), .mov (.t 0), none⟩,
    ⟨(some 32), .call (.c (.rv (.one (.fn 85 [])))) [(.t 31)], none⟩,
    ⟨(some 10), .mov (.t 32), none⟩]) (.seq (.reg [
    ⟨(some 33), .mov (.t 10), none⟩,
    ⟨(some 34), .mov (.t 1), none⟩,
    ⟨(some 35), .mov (.t 2), none⟩,
    ⟨(some 36), .idx 3 (.t 33) (.t 34), none⟩,
    ⟨(some 37), .fadr 1 (.t 36), none⟩,
    ⟨(some 38), .fadr 1 (.t 37), none⟩,
    ⟨none, .store 1 (.t 38) (.t 35), none⟩]) (.seq (.reg [
    ⟨(some 39), .mov (.t 10), none⟩,
    ⟨(some 6), .mov (.t 39), none⟩,
    ⟨(some 7), .mov (.c (.rv (.one (.dat (.val (.int .i64 (0))))))), none⟩]) .ret))))))⟩
def c32 : LF := ⟨43, [.tmp 6, .tmp 7], (.seq (.reg [
    ⟨(some 6), .mov (.c (.rv (.one .esl))), none⟩,
    ⟨(some 7), .mov (.c (.rv (.one (.dat (.val (.int .i64 (0))))))), none⟩]) (.seq (.reg [
    ⟨(some 12), .mov (.t 0), none⟩,
    ⟨(some 13), .mov (.t 1), none⟩,
    ⟨(some 14), .call (.c (.rv (.one (.fn 25 [])))) [(.t 12), (.t 13)], none⟩,
    ⟨(some 11), .mov (.t 14), none⟩,
    ⟨(some 15), .ext (.t 11) 0, none⟩,
    ⟨(some 16), .ext (.t 11) 1, none⟩,
    ⟨(some 8), .alloc [(.dat (.val (.int .i64 (0)))), (.dat (.val (.int .i64 (0))))], none⟩,
    ⟨none, .store 2 (.t 8) (.t 15), none⟩,
    ⟨(some 9), .mov (.t 16), none⟩]) (.seq (.seq (.reg [
    ⟨(some 17), .mov (.t 9), none⟩,
    ⟨(some 18), .bin .neq (.t 17) (.c (.rv (.one (.dat (.val (.int .i64 (0))))))), none⟩]) (.cond (.t 18) (.seq (.reg [
    ⟨(some 19), .mov (.t 9), none⟩,
    ⟨(some 6), .mov (.c (.rv (.one .esl))), none⟩,
    ⟨(some 7), .mov (.t 19), none⟩]) .ret) .skip)) (.seq (.seq (.reg [
    ⟨(some 20), .mov (.t 2), none⟩,
    ⟨(some 21), .bin .lss (.t 20) (.c (.rv (.one (.dat (.val (.int .i64 (0))))))), none⟩,
    ⟨(some 22), .mov (.t 21), none⟩,
    ⟨(some 23), .mov (.t 2), (some (22, false))⟩,
    ⟨(some 24), .bin .gtr (.t 23) (.c (.rv (.one (.dat (.val (.int .i64 (4095))))))), (some (22, false))⟩,
    ⟨(some 25), .pick (.t 22) (.c (.rv (.one (.dat (.val (.bool true)))))) (.t 24), none⟩]) (.cond (.t 25) (.seq (.reg [
    ⟨(some 6), .mov (.c (.rv (.one .esl))), none⟩,
    ⟨(some 7), .mov (.c (.rv (.one (.dat (.val (.int .i64 (3))))))), none⟩]) .ret) .skip)) (.seq (.seq (.reg [
    ⟨(some 26), .mov (.t 2), none⟩,
    ⟨(some 27), .fadr 1 (.t 8), none⟩,
    ⟨(some 28), .load false 1 (.t 27), none⟩,
    ⟨(some 29), .call (.c (.rv (.one (.fn 36 [])))) [(.t 26), (.t 28)], none⟩,
    ⟨(some 30), .un .not (.t 29), none⟩]) (.cond (.t 30) (.seq (.reg [
    ⟨(some 6), .mov (.c (.rv (.one .esl))), none⟩,
    ⟨(some 7), .mov (.c (.rv (.one (.dat (.val (.int .i64 (10))))))), none⟩]) .ret) .skip)) (.seq (.reg [
    ⟨(some 31), .bsl 3 [(.dat (.val (.bool false))), (.dat (.val (.int .i64 (0)))), (.dat (.val (.int .i64 (0))))] 0 [], none⟩,
    ⟨(some 32), .mov (.t 0), none⟩,
    ⟨(some 33), .app 3 24 (.t 31) (.t 32), none⟩,
    ⟨(some 10), .mov (.t 33), none⟩]) (.seq (.reg [
    ⟨(some 34), .mov (.t 10), none⟩,
    ⟨(some 35), .mov (.t 1), none⟩,
    ⟨(some 36), .fadr 0 (.t 8), none⟩,
    ⟨(some 37), .load false 1 (.t 36), none⟩,
    ⟨(some 38), .mov (.t 2), none⟩,
    ⟨(some 39), .build [(.dat (.val (.int .i64 (0)))), (.dat (.val (.int .i64 (0))))] [(0, 1, (.t 37)), (1, 1, (.t 38))], none⟩,
    ⟨(some 40), .build [(.dat (.val (.bool false))), (.dat (.val (.int .i64 (0)))), (.dat (.val (.int .i64 (0))))] [(0, 1, (.c (.rv (.one (.dat (.val (.bool true))))))), (1, 2, (.t 39))], none⟩,
    ⟨(some 41), .idx 3 (.t 34) (.t 35), none⟩,
    ⟨none, .store 3 (.t 41) (.t 40), none⟩]) (.seq (.reg [
    ⟨(some 42), .mov (.t 10), none⟩,
    ⟨(some 6), .mov (.t 42), none⟩,
    ⟨(some 7), .mov (.c (.rv (.one (.dat (.val (.int .i64 (0))))))), none⟩]) .ret))))))))⟩
def c36 : LF := ⟨25, [.tmp 4], (.seq (.reg [
    ⟨(some 4), .mov (.c (.rv (.one (.dat (.val (.bool false)))))), none⟩]) (.seq (.reg [
    ⟨(some 8), .mov (.t 0), none⟩,
    ⟨(some 9), .call (.c (.rv (.one (.fn 87 [])))) [(.t 8)], none⟩,
    ⟨(some 10), .mov (.t 1), none⟩,
    ⟨(some 11), .call (.c (.rv (.one (.fn 87 [])))) [(.t 10)], none⟩,
    ⟨(some 5), .alloc [(.dat (.val (.bool false))), (.dat (.val (.bool false))), (.dat (.val (.bool false))), (.dat (.val (.bool false))), (.dat (.val (.bool false))), (.dat (.val (.bool false))), (.dat (.val (.bool false))), (.dat (.val (.bool false))), (.dat (.val (.bool false))), (.dat (.val (.bool false))), (.dat (.val (.bool false))), (.dat (.val (.bool false)))], none⟩,
    ⟨(some 6), .alloc [(.dat (.val (.bool false))), (.dat (.val (.bool false))), (.dat (.val (.bool false))), (.dat (.val (.bool false))), (.dat (.val (.bool false))), (.dat (.val (.bool false))), (.dat (.val (.bool false))), (.dat (.val (.bool false))), (.dat (.val (.bool false))), (.dat (.val (.bool false))), (.dat (.val (.bool false))), (.dat (.val (.bool false)))], none⟩,
    ⟨none, .store 12 (.t 5) (.t 9), none⟩,
    ⟨none, .store 12 (.t 6) (.t 11), none⟩]) (.seq (.seq (.reg [
    ⟨(some 12), .mov (.c (.rv (.one (.dat (.val (.int .i64 (0))))))), none⟩]) (.block 0 (.loop (.seq (.reg [
    ⟨(some 13), .bin .lss (.t 12) (.c (.rv (.one (.dat (.val (.int .i64 (12))))))), none⟩]) (.seq (.cond (.t 13) .skip (.exit 0)) (.seq (.block 1 (.seq (.reg [
    ⟨(some 14), .mov (.t 12), none⟩,
    ⟨(some 7), .mov (.t 14), none⟩]) (.seq (.reg [
    ⟨(some 15), .mov (.t 7), none⟩,
    ⟨(some 16), .idxa 12 1 (.t 5) (.t 15), none⟩,
    ⟨(some 17), .load false 1 (.t 16), none⟩,
    ⟨(some 18), .mov (.t 17), none⟩,
    ⟨(some 19), .mov (.t 7), (some (18, true))⟩,
    ⟨(some 20), .idxa 12 1 (.t 6) (.t 19), (some (18, true))⟩,
    ⟨(some 21), .load false 1 (.t 20), (some (18, true))⟩,
    ⟨(some 22), .un .not (.t 21), (some (18, true))⟩,
    ⟨(some 23), .pick (.t 18) (.t 22) (.c (.rv (.one (.dat (.val (.bool false)))))), none⟩]) (.cond (.t 23) (.seq (.reg [
    ⟨(some 4), .mov (.c (.rv (.one (.dat (.val (.bool false)))))), none⟩]) .ret) .skip)))) (.reg [
    ⟨(some 24), .bin .add (.t 12) (.c (.rv (.one (.dat (.val (.int .i64 (1))))))), none⟩,
    ⟨(some 12), .mov (.t 24), none⟩]))))))) (.seq (.reg [
    ⟨(some 4), .mov (.c (.rv (.one (.dat (.val (.bool true)))))), none⟩]) .ret))))⟩
/-! the document's Put -/
theorem l27 : lowF Try.prog Try.f27 = some c27 := by kernel_rfl
theorem rightB_iff {n : Int} : rightB n = false ↔ (n < 0 ∨ 4095 < n) := by
  unfold rightB
  simp
  omega
set_option maxRecDepth 100000 in
set_option maxHeartbeats 2000000 in
theorem rput_body (l : List Slot) (hb : l.length ≤ 2097152) (c : Cap) : body Try.prog c27 [slotsV l, .rv c.rv] [] (fun r m => FrzV m r (.tup [slotsR (putS l c).1, iRV (putS l c).2.1, iRV (putS l c).2.2])) := by
  refine bB_split (fun h => ?_) (fun h1 => ?_)
  · exact put_bad (.inl (rightB_iff.2 (.inl (of_decide_eq_true h))))
  · refine bB_split (fun h => ?_) (fun h2 => ?_)
    · exact put_bad (.inl (rightB_iff.2 (.inr (of_decide_eq_true h))))
    · refine bB_split (fun h => ?_) (fun h3 => ?_)
      · exact put_bad (.inr (of_decide_eq_true h))
      · have hok : ¬ (rightB c.rts = false ∨ c.opn < 0) := by
          have h1 : ¬ c.rts < 0 := of_decide_eq_false h1
          have h2 : ¬ c.rts > 4095 := of_decide_eq_false h2
          have h3 : ¬ c.opn < 0 := of_decide_eq_false h3
          rw [rightB_iff]; omega
        refine ⟨by simp [subL]; omega, ?_⟩
        refine loop_mem (fun k => k ≤ l.length ∧ ∀ (i : Nat) s, i < k → l[i]? = some s → s.has = true) (fun k => [(27, vInt .i64 (k : Nat)), (8, .junk), (28, .junk), (29, .junk), (30, .junk), (31, .junk), (32, .junk), (33, .junk), (34, .junk), (35, .junk), (22, .junk), (43, .junk)])
          (fun k => [.var [.dat (.val (.int .i64 c.opn)), .dat (.val (.int .i64 c.rts))], .dead, .row 3 (dRows (l.map Slot.enc))]) (fun k => l.length - k) 0 ⟨Nat.zero_le _, fun i s h => absurd h (Nat.not_lt_zero i)⟩ ?_ (fun k hk => ?_)
        · refine View.of 3 [0, 1, 2] [] rfl rfl rfl rfl rfl rfl ?_ ?_
          · repeat (first | exact .nil | refine .junk ?_ | refine .eq rfl ?_)
          · exact .put (by simp [memN]) rfl (.eq rfl (by simp)) (.dead (.put (by simp [memN]) rfl (.rowDE rfl) (.nil _)))
        · refine bB_split (fun h => ?_) (fun h => ?_)
          · have hlt : k < l.length := by
              have h : (k : Int) < ((dRows (l.map Slot.enc)).length : Int) := of_decide_eq_true h
              simp [dRows] at h
              omega
            refine ok_some (idxZ_nat (k := k) (by simp [lenOf, dRows]; omega)) ?_
            refine ok_some (x := (l[k].enc).map .dat) (by simp [nth_eq, dRows, addN, hlt]) ?_
            refine bB_split (fun h3 => ?_) (fun h3 => ?_)
            · have h3 : l[k].has = false := by simpa using h3
              have hf : l.findIdx? (fun s => !s.has) = some k := by
                rw [List.findIdx?_eq_some_iff_getElem]
                refine ⟨hlt, by simp [h3], fun j hj => ?_⟩
                simp [hk.2 j _ hj (List.getElem?_eq_getElem (by omega))]
              refine ok_some (idxZ_nat (k := k) (by simp [lenOf, dRows]; omega)) ?_
              refine ok_some (x := (l[k].enc).map .dat) (by simp [nth_eq, dRows, addN, hlt]) ?_
              refine put_old (id := 2) hok hf ?_
              refine congrArg (fun x => some (Bk.row 3 x)) ?_
              show setN (dRows (l.map Slot.enc)) k [CC.dat (.val (.bool true)), CC.dat (.val (.int .i64 c.opn)), CC.dat (.val (.int .i64 c.rts))] = _
              rw [setN_eq]
              simp [slotRows, dRows, Slot.enc]
            · have h3 : l[k].has = true := by simpa using h3
              refine ⟨k + 1, ⟨hlt, fun i s hi hs => ?_⟩, ?_, View.of 3 [0, 1, 2] [] rfl rfl rfl rfl rfl rfl ?_ ?_⟩
              · rcases Nat.lt_or_ge i k with h5 | h5
                · exact hk.2 i s h5 hs
                · have : i = k := by omega
                  subst this
                  rw [List.getElem?_eq_getElem hlt] at hs
                  cases hs
                  exact h3
              · show l.length - (k + 1) < l.length - k
                omega
              · repeat (first | exact .nil | refine .junk ?_ | refine .put (.ren (next_i64 (by omega)).symm) ?_ | refine .eq rfl ?_)
              · exact .put (by simp [memN]) rfl (.eq rfl (by simp)) (.dead (.put (by simp [memN]) rfl (.rowDE rfl) (.nil _)))
          · have hge : ¬ (k : Int) < ((dRows (l.map Slot.enc)).length : Int) := of_decide_eq_false h
            simp [dRows] at hge
            have hf : l.findIdx? (fun s => !s.has) = none := by
              rw [List.findIdx?_eq_none_iff]
              intro s hs
              obtain ⟨i, hi⟩ := List.getElem?_of_mem hs
              have := (List.getElem?_eq_some_iff.1 hi).1
              simp [hk.2 i s (by omega) hi]
            refine bB_split (fun h => ?_) (fun h => ?_)
            · have h : ((dRows (l.map Slot.enc)).length : Int) ≥ 10 := of_decide_eq_true h
              simp [dRows] at h
              exact put_full hok hf (by omega)
            · have h : ¬ ((dRows (l.map Slot.enc)).length : Int) ≥ 10 := of_decide_eq_false h
              simp [dRows] at h
              refine ⟨by simp [dRows, subL]; omega, ?_⟩
              refine put_new (id := 4) hok hf (by omega) ?_
              refine congrArg (fun x => some (Bk.row 3 x)) ?_
              show dRows (l.map Slot.enc) ++ [[CC.dat (.val (.bool true)), CC.dat (.val (.int .i64 c.opn)), CC.dat (.val (.int .i64 c.rts))]] = _
              simp [slotRows, dRows, Slot.enc]
set_option maxRecDepth 100000 in
theorem rput_ok (l : List Slot) (hb : l.length ≤ 2097152) (c : Cap) {m : Mem} {K : CV → Mem → Prop} (h : K (.tup [slotsR (putS l c).1, iRV (putS l c).2.1, iRV (putS l c).2.2]) m) : ACall Try.prog 27 [slotsV l, .rv c.rv] m K :=
  acall_frame (acall_body Try.func27 l27 rfl (Nat.le_of_ble_eq_true rfl) (rput_body l hb c)) (by simp [slotsV, Cap.rv, CV.isD, CC.isD]) fun r m1 hf => ⟨_, hf, h⟩

/-! Limit -/
theorem l31 : lowF Try.prog Try.f31 = some c31 := by kernel_rfl
def limS (l : List Slot) (fd n : Int) : List Slot × Int :=
  if (getS l fd).2 = 0 then
    if rightB n = false then ([], 3) else if withinB n (getS l fd).1.rts = false then ([], 10) else (l.set fd.toNat ⟨true, ⟨(getS l fd).1.opn, n⟩⟩, 0)
  else ([], (getS l fd).2)
set_option maxRecDepth 100000 in
set_option maxHeartbeats 2000000 in
theorem limit_body (l : List Slot) (hb : l.length ≤ 2097152) (fd n : Int) : body Try.prog c31 [slotsV l, vInt .i64 fd, vInt .i64 n] [] (fun r m => FrzV m r (.tup [slotsR (limS l fd n).1, iRV (limS l fd n).2])) := by
  refine get_ok l fd ?_
  refine bB_split (fun h => ?_) (fun h => ?_)
  · have h : ¬ (getS l fd).2 = 0 := by simpa using h
    rw [limS, if_neg h]
    exact frz2 (.one (.esl 3))
  · have h : (getS l fd).2 = 0 := by simpa using h
    rw [limS, if_pos h]
    refine right_ok n ?_
    refine bB_split (fun h1 => ?_) (fun h1 => ?_)
    · have h1 : rightB n = false := by simpa using h1
      rw [if_pos h1]
      exact frz2 (.one (.esl 3))
    · have h1 : rightB n = true := by simpa using h1
      rw [if_neg (by simp [h1])]
      refine within_ok _ _ ?_
      refine bB_split (fun h2 => ?_) (fun h2 => ?_)
      · have h2 : withinB n (getS l fd).1.rts = false := by simpa using h2
        rw [if_pos h2]
        exact frz2 (.one (.esl 3))
      · have h2 : withinB n (getS l fd).1.rts = true := by simpa using h2
        rw [if_neg (by simp [h2])]
        obtain ⟨d, rfl, hd, hhas, hcap⟩ := getS_ok h
        rw [show ((d : Nat) : Int).toNat = d from rfl]
        refine clone_row l hb (fun hl => by subst hl; simp at hd) ?_
        refine ok_some (idxZ_nat (k := d) (by simp [slotRows, lenOf]; omega)) ?_
        refine ok_some (x := (l[d].enc).map .dat) (by simp [nth_eq, slotRows, addN, hd]) ?_
        refine frz2 (.one ?_)
        have e : setN (slotRows l) d [CC.dat (.val (.bool l[d].has)), CC.dat (.val (.int .i64 l[d].cap.opn)), CC.dat (.val (.int .i64 n))] = dRows ((l.set d ⟨true, ⟨(getS l d).1.opn, n⟩⟩).map Slot.enc) := by
          rw [setN_eq, hhas, hcap]
          simp [slotRows, dRows, Slot.enc]
        exact FrzC.rowD (congrArg (fun x => some (Bk.row 3 x)) e) 0 none
set_option maxRecDepth 100000 in
theorem limit_ok (l : List Slot) (hb : l.length ≤ 2097152) (fd n : Int) {m : Mem} {K : CV → Mem → Prop} (h : K (.tup [slotsR (limS l fd n).1, iRV (limS l fd n).2]) m) : ACall Try.prog 31 [slotsV l, vInt .i64 fd, vInt .i64 n] m K :=
  acall_frame (acall_body Try.func31 l31 rfl (Nat.le_of_ble_eq_true rfl) (limit_body l hb fd n)) (by simp [slotsV, vInt, CV.isD, CC.isD]) fun r m1 hf => ⟨_, hf, h⟩

/-! Bits -/
def bitsD (n k : Nat) : List Dt := (List.range 12).map fun i => .val (.bool (decide (i < k) && n.testBit i))
theorem bitsD_succ {n k : Nat} (h : k < 12) (b : Bool) (hb : b = n.testBit k) : ((bitsD n k).map CC.dat).set k (.dat (.val (.bool b))) = (bitsD n (k + 1)).map CC.dat := by
  subst hb
  apply List.ext_getElem?
  intro i
  rw [List.getElem?_set]
  simp only [bitsD, List.map_map, List.length_map, List.length_range, List.getElem?_map]
  by_cases hi : k = i
  · subst hi
    rw [if_pos rfl, if_pos h, List.getElem?_range h]
    simp
  · rw [if_neg hi]
    rcases Nat.lt_or_ge i 12 with h2 | h2
    · rw [List.getElem?_range h2]
      have : (i < k) ↔ (i < k + 1) := by omega
      simp [this]
    · rw [List.getElem?_eq_none (by simpa using h2)]
      rfl
theorem tmod2 (n k : Nat) : ((((n / 2 ^ k : Nat) : Int).tmod 2) == 1) = n.testBit k := by
  rw [show (2 : Int) = ((2 : Nat) : Int) from rfl, ← Int.ofNat_tmod, Nat.testBit, Nat.shiftRight_eq_div_pow]
  have h : n / 2 ^ k % 2 < 2 := Nat.mod_lt _ (by omega)
  have e : 1 &&& n / 2 ^ k = n / 2 ^ k % 2 := by rw [Nat.and_comm, Nat.and_one_is_mod]
  rw [e]
  generalize n / 2 ^ k % 2 = x at h
  match x, h with
  | 0, _ => rfl
  | 1, _ => rfl
theorem tdiv2 (n k : Nat) (hn : n ≤ 4095) : IntKind.i64.wrap (((n / 2 ^ k : Nat) : Int).tdiv 2) = ((n / 2 ^ (k + 1) : Nat) : Int) := by
  have e : (((n / 2 ^ k : Nat) : Int).tdiv 2) = ((n / 2 ^ (k + 1) : Nat) : Int) := by
    rw [show (2 : Int) = ((2 : Nat) : Int) from rfl, ← Int.ofNat_tdiv, Nat.div_div_eq_div_mul, Nat.pow_succ]
  rw [e]
  have : n / 2 ^ (k + 1) ≤ n := Nat.div_le_self _ _
  exact wrapN (by omega)
def bitsV (n : Nat) : CV := .rv (.agg ((bitsD n 12).map CC.dat))
set_option maxRecDepth 100000 in
set_option maxHeartbeats 4000000 in
theorem bits_body (n : Nat) (hn : n ≤ 4095) : body Try.prog c87 [vInt .i64 n] [] (fun r m => r = bitsV n) := by
  refine loop_mem (fun k => k ≤ 12) (fun k => [(5, vInt .i64 (k : Nat)), (0, vInt .i64 ((n / 2 ^ k : Nat) : Int)), (4, .junk), (6, .junk), (7, .junk), (8, .junk), (9, .junk), (10, .junk), (11, .junk), (12, .junk), (13, .junk), (14, .junk), (15, .junk)])
    (fun k => [.var ((bitsD 0 0).map CC.dat), .var ((bitsD n k).map CC.dat)]) (fun k => 12 - k) 0 (Nat.zero_le _) ?_ (fun k hk => ?_)
  · refine View.of 2 [0, 1] [] rfl rfl rfl rfl rfl rfl ?_ ?_
    · repeat (first | exact .nil | refine .junk ?_ | refine .eq rfl ?_ | refine .eq (congrArg (fun x : Nat => vInt .i64 (x : Int)) (show n / 2 ^ 0 = n by simp)) ?_)
    · refine .put (by simp [memN]) rfl (.varDE ?_) (.put (by simp [memN]) rfl (.varDE ?_) (.nil _))
      · rfl
      · simp [bitsD, List.range, List.range.loop]
  · refine bB_split (fun h => ?_) (fun h => ?_)
    · have hlt : k < 12 := by
        have h : (k : Int) < 12 := of_decide_eq_true h
        omega
      refine ok_some (idxZ_nat hlt) ?_
      have hw : writeN ((bitsD n k).map CC.dat) (0 + k * 1) [.dat (.val (.bool ((((n / 2 ^ k : Nat) : Int).tmod 2) == 1)))] = some ((bitsD n (k + 1)).map CC.dat) := by
        rw [show 0 + k * 1 = k by omega, writeN_one (by simp [bitsD]; exact hlt), bitsD_succ hlt _ (tmod2 n k)]
      refine ok_some hw ?_
      refine ⟨k + 1, hlt, ?_, View.of 2 [0, 1] [] rfl rfl rfl rfl rfl rfl ?_ ?_⟩
      · show 12 - (k + 1) < 12 - k
        omega
      · repeat (first | exact .nil | refine .junk ?_ | refine .put (.ren (next_i64 (by omega)).symm) ?_ | refine .eq (congrArg (fun x => vInt .i64 x) (tdiv2 n k hn).symm) ?_ | refine .eq rfl ?_)
      · exact .put (by simp [memN]) rfl (.varDE rfl) (.put (by simp [memN]) rfl (.varDE rfl) (.nil _))
    · have hge : k = 12 := by
        have h : ¬ (k : Int) < 12 := of_decide_eq_false h
        have : k ≤ 12 := hk
        omega
      subst hge
      exact rfl

set_option maxRecDepth 100000 in
theorem bits_ok (n : Nat) (hn : n ≤ 4095) {m : Mem} {K : CV → Mem → Prop} (h : K (bitsV n) m) : ACall Try.prog 87 [vInt .i64 n] m K :=
  acall_val Try.func87 l87 rfl (Nat.le_of_ble_eq_true rfl) (bits_body n hn) rfl rfl h
theorem l36 : lowF Try.prog Try.f36 = some c36 := by kernel_rfl
def subB (a b : Nat) : Bool := (List.range 12).all fun k => !(a.testBit k && !b.testBit k)
theorem bits_get {n k : Nat} (h : k < 12) : readN ((bitsD n 12).map CC.dat) (0 + k * 1) 1 = some [.dat (.val (.bool (n.testBit k)))] := by
  rw [show 0 + k * 1 = k by omega]
  apply readN_one
  simp only [bitsD, List.map_map, List.getElem?_map, List.getElem?_range h]
  simp [h]
set_option maxRecDepth 100000 in
set_option maxHeartbeats 4000000 in
theorem rwithin_body (a b : Nat) (ha : a ≤ 4095) (hb : b ≤ 4095) : body Try.prog c36 [vInt .i64 a, vInt .i64 b] [] (fun r m => r = vBool (subB a b)) := by
  refine bits_ok a ha ?_
  refine bits_ok b hb ?_
  refine loop_mem (fun k => k ≤ 12 ∧ ∀ i, i < k → (a.testBit i && !b.testBit i) = false) (fun k => [(12, vInt .i64 (k : Nat)), (7, .junk), (9, .junk), (11, .junk), (13, .junk), (14, .junk), (15, .junk), (16, .junk), (17, .junk), (18, .junk), (19, .junk), (20, .junk), (21, .junk), (22, .junk), (23, .junk), (24, .junk)])
    (fun k => [.var ((bitsD a 12).map CC.dat), .var ((bitsD b 12).map CC.dat)]) (fun k => 12 - k) 0 ⟨Nat.zero_le _, fun i h => absurd h (Nat.not_lt_zero i)⟩ ?_ (fun k hk => ?_)
  · refine View.of 2 [0, 1] [] rfl rfl rfl rfl rfl rfl ?_ ?_
    · repeat (first | exact .nil | refine .junk ?_ | refine .eq rfl ?_)
    · exact .put (by simp [memN]) rfl (.varDE rfl) (.put (by simp [memN]) rfl (.varDE rfl) (.nil _))
  · refine bB_split (fun h => ?_) (fun h => ?_)
    · have hlt : k < 12 := by
        have h : (k : Int) < 12 := of_decide_eq_true h
        omega
      have fin : (a.testBit k && !b.testBit k) = true → subB a b = false := by
        intro h
        rw [subB, List.all_eq_false]
        exact ⟨k, by simpa using hlt, by simp only [h]; decide⟩
      have go : (a.testBit k && !b.testBit k) = false → ∀ i, i < k + 1 → (a.testBit i && !b.testBit i) = false := by
        intro h i hi
        rcases Nat.lt_or_ge i k with h5 | h5
        · exact hk.2 i h5
        · have : i = k := by omega
          rw [this]; exact h
      refine ok_some (idxZ_nat hlt) ?_
      refine ok_some (bits_get hlt) ?_
      refine bB_split (fun h1 => ?_) (fun h1 => ?_)
      · refine ok_some (idxZ_nat hlt) ?_
        refine ok_some (bits_get hlt) ?_
        refine bB_split (fun h2 => ?_) (fun h2 => ?_)
        · show vBool _ = vBool _
          rw [fin (by rw [h1]; exact h2)]
        · refine ⟨k + 1, ⟨hlt, go (by rw [h1]; exact h2)⟩, ?_, View.of 2 [0, 1] [] rfl rfl rfl rfl rfl rfl ?_ ?_⟩
          · show 12 - (k + 1) < 12 - k
            omega
          · repeat (first | exact .nil | refine .junk ?_ | refine .put (.ren (next_i64 (by omega)).symm) ?_ | refine .eq rfl ?_)
          · exact .put (by simp [memN]) rfl (.varDE rfl) (.put (by simp [memN]) rfl (.varDE rfl) (.nil _))
      · refine ⟨k + 1, ⟨hlt, go (by rw [h1]; rfl)⟩, ?_, View.of 2 [0, 1] [] rfl rfl rfl rfl rfl rfl ?_ ?_⟩
        · show 12 - (k + 1) < 12 - k
          omega
        · repeat (first | exact .nil | refine .junk ?_ | refine .put (.ren (next_i64 (by omega)).symm) ?_ | refine .eq rfl ?_)
        · exact .put (by simp [memN]) rfl (.varDE rfl) (.put (by simp [memN]) rfl (.varDE rfl) (.nil _))
    · have hge : k = 12 := by
        have h : ¬ (k : Int) < 12 := of_decide_eq_false h
        have : k ≤ 12 := hk.1
        omega
      subst hge
      show vBool _ = vBool _
      have : subB a b = true := by
        rw [subB, List.all_eq_true]
        intro i hi
        rw [hk.2 i (by simpa using hi)]; rfl
      rw [this]
set_option maxRecDepth 100000 in
theorem rwithin_ok (a b : Nat) (ha : a ≤ 4095) (hb : b ≤ 4095) {m : Mem} {K : CV → Mem → Prop} (h : K (vBool (subB a b)) m) : ACall Try.prog 36 [vInt .i64 a, vInt .i64 b] m K :=
  acall_val Try.func36 l36 rfl (Nat.le_of_ble_eq_true rfl) (rwithin_body a b ha hb) rfl rfl h
theorem sub_within (a b : Nat) (ha : a ≤ 4095) (hb : b ≤ 4095) : subB a b = withinB a b := by
  have e1 : BitVec.ofInt 64 (a : Int) = BitVec.ofNat 64 a := by simp
  have e2 : BitVec.ofInt 64 (b : Int) = BitVec.ofNat 64 b := by simp
  have hx : ∀ i, ((BitVec.ofNat 64 a &&& ~~~ BitVec.ofNat 64 b).toNat).testBit i = (a.testBit i && !b.testBit i) := by
    intro i
    rw [BitVec.testBit_toNat]
    rcases Nat.lt_or_ge i 64 with h | h
    · rw [BitVec.getLsbD_and, BitVec.getLsbD_not, BitVec.getLsbD_ofNat, BitVec.getLsbD_ofNat]
      simp [h]
    · have : a.testBit i = false := Nat.testBit_lt_two_pow (Nat.lt_of_lt_of_le (by omega : a < 2 ^ 12) (Nat.pow_le_pow_right (by omega) (by omega)))
      simp [this, BitVec.getLsbD_of_ge _ _ h]
  have hsmall : (BitVec.ofNat 64 a &&& ~~~ BitVec.ofNat 64 b).toNat ≤ a := by
    rw [BitVec.toNat_and]
    refine Nat.le_trans Nat.and_le_left ?_
    simp; omega
  rw [withinB, e1, e2, wrapN (by omega)]
  cases hs : subB a b
  · rw [subB, List.all_eq_false] at hs
    obtain ⟨k, _, hk⟩ := hs
    have hk : (a.testBit k && !b.testBit k) = true := by
      cases h : (a.testBit k && !b.testBit k)
      · rw [h] at hk; exact absurd rfl hk
      · rfl
    symm
    rw [beq_eq_false_iff_ne]
    intro h0
    have h0 : (BitVec.ofNat 64 a &&& ~~~ BitVec.ofNat 64 b).toNat = 0 := by omega
    have := hx k
    rw [h0, hk] at this
    simp at this
  · rw [subB, List.all_eq_true] at hs
    symm
    rw [beq_iff_eq]
    have : (BitVec.ofNat 64 a &&& ~~~ BitVec.ofNat 64 b).toNat = 0 := by
      apply Nat.eq_of_testBit_eq
      intro i
      rw [hx i, Nat.zero_testBit]
      rcases Nat.lt_or_ge i 12 with h | h
      · have := hs i (by simpa using h)
        cases h2 : (a.testBit i && !b.testBit i)
        · rfl
        · rw [h2] at this; cases this
      · have : a.testBit i = false := Nat.testBit_lt_two_pow (Nat.lt_of_lt_of_le (by omega : a < 2 ^ 12) (Nat.pow_le_pow_right (by omega) h))
        simp [this]
    omega

theorem sub_within_of {k q : Nat} {r : Int} (hq : r = q) (hk : k ≤ 4095) (hq2 : q ≤ 4095) : subB k q = withinB k r := by
  subst hq; exact sub_within k q hk hq2
theorem l32 : lowF Try.prog Try.f32 = some c32 := by kernel_rfl
set_option maxRecDepth 100000 in
set_option maxHeartbeats 2000000 in
theorem rlimit_body (l : List Slot) (hb : l.length ≤ 2097152) (fd n : Int) (hr : ∀ s, s ∈ l → 0 ≤ s.cap.rts ∧ s.cap.rts ≤ 4095) : body Try.prog c32 [slotsV l, vInt .i64 fd, vInt .i64 n] [] (fun r m => FrzV m r (.tup [slotsR (limS l fd n).1, iRV (limS l fd n).2])) := by
  refine rget_ok l fd ?_
  refine bB_split (fun h => ?_) (fun h => ?_)
  · have h : ¬ (getS l fd).2 = 0 := by simpa using h
    rw [limS, if_neg h]
    exact frz2 (.one (.esl 3))
  · have h : (getS l fd).2 = 0 := by simpa using h
    obtain ⟨d, rfl, hd, hhas, hcap⟩ := getS_ok h
    have hrd := hr _ (List.getElem_mem hd)
    have bad : rightB n = false → limS l d n = ([], 3) := by
      intro h1
      rw [limS, if_pos h, if_pos h1]
    refine bB_split (fun h1 => ?_) (fun h1 => ?_)
    · rw [bad (rightB_iff.2 (.inl (of_decide_eq_true h1)))]
      exact frz2 (.one (.esl 3))
    · refine bB_split (fun h2 => ?_) (fun h2 => ?_)
      · rw [bad (rightB_iff.2 (.inr (of_decide_eq_true h2)))]
        exact frz2 (.one (.esl 3))
      · clear bad
        have h1 : ¬ n < 0 := of_decide_eq_false h1
        have h2 : ¬ n > 4095 := of_decide_eq_false h2
        obtain ⟨k, rfl⟩ : ∃ k : Nat, n = k := ⟨n.toNat, by omega⟩
        have hk : k ≤ 4095 := by omega
        have hrb : ¬ rightB k = false := by rw [rightB_iff]; omega
        obtain ⟨q, hq⟩ : ∃ q : Nat, (getS l d).1.rts = q := ⟨(getS l d).1.rts.toNat, by rw [hcap]; omega⟩
        have hq2 : q ≤ 4095 := by rw [hcap] at hq; omega
        have hlim : limS l d k = if subB k q = false then ([], 10) else (l.set d ⟨true, ⟨(getS l d).1.opn, k⟩⟩, 0) := by
          rw [limS, if_pos h, if_neg hrb, sub_within_of hq hk hq2]; rfl
        have hcall : ∀ {m : Mem} {K : CV → Mem → Prop}, K (vBool (subB k q)) m → ACall Try.prog 36 [vInt .i64 k, vInt .i64 (getS l d).1.rts] m K := by
          intro m K h
          rw [hq]
          exact rwithin_ok k q hk hq2 h
        refine hcall ?_
        refine bB_split (fun h3 => ?_) (fun h3 => ?_)
        · have h3 : subB k q = false := by simpa using h3
          rw [hlim, if_pos h3]
          exact frz2 (.one (.esl 3))
        · have h3 : subB k q = true := by simpa using h3
          rw [hlim, if_neg (by simp [h3])]
          refine ⟨by simp [subL]; omega, ?_⟩
          refine ok_some (idxZ_nat (k := d) (by simp [lenOf, subL]; omega)) ?_
          refine ok_some (x := (l[d].enc).map .dat) (by simp [nth_eq, addN, hd, subL]) ?_
          refine frz2 (.one ?_)
          have e : setN (dRows (l.map Slot.enc)) d [CC.dat (.val (.bool true)), CC.dat (.val (.int .i64 (getS l d).1.opn)), CC.dat (.val (.int .i64 k))] = dRows ((l.set d ⟨true, ⟨(getS l d).1.opn, k⟩⟩).map Slot.enc) := by
            rw [setN_eq]
            simp [dRows, Slot.enc]
          exact FrzC.rowD (congrArg (fun x => some (Bk.row 3 x)) e) 0 none
set_option maxRecDepth 100000 in
theorem rlimit_ok (l : List Slot) (hb : l.length ≤ 2097152) (fd n : Int) (hr : ∀ s, s ∈ l → 0 ≤ s.cap.rts ∧ s.cap.rts ≤ 4095) {m : Mem} {K : CV → Mem → Prop} (h : K (.tup [slotsR (limS l fd n).1, iRV (limS l fd n).2]) m) : ACall Try.prog 32 [slotsV l, vInt .i64 fd, vInt .i64 n] m K :=
  acall_frame (acall_body Try.func32 l32 rfl (Nat.le_of_ble_eq_true rfl) (rlimit_body l hb fd n hr)) (by simp [slotsV, vInt, CV.isD, CC.isD]) fun r m1 hf => ⟨_, hf, h⟩
end Go.Proofs.Ytflieebgiejjpaa
