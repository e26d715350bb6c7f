import Derived.Test.YtjllbjbpdnhceaaAmZ2
import Derived.Test.YtjllbjbpdnhceaaDvGE
import Derived.Test.YtjllbjbpdnhceaaDvGC
import Derived.Test.YtjllbjbpdnhceaaAmY
set_option linter.unusedVariables false
set_option linter.unusedSimpArgs false
namespace Go.Proofs.Ytjllbjbpdnhceaa
open Go.AM Go.ChangeShapes Go.WideShapes Go.ChangeAt Go.RowKit
def c3 : LF := ⟨51, [.tmp 4], (.seq (.reg [
    ⟨(some 3), .box (.t 1), none⟩,
    ⟨(some 4), .mov (.c (.rv (.one (.dat (.val (.bool false)))))), none⟩]) (.seq (.seq (.reg [
    ⟨(some 10), .call (.c (.rv (.one (.fn 5 [])))) [], none⟩,
    ⟨(some 11), .un .not (.t 10), none⟩]) (.cond (.t 11) (.seq (.reg [
    ⟨(some 4), .mov (.c (.rv (.one (.dat (.val (.bool false)))))), none⟩]) .ret) .skip)) (.seq (.reg [
    ⟨(some 13), .mov (.t 0), none⟩,
    ⟨(some 14), .call (.c (.rv (.one (.fn 6 [])))) [(.t 13)], none⟩,
    ⟨(some 12), .mov (.t 14), none⟩,
    ⟨(some 15), .ext (.t 12) 0, none⟩,
    ⟨(some 16), .ext (.t 12) 1, none⟩,
    ⟨(some 6), .alloc [(.dat (.val (.int .i64 (0)))), (.dat (.val (.int .i64 (0))))], none⟩,
    ⟨(some 5), .mov (.t 15), none⟩,
    ⟨none, .store 2 (.t 6) (.t 16), none⟩]) (.seq (.seq (.reg [
    ⟨(some 17), .mov (.t 0), none⟩,
    ⟨(some 18), .call (.c (.rv (.one (.fn 7 [])))) [(.t 17)], none⟩,
    ⟨(some 7), .alloc [(.dat (.val (.int .i64 (0)))), (.dat (.val (.int .i64 (0))))], none⟩,
    ⟨none, .store 2 (.t 7) (.t 18), none⟩]) (.seq (.reg [
    ⟨(some 19), .fadr 0 (.t 7), none⟩,
    ⟨(some 20), .load false 1 (.t 19), none⟩,
    ⟨(some 21), .bin .neq (.t 20) (.c (.rv (.one (.dat (.val (.int .i64 (0))))))), none⟩]) (.cond (.t 21) (.seq (.reg [
    ⟨(some 22), .load true 2 (.t 6), none⟩,
    ⟨(some 23), .load true 2 (.t 7), none⟩,
    ⟨(some 24), .eqa false [.i, .i] (.t 22) (.t 23), none⟩,
    ⟨(some 25), .mov (.t 24), none⟩,
    ⟨(some 26), .mov (.t 5), (some (25, true))⟩,
    ⟨(some 27), .len 1 (.t 26), (some (25, true))⟩,
    ⟨(some 28), .bin .eql (.t 27) (.c (.rv (.one (.dat (.val (.int .i64 (0))))))), (some (25, true))⟩,
    ⟨(some 29), .pick (.t 25) (.t 28) (.c (.rv (.one (.dat (.val (.bool false)))))), none⟩,
    ⟨(some 4), .mov (.t 29), none⟩]) .ret) .skip))) (.seq (.seq (.reg [
    ⟨(some 30), .fadr 0 (.t 6), none⟩,
    ⟨(some 31), .load false 1 (.t 30), none⟩,
    ⟨(some 32), .bin .neq (.t 31) (.c (.rv (.one (.dat (.val (.int .i64 (0))))))), none⟩,
    ⟨(some 33), .mov (.t 32), none⟩,
    ⟨(some 34), .mov (.t 5), (some (33, false))⟩,
    ⟨(some 35), .call (.c (.rv (.one (.fn 8 [])))) [(.t 34)], (some (33, false))⟩,
    ⟨(some 36), .fld false 0 1 (.t 35), (some (33, false))⟩,
    ⟨(some 37), .bin .neq (.t 36) (.c (.rv (.one (.dat (.val (.int .i64 (0))))))), (some (33, false))⟩,
    ⟨(some 38), .pick (.t 33) (.c (.rv (.one (.dat (.val (.bool true)))))) (.t 37), none⟩]) (.cond (.t 38) (.seq (.reg [
    ⟨(some 4), .mov (.c (.rv (.one (.dat (.val (.bool false)))))), none⟩]) .ret) .skip)) (.seq (.reg [
    ⟨(some 40), .mov (.t 5), none⟩,
    ⟨(some 41), .load true 6 (.t 3), none⟩,
    ⟨(some 42), .call (.c (.rv (.one (.fn 9 [])))) [(.t 40), (.t 41)], none⟩,
    ⟨(some 39), .mov (.t 42), none⟩,
    ⟨(some 43), .ext (.t 39) 0, none⟩,
    ⟨(some 44), .ext (.t 39) 1, none⟩,
    ⟨(some 8), .mov (.t 43), none⟩,
    ⟨(some 9), .mov (.t 44), none⟩]) (.seq (.reg [
    ⟨(some 45), .mov (.t 8), none⟩,
    ⟨(some 46), .bin .eql (.t 45) (.c (.rv (.one (.dat (.val (.int .i64 (1))))))), none⟩,
    ⟨(some 47), .mov (.t 0), none⟩,
    ⟨(some 48), .load true 6 (.t 3), none⟩,
    ⟨(some 49), .call (.c (.rv (.one (.fn 10 [])))) [(.t 47), (.t 48)], none⟩,
    ⟨(some 50), .beq false (.t 46) (.t 49), none⟩,
    ⟨(some 4), .mov (.t 50), none⟩]) .ret)))))))⟩
def c5 : LF := ⟨57, [.tmp 0], (.seq (.reg [
    ⟨(some 0), .mov (.c (.rv (.one (.dat (.val (.bool false)))))), none⟩]) (.seq (.reg [
    ⟨(some 8), .build [(.dat (.val (.int .i64 (0)))), .esl] [(0, 1, (.c (.rv (.one (.dat (.val (.int .i64 (9))))))))], none⟩,
    ⟨(some 9), .build [(.dat (.val (.int .i64 (0)))), (.dat (.val (.int .i64 (0))))] [(0, 1, (.c (.rv (.one (.dat (.val (.int .i64 (1)))))))), (1, 1, (.c (.rv (.one (.dat (.val (.int .i64 (2))))))))], none⟩,
    ⟨(some 10), .bsl 2 [(.dat (.val (.int .i64 (0)))), (.dat (.val (.int .i64 (0))))] 1 [(0, (.t 9))], none⟩,
    ⟨(some 11), .build [(.dat (.val (.int .i64 (0)))), .esl] [(0, 1, (.c (.rv (.one (.dat (.val (.int .i64 (4)))))))), (1, 1, (.t 10))], none⟩,
    ⟨(some 12), .bsl 2 [(.dat (.val (.int .i64 (0)))), .esl] 2 [(0, (.t 8)), (1, (.t 11))], none⟩,
    ⟨(some 1), .mov (.t 12), none⟩]) (.ghost (.seq (.reg [
    ⟨(some 14), .mov (.t 1), none⟩,
    ⟨(some 15), .call (.c (.rv (.one (.fn 6 [])))) [(.t 14)], none⟩,
    ⟨(some 13), .mov (.t 15), none⟩,
    ⟨(some 16), .ext (.t 13) 0, none⟩,
    ⟨(some 17), .ext (.t 13) 1, none⟩,
    ⟨(some 3), .alloc [(.dat (.val (.int .i64 (0)))), (.dat (.val (.int .i64 (0))))], none⟩,
    ⟨(some 2), .mov (.t 16), none⟩,
    ⟨none, .store 2 (.t 3) (.t 17), none⟩]) (.seq (.reg [
    ⟨(some 19), .mov (.t 2), none⟩,
    ⟨(some 20), .build [(.dat (.val (.int .i64 (0)))), (.dat (.val (.int .i64 (0)))), (.dat (.val (.int .i64 (0)))), (.dat (.val (.int .i64 (0)))), (.dat (.val (.int .i64 (0)))), (.dat (.val (.int .i64 (0))))] [(0, 1, (.c (.rv (.one (.dat (.val (.int .i64 (4)))))))), (1, 1, (.c (.rv (.one (.dat (.val (.int .i64 (1))))))))], none⟩,
    ⟨(some 21), .call (.c (.rv (.one (.fn 9 [])))) [(.t 19), (.t 20)], none⟩,
    ⟨(some 18), .mov (.t 21), none⟩,
    ⟨(some 22), .ext (.t 18) 0, none⟩,
    ⟨(some 23), .ext (.t 18) 1, none⟩,
    ⟨(some 4), .mov (.t 22), none⟩,
    ⟨(some 5), .mov (.t 23), none⟩]) (.seq (.reg [
    ⟨(some 25), .mov (.t 2), none⟩,
    ⟨(some 26), .build [(.dat (.val (.int .i64 (0)))), (.dat (.val (.int .i64 (0)))), (.dat (.val (.int .i64 (0)))), (.dat (.val (.int .i64 (0)))), (.dat (.val (.int .i64 (0)))), (.dat (.val (.int .i64 (0))))] [(0, 1, (.c (.rv (.one (.dat (.val (.int .i64 (4)))))))), (1, 1, (.c (.rv (.one (.dat (.val (.int .i64 (2))))))))], none⟩,
    ⟨(some 27), .call (.c (.rv (.one (.fn 9 [])))) [(.t 25), (.t 26)], none⟩,
    ⟨(some 24), .mov (.t 27), none⟩,
    ⟨(some 28), .ext (.t 24) 0, none⟩,
    ⟨(some 29), .ext (.t 24) 1, none⟩,
    ⟨(some 6), .mov (.t 28), none⟩,
    ⟨(some 7), .mov (.t 29), none⟩]) (.seq (.reg [
    ⟨(some 30), .fadr 0 (.t 3), none⟩,
    ⟨(some 31), .load false 1 (.t 30), none⟩,
    ⟨(some 32), .bin .eql (.t 31) (.c (.rv (.one (.dat (.val (.int .i64 (0))))))), none⟩,
    ⟨(some 33), .mov (.t 32), none⟩,
    ⟨(some 34), .mov (.t 2), (some (33, true))⟩,
    ⟨(some 35), .len 1 (.t 34), (some (33, true))⟩,
    ⟨(some 36), .bin .gtr (.t 35) (.c (.rv (.one (.dat (.val (.int .i64 (5))))))), (some (33, true))⟩,
    ⟨(some 37), .pick (.t 33) (.t 36) (.c (.rv (.one (.dat (.val (.bool false)))))), none⟩,
    ⟨(some 38), .mov (.t 37), none⟩,
    ⟨(some 39), .mov (.t 4), (some (38, true))⟩,
    ⟨(some 40), .bin .eql (.t 39) (.c (.rv (.one (.dat (.val (.int .i64 (1))))))), (some (38, true))⟩,
    ⟨(some 41), .pick (.t 38) (.t 40) (.c (.rv (.one (.dat (.val (.bool false)))))), none⟩,
    ⟨(some 42), .mov (.t 41), none⟩,
    ⟨(some 43), .mov (.t 6), (some (42, true))⟩,
    ⟨(some 44), .bin .eql (.t 43) (.c (.rv (.one (.dat (.val (.int .i64 (0))))))), (some (42, true))⟩,
    ⟨(some 45), .pick (.t 42) (.t 44) (.c (.rv (.one (.dat (.val (.bool false)))))), none⟩,
    ⟨(some 46), .mov (.t 45), none⟩,
    ⟨(some 47), .mov (.t 1), (some (46, true))⟩,
    ⟨(some 48), .call (.c (.rv (.one (.fn 7 [])))) [(.t 47)], (some (46, true))⟩,
    ⟨(some 49), .fld false 0 1 (.t 48), (some (46, true))⟩,
    ⟨(some 50), .bin .eql (.t 49) (.c (.rv (.one (.dat (.val (.int .i64 (0))))))), (some (46, true))⟩,
    ⟨(some 51), .pick (.t 46) (.t 50) (.c (.rv (.one (.dat (.val (.bool false)))))), none⟩,
    ⟨(some 52), .mov (.t 51), none⟩,
    ⟨(some 53), .mov (.t 1), (some (52, true))⟩,
    ⟨(some 54), .build [(.dat (.val (.int .i64 (0)))), (.dat (.val (.int .i64 (0)))), (.dat (.val (.int .i64 (0)))), (.dat (.val (.int .i64 (0)))), (.dat (.val (.int .i64 (0)))), (.dat (.val (.int .i64 (0))))] [(0, 1, (.c (.rv (.one (.dat (.val (.int .i64 (9))))))))], (some (52, true))⟩,
    ⟨(some 55), .call (.c (.rv (.one (.fn 12 [])))) [(.t 53), (.t 54)], (some (52, true))⟩,
    ⟨(some 56), .pick (.t 52) (.t 55) (.c (.rv (.one (.dat (.val (.bool false)))))), none⟩,
    ⟨(some 0), .mov (.t 56), none⟩]) .ret)))))))⟩
theorem l5 : lowF Try.prog Try.f5 = some c5.er := by kernel_rfl
theorem l3 : lowF Try.prog Try.f3 = some c3 := by kernel_rfl
theorem lenI {α : Type} (l : List α) : ((l.length : Nat) : Int) = (l.length : Int) := rfl
theorem comp_pos (l : List Pol) : 2 ≤ (compS l).length := by
  have := (treeF_pos l.length l).1
  simp [compS]; omega
def aPol : List Pol := [⟨9, []⟩, ⟨4, [⟨1, 2⟩]⟩]
theorem aWrong : wrongS aPol = (0, 0) := by decide
theorem aLet1 : letB aPol ⟨4, 1, 0, 0, 0, 0⟩ 4 = true := by decide
theorem aLet2 : letB aPol ⟨4, 2, 0, 0, 0, 0⟩ 4 = false := by decide
theorem aAllow : allowS aPol ⟨9, 0, 0, 0, 0, 0⟩ = true := by decide
theorem two_perm {l l' : List Pol} (hp : l'.Perm l) (h : l.length = 2) (hm : ∃ p, p ∈ l ∧ 1 ≤ p.masks.length) : 6 ≤ (compS l').length := by
  have hl : l'.length = 2 := hp.length_eq.trans h
  match l', hl with
  | [a, b], _ =>
    have e : (compS [a, b]).length = 3 + ((leafS a).length + (leafS b).length) := by
      simp [compS, treeF]
      omega
    rw [e]
    simp [leafS, leafM_len]
    omega
theorem aFrz {m : Mem} (h0 : m[0]? = some (.row 2 [[.dat (.val (.int .i64 1)), .dat (.val (.int .i64 2))]])) (h1 : m[1]? = some (.row 2 [[.dat (.val (.int .i64 9)), .esl], [.dat (.val (.int .i64 4)), .row 0 2 0 none]])) :
    FrzD m (fun k => memN [0, 1] k = true) none (.row 1 2 0 none) (.sl 2 (aPol.map Pol.enc)) := by
  refine .row 1 2 0 none _ (aPol.map Pol.enc) rfl h1 rfl (fun i cs es e1 e2 => ?_) fun i cs es j c d e1 e2 e3 e4 => ?_
  · match i with
    | 0 => cases e1; cases e2; rfl
    | 1 => cases e1; cases e2; rfl
    | n + 2 => simp at e1
  · match i with
    | 0 =>
      cases e1; cases e2
      match j with
      | 0 => cases e3; cases e4; exact .dat _
      | 1 => cases e3; cases e4; exact .esl 2
      | n + 2 => simp at e3
    | 1 =>
      cases e1; cases e2
      match j with
      | 0 => cases e3; cases e4; exact .dat _
      | 1 => cases e3; cases e4; exact FrzD.rowD (Z := fun k => memN [0, 1] k = true) (ds := [Msk.enc ⟨1, 2⟩]) rfl h0 0 none
      | n + 2 => simp at e3
    | n + 2 => simp at e1
set_option maxRecDepth 100000 in
set_option maxHeartbeats 16000000 in
theorem galive_body : body Try.prog c5 [] [] (fun r m => r = vBool true) := by
  refine ghost_keep [] [(1, polsV aPol)] [] (View.of 2 [] [0, 1] rfl rfl rfl rfl rfl rfl ?_ (.nil _)) ?_
  · repeat (first | exact .nil | refine .junk ?_ | refine .put (.rv (.one (.frz (aFrz rfl rfl)))) ?_ | refine .eq rfl ?_)
  refine comp_ok aPol (fun h => absurd (by rw [aWrong]) h) (fun _ l' hp hr => ?_)
  obtain ⟨h30, hg, hd⟩ := wrong_facts (l := aPol) (by rw [aWrong])
  have hg' : ∀ p, p ∈ l' → goodP p := fun p hp' => hg p (hp.mem_iff.1 hp')
  have h30' : l'.length ≤ 30 := by rw [hp.length_eq]; exact h30
  have h1 : (runS (compS l') ⟨4, 1, 0, 0, 0, 0⟩).1 = 1 := by
    rw [comp_run _ hg' h30' hr, letB_perm hp]
    exact if_pos aLet1
  have h2 : (runS (compS l') ⟨4, 2, 0, 0, 0, 0⟩).1 = 0 := by
    rw [comp_run _ hg' h30' hr, letB_perm hp]
    exact if_neg (by rw [show letB aPol ⟨4, 2, 0, 0, 0, 0⟩ 4 = false from aLet2]; simp)
  have h6 : 6 ≤ (compS l').length := two_perm hp rfl ⟨⟨4, [⟨1, 2⟩]⟩, by simp [aPol], by simp⟩
  refine rrun_ok (compS l') ⟨4, 1, 0, 0, 0, 0⟩ ?_
  refine rrun_ok (compS l') ⟨4, 2, 0, 0, 0, 0⟩ ?_
  refine bB_yes (by rw [decide_eq_true_iff, List.length_map]; omega) ?_
  refine bB_yes (by rw [h1]; rfl) ?_
  refine bB_yes (by rw [h2]; rfl) ?_
  refine wrong_ok aPol ?_
  rw [aWrong]
  refine allows_ok aPol ⟨9, 0, 0, 0, 0, 0⟩ h30 (wrong_ok_of (by rw [aWrong])).2 (fun p hp' => by have := (hg p hp').2.2.1; omega) ?_
  rw [aAllow]
  rfl
set_option maxRecDepth 100000 in
theorem galive_ok {m : Mem} {K : CV → Mem → Prop} (h : K (vBool true) m) : ACall Try.prog 5 [] m K :=
  acall_val_g Try.func5 l5 rfl (Nat.le_of_ble_eq_true rfl) galive_body rfl rfl h
set_option maxRecDepth 100000 in
set_option maxHeartbeats 16000000 in
theorem gsame_body (l : List Pol) (r : Rec) (hm : ∀ p, p ∈ l → p.masks.length ≤ 4194304) : body Try.prog c3 [polsV l, r.cv] [] (fun x m => x = vBool true) := by
  refine galive_ok ?_
  refine comp_ok l (fun h => ?_) (fun h l' hp hr => ?_)
  · refine wrong_ok l ?_
    refine bB_bne (fun _ => ?_) (fun h2 => absurd h2 h)
    refine bB_yes (by simp) ?_
    rfl
  · refine wrong_ok l ?_
    refine bB_bne (fun h2 => absurd h h2) (fun _ => ?_)
    obtain ⟨h30, hg, hd⟩ := wrong_facts h
    have hg' : ∀ p, p ∈ l' → goodP p := fun p hp' => hg p (hp.mem_iff.1 hp')
    have h30' : l'.length ≤ 30 := by rw [hp.length_eq]; exact h30
    refine rcheck_ok (compS l') ?_
    rw [comp_check hg' h30']
    refine rrun_ok (compS l') r ?_
    have hrun := comp_run r hg' h30' hr
    rw [letB_perm hp, ← allow_let hd] at hrun
    refine rallows_ok l r h30 (wrong_ok_of h).2 hm ?_
    show vBool (((runS (compS l') r).1 == 1) == allowS l r) = vBool true
    rw [hrun]
    cases allowS l r <;> rfl
set_option maxRecDepth 100000 in
theorem gsame_ok (l : List Pol) (r : Rec) (hm : ∀ p, p ∈ l → p.masks.length ≤ 4194304) : ACall Try.prog 3 [polsV l, r.cv] [] (fun x m => x = vBool true) :=
  acall_body Try.func3 l3 rfl (Nat.le_of_ble_eq_true rfl) (gsame_body l r hm)


end Go.Proofs.Ytjllbjbpdnhceaa
