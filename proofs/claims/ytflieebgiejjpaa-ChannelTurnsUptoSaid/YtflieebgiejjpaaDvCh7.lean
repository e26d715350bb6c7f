import Derived.Test.YtflieebgiejjpaaAmZ2
import Derived.Test.YtflieebgiejjpaaDvCh6
import Derived.Test.YtflieebgiejjpaaAmY
set_option linter.unusedVariables false
set_option linter.unusedSimpArgs false
namespace Go.Proofs.Ytflieebgiejjpaa
open Go.AM Go.ChangeShapes Go.WideShapes Go.ChangeAt Go.RowKit
def c55 : LF := ⟨70, [.tmp 0], (.seq (.reg [
    ⟨(some 0), .mov (.c (.rv (.one (.dat (.val (.bool false)))))), none⟩]) (.seq (.reg [
    ⟨(some 13), .build [(.dat (.val (.int .i64 (0)))), .esl, .esl, (.dat (.val (.string ⟨#[]⟩))), (.dat (.val (.int .i64 (0)))), .esl, (.dat (.val (.int .i64 (0)))), (.dat (.val (.int .i64 (0)))), (.dat (.val (.int .i64 (0))))] [(0, 1, (.c (.rv (.one (.dat (.val (.int .i64 (2))))))))], none⟩,
    ⟨(some 14), .bsl 9 [(.dat (.val (.int .i64 (0)))), .esl, .esl, (.dat (.val (.string ⟨#[]⟩))), (.dat (.val (.int .i64 (0)))), .esl, (.dat (.val (.int .i64 (0)))), (.dat (.val (.int .i64 (0)))), (.dat (.val (.int .i64 (0))))] 1 [(0, (.t 13))], none⟩,
    ⟨(some 15), .call (.c (.rv (.one (.fn 48 [])))) [(.t 14)], none⟩,
    ⟨(some 12), .mov (.t 15), none⟩,
    ⟨(some 16), .ext (.t 12) 0, none⟩,
    ⟨(some 17), .ext (.t 12) 1, none⟩,
    ⟨(some 18), .ext (.t 12) 2, none⟩,
    ⟨(some 2), .alloc [(.dat (.val (.int .i64 (0)))), (.dat (.val (.int .i64 (0))))], none⟩,
    ⟨(some 1), .mov (.t 16), none⟩,
    ⟨none, .store 2 (.t 2) (.t 17), none⟩,
    ⟨(some 3), .mov (.t 18), none⟩]) (.seq (.reg [
    ⟨(some 20), .mov (.t 1), none⟩,
    ⟨(some 21), .idxa 2 1 (.t 2) (.c (.rv (.one (.dat (.val (.int .i64 (0))))))), none⟩,
    ⟨(some 22), .load false 1 (.t 21), none⟩,
    ⟨(some 23), .bsl 1 [(.dat (.val (.int .u8 (0))))] 2 [(0, (.c (.rv (.one (.dat (.val (.int .u8 (104)))))))), (1, (.c (.rv (.one (.dat (.val (.int .u8 (105))))))))], none⟩,
    ⟨(some 24), .idb (.t 23), none⟩,
    ⟨(some 25), .build [.esl, (.dat (.val (.bool false))), (.dat (.val (.int .i64 (0)))), (.dat (.val (.int .i64 (0))))] [(0, 1, (.t 24))], none⟩,
    ⟨(some 26), .call (.c (.rv (.one (.fn 51 [])))) [(.t 20), (.t 22), (.t 25)], none⟩,
    ⟨(some 19), .mov (.t 26), none⟩,
    ⟨(some 27), .ext (.t 19) 0, none⟩,
    ⟨(some 28), .ext (.t 19) 1, none⟩,
    ⟨(some 4), .mov (.t 27), none⟩,
    ⟨(some 5), .mov (.t 28), none⟩]) (.seq (.reg [
    ⟨(some 30), .mov (.t 4), none⟩,
    ⟨(some 31), .idxa 2 1 (.t 2) (.c (.rv (.one (.dat (.val (.int .i64 (1))))))), none⟩,
    ⟨(some 32), .load false 1 (.t 31), none⟩,
    ⟨(some 33), .call (.c (.rv (.one (.fn 53 [])))) [(.t 30), (.t 32)], none⟩,
    ⟨(some 29), .mov (.t 33), none⟩,
    ⟨(some 34), .ext (.t 29) 0, none⟩,
    ⟨(some 35), .ext (.t 29) 1, none⟩,
    ⟨(some 36), .ext (.t 29) 2, none⟩,
    ⟨(some 7), .alloc [.esl, (.dat (.val (.bool false))), (.dat (.val (.int .i64 (0)))), (.dat (.val (.int .i64 (0))))], none⟩,
    ⟨(some 6), .mov (.t 34), none⟩,
    ⟨none, .store 4 (.t 7) (.t 35), none⟩,
    ⟨(some 8), .mov (.t 36), none⟩]) (.seq (.reg [
    ⟨(some 38), .mov (.t 4), none⟩,
    ⟨(some 39), .idxa 2 1 (.t 2) (.c (.rv (.one (.dat (.val (.int .i64 (0))))))), none⟩,
    ⟨(some 40), .load false 1 (.t 39), none⟩,
    ⟨(some 41), .call (.c (.rv (.one (.fn 53 [])))) [(.t 38), (.t 40)], none⟩,
    ⟨(some 37), .mov (.t 41), none⟩,
    ⟨(some 42), .ext (.t 37) 0, none⟩,
    ⟨(some 43), .ext (.t 37) 1, none⟩,
    ⟨(some 44), .ext (.t 37) 2, none⟩,
    ⟨(some 10), .alloc [.esl, (.dat (.val (.bool false))), (.dat (.val (.int .i64 (0)))), (.dat (.val (.int .i64 (0))))], none⟩,
    ⟨(some 9), .mov (.t 42), none⟩,
    ⟨none, .store 4 (.t 10) (.t 43), none⟩,
    ⟨(some 11), .mov (.t 44), none⟩]) (.seq (.reg [
    ⟨(some 45), .mov (.t 3), none⟩,
    ⟨(some 46), .bin .eql (.t 45) (.c (.rv (.one (.dat (.val (.int .i64 (0))))))), none⟩,
    ⟨(some 47), .mov (.t 46), none⟩,
    ⟨(some 48), .mov (.t 5), (some (47, true))⟩,
    ⟨(some 49), .bin .eql (.t 48) (.c (.rv (.one (.dat (.val (.int .i64 (0))))))), (some (47, true))⟩,
    ⟨(some 50), .pick (.t 47) (.t 49) (.c (.rv (.one (.dat (.val (.bool false)))))), none⟩,
    ⟨(some 51), .mov (.t 50), none⟩,
    ⟨(some 52), .mov (.t 8), (some (51, true))⟩,
    ⟨(some 53), .bin .eql (.t 52) (.c (.rv (.one (.dat (.val (.int .i64 (0))))))), (some (51, true))⟩,
    ⟨(some 54), .pick (.t 51) (.t 53) (.c (.rv (.one (.dat (.val (.bool false)))))), none⟩,
    ⟨(some 55), .mov (.t 54), none⟩,
    ⟨(some 56), .mov (.t 11), (some (55, true))⟩,
    ⟨(some 57), .bin .eql (.t 56) (.c (.rv (.one (.dat (.val (.int .i64 (16))))))), (some (55, true))⟩,
    ⟨(some 58), .pick (.t 55) (.t 57) (.c (.rv (.one (.dat (.val (.bool false)))))), none⟩,
    ⟨(some 59), .mov (.t 58), none⟩,
    ⟨(some 60), .load true 2 (.t 2), (some (59, true))⟩,
    ⟨(some 61), .build [(.dat (.val (.int .i64 (0)))), (.dat (.val (.int .i64 (0))))] [(0, 1, (.c (.rv (.one (.dat (.val (.int .i64 (1)))))))), (1, 1, (.c (.rv (.one (.dat (.val (.int .i64 (2))))))))], (some (59, true))⟩,
    ⟨(some 62), .eqa false [.i, .i] (.t 60) (.t 61), (some (59, true))⟩,
    ⟨(some 63), .pick (.t 59) (.t 62) (.c (.rv (.one (.dat (.val (.bool false)))))), none⟩,
    ⟨(some 64), .mov (.t 63), none⟩,
    ⟨(some 65), .fadr 0 (.t 7), (some (64, true))⟩,
    ⟨(some 66), .load false 1 (.t 65), (some (64, true))⟩,
    ⟨(some 67), .b2s (.t 66), (some (64, true))⟩,
    ⟨(some 68), .bin .eql (.t 67) (.c (.rv (.one (.dat (.val (.string ⟨#[104, 105]⟩)))))), (some (64, true))⟩,
    ⟨(some 69), .pick (.t 64) (.t 68) (.c (.rv (.one (.dat (.val (.bool false)))))), none⟩,
    ⟨(some 0), .mov (.t 69), none⟩]) .ret))))))⟩
/-! a closed fact -/
theorem l55 : lowF Try.prog Try.f55 = some c55 := by kernel_rfl
def dirO : Obj := ⟨2, [], [], ⟨#[]⟩, 0, [], 0, 0, 0⟩
def hiD : List (List Dt) := [[.val (.int .u8 104)], [.val (.int .u8 105)]]
def hiM : Msg := ⟨hiD, false, 0, 0⟩
def L3 (a b : List Msg) : List Obj := [dirO, { endO 2 with queue := a }, { endO 1 with queue := b }]
theorem fit_dir : fitL [dirO] := by
  refine ⟨by simp, fun o ho => ?_⟩
  simp at ho
  subst ho
  simp [Obj.fit, dirO]
theorem fit_L3 {a b : List Msg} (ha : a.length ≤ 4194304) (hb : b.length ≤ 4194304) (ha2 : ∀ q, q ∈ a → q.data.length ≤ 4194304) (hb2 : ∀ q, q ∈ b → q.data.length ≤ 4194304) : fitL (L3 a b) := by
  refine ⟨by simp [L3], fun o ho => ?_⟩
  simp only [L3, List.mem_cons, List.not_mem_nil, or_false] at ho
  rcases ho with rfl | rfl | rfl
  · simp [Obj.fit, dirO]
  · exact ⟨by simp [endO], by simp [endO], ha, ha2⟩
  · exact ⟨by simp [endO], by simp [endO], hb, hb2⟩
theorem pair_dir : pairS [dirO] = (L3 [] [], (1, 2), 0) := rfl
theorem send_hi : sendS (L3 [] []) 1 hiM = (L3 [] [hiM], 0) := rfl
theorem recv_hi : recvS (L3 [] [hiM]) 2 = (L3 [] [], hiM, 0) := rfl
theorem recv_no : recvS (L3 [] [hiM]) 1 = ([], msgZ, 16) := rfl
set_option maxRecDepth 100000 in
set_option maxHeartbeats 8000000 in
theorem alive9_body : body Try.prog c55 [] [] (fun r m => r = vBool true) := by
  refine acall_pre (args' := [objsV [dirO]]) (m' := [.dead]) (View.of 1 [0] [0] rfl rfl rfl rfl rfl rfl ?_ (.dead (.nil _))) ?_
  · refine .put (.rv (.one (.frz (FrzD.row 0 9 0 none [[.dat (.val (.int .i64 2)), .esl, .esl, .dat (.val (.string ⟨#[]⟩)), .dat (.val (.int .i64 0)), .esl, .dat (.val (.int .i64 0)), .dat (.val (.int .i64 0)), .dat (.val (.int .i64 0))]] [dirO.enc] rfl rfl rfl (fun i cs es h1 h2 => ?_) (fun i cs es j c d h1 h2 h3 h4 => ?_))))) .nil
    · match i, h1, h2 with
      | 0, h1, h2 => cases h1; cases h2; rfl
      | n + 1, h1, h2 => simp at h1
    · match i, h1, h2 with
      | 0, h1, h2 =>
        cases h1
        cases h2
        match j, h3, h4 with
        | 0, h3, h4 => cases h3; cases h4; exact .dat _
        | 1, h3, h4 => cases h3; cases h4; exact .esl 1
        | 2, h3, h4 => cases h3; cases h4; exact .esl 2
        | 3, h3, h4 => cases h3; cases h4; exact .dat _
        | 4, h3, h4 => cases h3; cases h4; exact .dat _
        | 5, h3, h4 => cases h3; cases h4; exact .esl 4
        | 6, h3, h4 => cases h3; cases h4; exact .dat _
        | 7, h3, h4 => cases h3; cases h4; exact .dat _
        | 8, h3, h4 => cases h3; cases h4; exact .dat _
        | n + 9, h3, h4 => simp at h3
      | n + 1, h1, h2 => simp at h1
  refine pair_ok [dirO] fit_dir ?_
  rw [pair_dir]
  refine acall_pre (args' := [objsV (L3 [] []), vInt .i64 1, hiM.cv]) (m' := [.dead, .var [.dat (.val (.int .i64 1)), .dat (.val (.int .i64 2))], .dead]) (View.of 3 [0, 1, 2] [2] rfl rfl rfl rfl rfl rfl ?_ ?_) ?_
  · refine .eq rfl (.eq rfl (.put (.rv (.agg rfl fun i c c' h1 h2 => ?_)) .nil))
    match i, h1, h2 with
    | 0, h1, h2 => cases h1; cases h2; exact .frz (FrzD.rowD (Z := fun k => memN [2] k = true) (ds := hiD) rfl rfl 0 none)
    | 1, h1, h2 => cases h1; cases h2; exact .ren (.dat _)
    | 2, h1, h2 => cases h1; cases h2; exact .ren (.dat _)
    | 3, h1, h2 => cases h1; cases h2; exact .ren (.dat _)
    | n + 4, h1, h2 => simp at h1
  · exact .dead (.put (notF rfl) rfl (.eq rfl (by simp)) (.dead (.nil _)))
  have hq : ∀ q, q ∈ [hiM] → q.data.length ≤ 4194304 := by simp [hiM, hiD]
  refine send_ok (L3 [] []) (fit_L3 (by simp) (by simp) (by simp) (by simp)) 1 hiM (by simp [hiM, hiD]) ?_
  rw [send_hi]
  refine recv_ok (L3 [] [hiM]) (fit_L3 (by simp) (by simp) (by simp) hq) 2 ?_
  rw [recv_hi]
  refine recv_ok (L3 [] [hiM]) (fit_L3 (by simp) (by simp) (by simp) hq) 1 ?_
  rw [recv_no]
  show vBool _ = vBool true
  refine congrArg vBool ?_
  decide +kernel
set_option maxRecDepth 100000 in
theorem alive9_ok {m : Mem} {K : CV → Mem → Prop} (h : K (vBool true) m) : ACall Try.prog 55 [] m K :=
  acall_val Try.func55 l55 rfl (Nat.zero_le _) alive9_body rfl rfl h
end Go.Proofs.Ytflieebgiejjpaa
