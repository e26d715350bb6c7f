import Derived.Test.YtflieebgiejjpaaAmZ2
import Derived.Test.YtflieebgiejjpaaDvBpf9
import Derived.Test.YtflieebgiejjpaaAmY
set_option linter.unusedVariables false
set_option linter.unusedSimpArgs false
namespace Go.Proofs.Ytflieebgiejjpaa
open Go.AM Go.ChangeShapes Go.WideShapes Go.ChangeAt Go.RowKit
def c9 : LF := ⟨62, [.tmp 4], (.seq (.reg [
    ⟨(some 4), .mov (.c (.rv (.one (.dat (.val (.bool false)))))), none⟩]) (.seq (.seq (.reg [
    ⟨(some 12), .call (.c (.rv (.one (.fn 47 [])))) [], none⟩,
    ⟨(some 13), .un .not (.t 12), none⟩]) (.cond (.t 13) (.seq (.reg [
    ⟨(some 4), .mov (.c (.rv (.one (.dat (.val (.bool false)))))), none⟩]) .ret) .skip)) (.seq (.seq (.reg [
    ⟨(some 15), .mov (.t 0), none⟩,
    ⟨(some 16), .call (.c (.rv (.one (.fn 42 [])))) [(.t 15)], none⟩,
    ⟨(some 14), .mov (.t 16), none⟩,
    ⟨(some 17), .ext (.t 14) 0, none⟩,
    ⟨(some 18), .ext (.t 14) 1, none⟩,
    ⟨(some 6), .alloc [(.dat (.val (.int .i64 (0)))), (.dat (.val (.int .i64 (0))))], none⟩,
    ⟨(some 5), .mov (.t 17), none⟩,
    ⟨none, .store 2 (.t 6) (.t 18), none⟩]) (.seq (.reg [
    ⟨(some 19), .fadr 0 (.t 6), none⟩,
    ⟨(some 20), .load false 1 (.t 19), none⟩,
    ⟨(some 21), .bin .eql (.t 20) (.c (.rv (.one (.dat (.val (.int .i64 (0))))))), none⟩]) (.cond (.t 21) (.seq (.reg [
    ⟨(some 23), .mov (.t 5), none⟩,
    ⟨(some 24), .call (.c (.rv (.one (.fn 44 [])))) [(.t 23)], none⟩,
    ⟨(some 22), .mov (.t 24), none⟩,
    ⟨(some 25), .ext (.t 22) 0, none⟩,
    ⟨(some 26), .ext (.t 22) 1, none⟩,
    ⟨(some 8), .alloc [(.dat (.val (.int .i64 (0)))), (.dat (.val (.int .i64 (0))))], none⟩,
    ⟨(some 7), .mov (.t 25), none⟩,
    ⟨none, .store 2 (.t 8) (.t 26), none⟩]) (.seq (.reg [
    ⟨(some 27), .fadr 0 (.t 8), none⟩,
    ⟨(some 28), .load false 1 (.t 27), none⟩,
    ⟨(some 29), .bin .neq (.t 28) (.c (.rv (.one (.dat (.val (.int .i64 (0))))))), none⟩,
    ⟨(some 30), .mov (.t 29), none⟩,
    ⟨(some 31), .mov (.t 0), (some (30, false))⟩,
    ⟨(some 32), .mov (.t 7), (some (30, false))⟩,
    ⟨(some 33), .call (.c (.rv (.one (.fn 46 [])))) [(.t 31), (.t 32)], (some (30, false))⟩,
    ⟨(some 34), .un .not (.t 33), (some (30, false))⟩,
    ⟨(some 35), .pick (.t 30) (.c (.rv (.one (.dat (.val (.bool true)))))) (.t 34), none⟩]) (.cond (.t 35) (.seq (.reg [
    ⟨(some 4), .mov (.c (.rv (.one (.dat (.val (.bool false)))))), none⟩]) .ret) .skip))) .skip))) (.ghost (.seq (.reg [
    ⟨(some 37), .mov (.t 1), none⟩,
    ⟨(some 38), .call (.c (.rv (.one (.fn 44 [])))) [(.t 37)], none⟩,
    ⟨(some 36), .mov (.t 38), none⟩,
    ⟨(some 39), .ext (.t 36) 0, none⟩,
    ⟨(some 40), .ext (.t 36) 1, none⟩,
    ⟨(some 10), .alloc [(.dat (.val (.int .i64 (0)))), (.dat (.val (.int .i64 (0))))], none⟩,
    ⟨(some 9), .mov (.t 39), none⟩,
    ⟨none, .store 2 (.t 10) (.t 40), none⟩]) (.seq (.seq (.reg [
    ⟨(some 41), .fadr 0 (.t 10), none⟩,
    ⟨(some 42), .load false 1 (.t 41), none⟩,
    ⟨(some 43), .bin .neq (.t 42) (.c (.rv (.one (.dat (.val (.int .i64 (0))))))), none⟩]) (.cond (.t 43) (.seq (.reg [
    ⟨(some 44), .mov (.t 9), none⟩,
    ⟨(some 45), .len 1 (.t 44), none⟩,
    ⟨(some 46), .bin .eql (.t 45) (.c (.rv (.one (.dat (.val (.int .i64 (0))))))), none⟩,
    ⟨(some 4), .mov (.t 46), none⟩]) .ret) .skip)) (.seq (.reg [
    ⟨(some 48), .mov (.t 9), none⟩,
    ⟨(some 49), .call (.c (.rv (.one (.fn 42 [])))) [(.t 48)], none⟩,
    ⟨(some 47), .mov (.t 49), none⟩,
    ⟨(some 50), .ext (.t 47) 0, none⟩,
    ⟨(some 51), .ext (.t 47) 1, none⟩,
    ⟨(some 11), .mov (.t 50), none⟩,
    ⟨none, .store 2 (.t 10) (.t 51), none⟩]) (.seq (.reg [
    ⟨(some 52), .fadr 0 (.t 10), none⟩,
    ⟨(some 53), .load false 1 (.t 52), none⟩,
    ⟨(some 54), .bin .eql (.t 53) (.c (.rv (.one (.dat (.val (.int .i64 (0))))))), none⟩,
    ⟨(some 55), .mov (.t 54), none⟩,
    ⟨(some 56), .mov (.t 11), (some (55, true))⟩,
    ⟨(some 57), .b2s (.t 56), (some (55, true))⟩,
    ⟨(some 58), .mov (.t 1), (some (55, true))⟩,
    ⟨(some 59), .b2s (.t 58), (some (55, true))⟩,
    ⟨(some 60), .bin .eql (.t 57) (.t 59), (some (55, true))⟩,
    ⟨(some 61), .pick (.t 55) (.t 60) (.c (.rv (.one (.dat (.val (.bool false)))))), none⟩,
    ⟨(some 4), .mov (.t 61), none⟩]) .ret))))))))⟩
def c10 : LF := ⟨75, [.tmp 6], (.seq (.reg [
    ⟨(some 5), .box (.t 2), none⟩,
    ⟨(some 6), .mov (.c (.rv (.one (.dat (.val (.bool false)))))), none⟩]) (.seq (.seq (.reg [
    ⟨(some 12), .call (.c (.rv (.one (.fn 47 [])))) [], none⟩,
    ⟨(some 13), .un .not (.t 12), none⟩]) (.cond (.t 13) (.seq (.reg [
    ⟨(some 6), .mov (.c (.rv (.one (.dat (.val (.bool false)))))), none⟩]) .ret) .skip)) (.seq (.seq (.reg [
    ⟨(some 14), .mov (.t 0), none⟩,
    ⟨(some 15), .call (.c (.rv (.one (.fn 38 [])))) [(.t 14)], none⟩,
    ⟨(some 16), .fld false 0 1 (.t 15), none⟩,
    ⟨(some 17), .bin .neq (.t 16) (.c (.rv (.one (.dat (.val (.int .i64 (0))))))), none⟩,
    ⟨(some 18), .mov (.t 17), none⟩,
    ⟨(some 19), .mov (.t 1), (some (18, false))⟩,
    ⟨(some 20), .call (.c (.rv (.one (.fn 38 [])))) [(.t 19)], (some (18, false))⟩,
    ⟨(some 21), .fld false 0 1 (.t 20), (some (18, false))⟩,
    ⟨(some 22), .bin .neq (.t 21) (.c (.rv (.one (.dat (.val (.int .i64 (0))))))), (some (18, false))⟩,
    ⟨(some 23), .pick (.t 18) (.c (.rv (.one (.dat (.val (.bool true)))))) (.t 22), none⟩,
    ⟨(some 24), .mov (.t 23), none⟩,
    ⟨(some 25), .mov (.t 0), (some (24, false))⟩,
    ⟨(some 26), .len 1 (.t 25), (some (24, false))⟩,
    ⟨(some 27), .bin .gtr (.t 26) (.c (.rv (.one (.dat (.val (.int .i64 (150))))))), (some (24, false))⟩,
    ⟨(some 28), .pick (.t 24) (.c (.rv (.one (.dat (.val (.bool true)))))) (.t 27), none⟩,
    ⟨(some 29), .mov (.t 28), none⟩,
    ⟨(some 30), .mov (.t 1), (some (29, false))⟩,
    ⟨(some 31), .len 1 (.t 30), (some (29, false))⟩,
    ⟨(some 32), .bin .gtr (.t 31) (.c (.rv (.one (.dat (.val (.int .i64 (150))))))), (some (29, false))⟩,
    ⟨(some 33), .pick (.t 29) (.c (.rv (.one (.dat (.val (.bool true)))))) (.t 32), none⟩]) (.cond (.t 33) (.seq (.reg [
    ⟨(some 6), .mov (.c (.rv (.one (.dat (.val (.bool true)))))), none⟩]) .ret) .skip)) (.seq (.reg [
    ⟨(some 34), .mov (.t 1), none⟩,
    ⟨(some 35), .len 1 (.t 34), none⟩,
    ⟨(some 36), .build [(.dat (.val (.int .i64 (0)))), (.dat (.val (.int .i64 (0)))), (.dat (.val (.int .i64 (0)))), (.dat (.val (.int .i64 (0))))] [(0, 1, (.c (.rv (.one (.dat (.val (.int .i64 (5)))))))), (3, 1, (.t 35))], none⟩,
    ⟨(some 37), .bsl 4 [(.dat (.val (.int .i64 (0)))), (.dat (.val (.int .i64 (0)))), (.dat (.val (.int .i64 (0)))), (.dat (.val (.int .i64 (0))))] 1 [(0, (.t 36))], none⟩,
    ⟨(some 38), .mov (.t 1), none⟩,
    ⟨(some 39), .app 4 32 (.t 37) (.t 38), none⟩,
    ⟨(some 40), .mov (.t 0), none⟩,
    ⟨(some 41), .app 4 32 (.t 39) (.t 40), none⟩,
    ⟨(some 7), .mov (.t 41), none⟩]) (.ghost (.seq (.reg [
    ⟨(some 43), .mov (.t 0), none⟩,
    ⟨(some 44), .load true 6 (.t 5), none⟩,
    ⟨(some 45), .call (.c (.rv (.one (.fn 40 [])))) [(.t 43), (.t 44)], none⟩,
    ⟨(some 42), .mov (.t 45), none⟩,
    ⟨(some 46), .ext (.t 42) 0, none⟩,
    ⟨(some 47), .ext (.t 42) 1, none⟩,
    ⟨(some 8), .mov (.t 46), none⟩,
    ⟨(some 9), .mov (.t 47), none⟩]) (.seq (.reg [
    ⟨(some 49), .mov (.t 7), none⟩,
    ⟨(some 50), .load true 6 (.t 5), none⟩,
    ⟨(some 51), .call (.c (.rv (.one (.fn 40 [])))) [(.t 49), (.t 50)], none⟩,
    ⟨(some 48), .mov (.t 51), none⟩,
    ⟨(some 52), .ext (.t 48) 0, none⟩,
    ⟨(some 53), .ext (.t 48) 1, none⟩,
    ⟨(some 10), .mov (.t 52), none⟩,
    ⟨(some 11), .mov (.t 53), none⟩]) (.seq (.reg [
    ⟨(some 54), .mov (.t 7), none⟩,
    ⟨(some 55), .call (.c (.rv (.one (.fn 38 [])))) [(.t 54)], none⟩,
    ⟨(some 56), .fld false 0 1 (.t 55), none⟩,
    ⟨(some 57), .bin .eql (.t 56) (.c (.rv (.one (.dat (.val (.int .i64 (0))))))), none⟩,
    ⟨(some 58), .mov (.t 57), none⟩,
    ⟨(some 59), .mov (.t 8), (some (58, true))⟩,
    ⟨(some 60), .mov (.t 10), (some (58, true))⟩,
    ⟨(some 61), .bin .eql (.t 59) (.t 60), (some (58, true))⟩,
    ⟨(some 62), .pick (.t 58) (.t 61) (.c (.rv (.one (.dat (.val (.bool false)))))), none⟩,
    ⟨(some 63), .mov (.t 62), none⟩,
    ⟨(some 64), .mov (.t 9), (some (63, true))⟩,
    ⟨(some 65), .mov (.t 0), (some (63, true))⟩,
    ⟨(some 66), .len 1 (.t 65), (some (63, true))⟩,
    ⟨(some 67), .bin .leq (.t 64) (.t 66), (some (63, true))⟩,
    ⟨(some 68), .pick (.t 63) (.t 67) (.c (.rv (.one (.dat (.val (.bool false)))))), none⟩,
    ⟨(some 69), .mov (.t 68), none⟩,
    ⟨(some 70), .mov (.t 11), (some (69, true))⟩,
    ⟨(some 71), .bin .sub (.t 70) (.c (.rv (.one (.dat (.val (.int .i64 (1))))))), (some (69, true))⟩,
    ⟨(some 72), .mov (.t 9), (some (69, true))⟩,
    ⟨(some 73), .bin .eql (.t 71) (.t 72), (some (69, true))⟩,
    ⟨(some 74), .pick (.t 69) (.t 73) (.c (.rv (.one (.dat (.val (.bool false)))))), none⟩,
    ⟨(some 6), .mov (.t 74), none⟩]) .ret))))))))⟩
/-! What stands ahead; what is written is read. -/
theorem numsC_byD : ∀ b : List Int, numsC ((byD b).map fun ds => ds.map .dat) = some b
  | [] => rfl
  | x :: r => by
    have := numsC_byD r
    simp only [byD, List.map_cons, List.map_nil, numsC] at this ⊢
    rw [this]
theorem parse_cases {b : List Int} (hb : BY b) : (∃ f, parseS b = ([], f) ∧ f.1 ≠ 0) ∨ (∃ q, parseS b = (q, (0, 0)) ∧ bytesS q = (b, (0, 0))) := by
  by_cases h : (parseS b).2.1 = 0
  · obtain ⟨h1, h2⟩ := parse_bytes hb h
    exact .inr ⟨(parseS b).1, Prod.ext rfl h2, h1⟩
  · refine .inl ⟨(parseS b).2, ?_, h⟩
    unfold parseS at h ⊢
    split at h
    · rename_i hc
      rw [if_pos hc]
    · rename_i hc
      rw [if_neg hc]
      split at h
      · exact absurd rfl h
      · rename_i h0
        rw [if_neg h0]
theorem l9 : lowF Try.prog Try.f9 = some c9.er := by kernel_rfl
theorem l10 : lowF Try.prog Try.f10 = some c10.er := by kernel_rfl
set_option maxRecDepth 100000 in
theorem run_run (p : List Ins) (r : Rec) : ACall Try.prog 40 [insV p, r.cv] [] (fun x _ => x = pairV (runS p r)) := run_ok p r rfl
set_option maxRecDepth 100000 in
set_option maxHeartbeats 8000000 in
theorem turns_body (p : List Ins) (b : List Int) (hb : BY b) (hl : b.length ≤ 1048576) : body Try.prog c9 [insV p, byV b] [] (fun x m => x = vBool true) := by
  refine alive2_ok ?_
  refine bytes_ok p ?_
  by_cases hc : (checkS p).1 = 0
  · rw [bytesS, if_pos hc]
    obtain ⟨_, h2, _⟩ := check_all hc
    refine parse_ok (bytesOf p) (by rw [bytesOf_len]; omega) ?_
    rw [bytes_parse hc]
    refine same_ok p p (by omega) ?_
    rw [decide_eq_true (rfl : p = p)]
    refine ghost_keep [0, 1] [] [] (View.of 2 [] [] rfl rfl rfl rfl rfl rfl ?_ (.nil _)) ?_
    · repeat (first | exact .nil | refine .junk ?_ | refine .eq rfl ?_)
    refine parse_ok b (by omega) ?_
    rcases parse_cases hb with ⟨f, e, hf⟩ | ⟨q, e, hq⟩
    · rw [e]
      refine bB_bne (fun _ => ?_) (fun h => absurd h hf)
      exact rfl
    · rw [e]
      refine bytes_ok q ?_
      rw [hq]
      refine ok_some (numsC_byD b) ?_
      refine ok_some (numsC_byD b) ?_
      show vBool _ = vBool _
      refine congrArg vBool ?_
      exact beq_self_eq_true _
  · rw [bytesS, if_neg hc]
    refine bB_beq (fun h => absurd h hc) (fun _ => ?_)
    refine ghost_keep [0, 1] [] [] (View.of 1 [] [] rfl rfl rfl rfl rfl rfl ?_ (.nil _)) ?_
    · repeat (first | exact .nil | refine .junk ?_ | refine .eq rfl ?_)
    refine parse_ok b (by omega) ?_
    rcases parse_cases hb with ⟨f, e, hf⟩ | ⟨q, e, hq⟩
    · rw [e]
      refine bB_bne (fun _ => ?_) (fun h => absurd h hf)
      exact rfl
    · rw [e]
      refine bytes_ok q ?_
      rw [hq]
      refine ok_some (numsC_byD b) ?_
      refine ok_some (numsC_byD b) ?_
      show vBool _ = vBool _
      refine congrArg vBool ?_
      exact beq_self_eq_true _
set_option maxRecDepth 100000 in
theorem turns_ok (p : List Ins) (b : List Int) (hb : BY b) (hl : b.length ≤ 1048576) : ACall Try.prog 9 [insV p, byV b] [] (fun x m => x = vBool true) :=
  acall_body_g Try.func9 l9 rfl (Nat.le_of_ble_eq_true rfl) (turns_body p b hb hl)
theorem insRows (a b : List Ins) : (dRows ((a ++ b).map Ins.enc)) = dRows (a.map Ins.enc) ++ dRows (b.map Ins.enc) := by simp [dRows]
set_option maxRecDepth 100000 in
set_option maxHeartbeats 8000000 in
theorem ahead_body (p o : List Ins) (r : Rec) : body Try.prog c10 [insV p, insV o, r.cv] [] (fun x m => x = vBool true) := by
  refine alive2_ok ?_
  refine check_ok p ?_
  refine bB_bne (fun h => ?_) (fun hp => ?_)
  · exact rfl
  refine check_ok o ?_
  refine bB_bne (fun h => ?_) (fun ho => ?_)
  · exact rfl
  refine bB_dec (fun h => ?_) (fun h1 => ?_)
  · exact rfl
  refine bB_dec (fun h => ?_) (fun h2 => ?_)
  · exact rfl
  have h1 : p.length ≤ 150 := by
    have h : ¬ (((p.map Ins.enc).length : Nat) : Int) > 150 := h1
    rw [List.length_map] at h; omega
  have h2 : o.length ≤ 150 := by
    have h : ¬ (((o.map Ins.enc).length : Nat) : Int) > 150 := h2
    rw [List.length_map] at h; omega
  refine ⟨?_, ?_, ?_⟩
  · simp [subL]; omega
  · simp [subL]; omega
  have hrow : some (Bk.row 4 (subL (subL [[CC.dat (.val (.int .i64 5)), .dat (.val (.int .i64 0)), .dat (.val (.int .i64 0)), .dat (.val (.int .i64 o.length))]] 0 none ++ (o.map Ins.enc).map (fun ds => ds.map CC.dat)) 0 none ++ (p.map Ins.enc).map (fun ds => ds.map CC.dat))) = some (Bk.row 4 (dRows ((ahead o p).map Ins.enc))) := by
    simp [dRows, ahead, subL, Ins.enc]
  have hlen : (((o.map Ins.enc).length : Nat) : Int) = (o.length : Int) := by rw [List.length_map]
  rw [← hlen] at hrow
  refine ghost_keep [0, 1, 5] [(7, insV (ahead o p))] [.var (r.enc.map .dat)] (View.of 4 [0] [3] rfl rfl rfl rfl rfl rfl ?_ ?_) ?_
  · repeat (first | exact .nil | refine .junk ?_ | refine .eq rfl ?_ | refine .put (VwV.frz 3 ((ahead o p).map Ins.enc) rfl hrow) ?_)
  · exact .put (notF rfl) rfl (.eq rfl (by simp)) (.nil _)
  refine run_ok p r ?_
  refine run_ok (ahead o p) r ?_
  rw [runS_ahead r ho hp h2 h1]
  refine check_ok (ahead o p) ?_
  rw [check_ahead ho hp h2 h1]
  have e : runS p r = runW p r 0 0 := by rw [runS, if_pos hp]
  obtain ⟨g1, _⟩ := check_all hp
  obtain ⟨_, k1, k2⟩ := runW_ends hp r _ 0 0 rfl (by omega)
  rw [e]
  generalize runW p r 0 0 = x at k1 k2
  obtain ⟨n, k⟩ := x
  simp only at k1 k2
  refine bB_beq (fun _ => ?_) (fun h => absurd rfl h)
  have hk : k ≤ (((p.map Ins.enc).length : Nat) : Int) := by rw [List.length_map]; omega
  refine bB_yes (decide_eq_true hk) ?_
  show vBool (IntKind.i64.wrap (k + 1 - 1) == k) = vBool true
  rw [wrapI (n := k + 1 - 1) (by omega) (by omega), show k + 1 - 1 = k by omega]
  refine congrArg vBool ?_
  exact beq_self_eq_true _
set_option maxRecDepth 100000 in
theorem ahead_ok (p o : List Ins) (r : Rec) : ACall Try.prog 10 [insV p, insV o, r.cv] [] (fun x m => x = vBool true) :=
  acall_body_g Try.func10 l10 rfl (Nat.le_of_ble_eq_true rfl) (ahead_body p o r)
end Go.Proofs.Ytflieebgiejjpaa
