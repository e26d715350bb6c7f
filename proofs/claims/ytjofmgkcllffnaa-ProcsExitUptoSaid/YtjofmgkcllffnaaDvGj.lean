import Derived.Test.YtjofmgkcllffnaaAmZ2
import Derived.Test.YtjofmgkcllffnaaDvGi
import Derived.Test.YtjofmgkcllffnaaAmY
set_option linter.unusedVariables false
set_option linter.unusedSimpArgs false
namespace Go.Proofs.Ytjofmgkcllffnaa
open Go.AM Go.ChangeShapes Go.WideShapes Go.ChangeAt Go.RowKit
def c4 : LF := ⟨139, [.tmp 6], (.seq (.reg [
    ⟨(some 6), .mov (.c (.rv (.one (.dat (.val (.bool false)))))), none⟩]) (.seq (.seq (.reg [
    ⟨(some 11), .call (.c (.rv (.one (.fn 7 [])))) [], none⟩,
    ⟨(some 12), .un .not (.t 11), none⟩]) (.cond (.t 12) (.seq (.reg [
    ⟨(some 6), .mov (.c (.rv (.one (.dat (.val (.bool false)))))), none⟩]) .ret) .skip)) (.seq (.reg [
    ⟨(some 13), .mov (.t 0), none⟩,
    ⟨(some 14), .call (.c (.rv (.one (.fn 9 [])))) [(.t 13)], none⟩,
    ⟨(some 15), .call (.c (.rv (.one (.fn 8 [])))) [(.t 14)], none⟩,
    ⟨(some 7), .alloc [.esl, .esl, .esl], none⟩,
    ⟨none, .store 3 (.t 7) (.t 15), none⟩]) (.seq (.reg [
    ⟨(some 17), .load true 3 (.t 7), none⟩,
    ⟨(some 18), .mov (.t 1), none⟩,
    ⟨(some 19), .mov (.t 2), none⟩,
    ⟨(some 20), .call (.c (.rv (.one (.fn 15 [])))) [(.t 17), (.t 18), (.t 19)], none⟩,
    ⟨(some 16), .mov (.t 20), none⟩,
    ⟨(some 21), .ext (.t 16) 0, none⟩,
    ⟨(some 22), .ext (.t 16) 1, none⟩,
    ⟨(some 8), .alloc [.esl, .esl, .esl], none⟩,
    ⟨none, .store 3 (.t 8) (.t 21), none⟩,
    ⟨(some 9), .mov (.t 22), none⟩]) (.seq (.seq (.reg [
    ⟨(some 23), .mov (.t 1), none⟩,
    ⟨(some 24), .bin .lss (.t 23) (.c (.rv (.one (.dat (.val (.int .i64 (0))))))), none⟩,
    ⟨(some 25), .mov (.t 24), none⟩,
    ⟨(some 26), .mov (.t 1), (some (25, false))⟩,
    ⟨(some 27), .fadr 2 (.t 7), (some (25, false))⟩,
    ⟨(some 28), .load false 1 (.t 27), (some (25, false))⟩,
    ⟨(some 29), .len 1 (.t 28), (some (25, false))⟩,
    ⟨(some 30), .bin .geq (.t 26) (.t 29), (some (25, false))⟩,
    ⟨(some 31), .pick (.t 25) (.c (.rv (.one (.dat (.val (.bool true)))))) (.t 30), none⟩,
    ⟨(some 32), .mov (.t 31), none⟩,
    ⟨(some 33), .fadr 2 (.t 7), (some (32, false))⟩,
    ⟨(some 34), .load false 1 (.t 33), (some (32, false))⟩,
    ⟨(some 35), .mov (.t 1), (some (32, false))⟩,
    ⟨(some 36), .idx 4 (.t 34) (.t 35), (some (32, false))⟩,
    ⟨(some 37), .fadr 0 (.t 36), (some (32, false))⟩,
    ⟨(some 38), .load false 1 (.t 37), (some (32, false))⟩,
    ⟨(some 39), .un .not (.t 38), (some (32, false))⟩,
    ⟨(some 40), .pick (.t 32) (.c (.rv (.one (.dat (.val (.bool true)))))) (.t 39), none⟩]) (.cond (.t 40) (.seq (.reg [
    ⟨(some 41), .mov (.t 9), none⟩,
    ⟨(some 42), .bin .eql (.t 41) (.c (.rv (.one (.dat (.val (.int .i64 (6))))))), none⟩,
    ⟨(some 6), .mov (.t 42), none⟩]) .ret) .skip)) (.seq (.seq (.reg [
    ⟨(some 43), .mov (.t 2), none⟩,
    ⟨(some 44), .bin .lss (.t 43) (.c (.rv (.one (.dat (.val (.int .i64 (0))))))), none⟩,
    ⟨(some 45), .mov (.t 44), none⟩,
    ⟨(some 46), .mov (.t 2), (some (45, false))⟩,
    ⟨(some 47), .bin .gtr (.t 46) (.c (.rv (.one (.dat (.val (.int .i64 (255))))))), (some (45, false))⟩,
    ⟨(some 48), .pick (.t 45) (.c (.rv (.one (.dat (.val (.bool true)))))) (.t 47), none⟩]) (.cond (.t 48) (.seq (.reg [
    ⟨(some 49), .mov (.t 9), none⟩,
    ⟨(some 50), .bin .eql (.t 49) (.c (.rv (.one (.dat (.val (.int .i64 (3))))))), none⟩,
    ⟨(some 51), .mov (.t 50), none⟩,
    ⟨(some 52), .fadr 2 (.t 8), (some (51, true))⟩,
    ⟨(some 53), .load false 1 (.t 52), (some (51, true))⟩,
    ⟨(some 54), .len 1 (.t 53), (some (51, true))⟩,
    ⟨(some 55), .bin .eql (.t 54) (.c (.rv (.one (.dat (.val (.int .i64 (0))))))), (some (51, true))⟩,
    ⟨(some 56), .pick (.t 51) (.t 55) (.c (.rv (.one (.dat (.val (.bool false)))))), none⟩,
    ⟨(some 6), .mov (.t 56), none⟩]) .ret) .skip)) (.seq (.seq (.reg [
    ⟨(some 57), .mov (.t 9), none⟩,
    ⟨(some 58), .bin .neq (.t 57) (.c (.rv (.one (.dat (.val (.int .i64 (0))))))), none⟩,
    ⟨(some 59), .mov (.t 58), none⟩,
    ⟨(some 60), .fadr 2 (.t 8), (some (59, false))⟩,
    ⟨(some 61), .load false 1 (.t 60), (some (59, false))⟩,
    ⟨(some 62), .len 1 (.t 61), (some (59, false))⟩,
    ⟨(some 63), .fadr 2 (.t 7), (some (59, false))⟩,
    ⟨(some 64), .load false 1 (.t 63), (some (59, false))⟩,
    ⟨(some 65), .len 1 (.t 64), (some (59, false))⟩,
    ⟨(some 66), .bin .neq (.t 62) (.t 65), (some (59, false))⟩,
    ⟨(some 67), .pick (.t 59) (.c (.rv (.one (.dat (.val (.bool true)))))) (.t 66), none⟩,
    ⟨(some 68), .mov (.t 67), none⟩,
    ⟨(some 69), .load true 3 (.t 8), (some (68, false))⟩,
    ⟨(some 70), .mov (.t 1), (some (68, false))⟩,
    ⟨(some 71), .call (.c (.rv (.one (.fn 16 [])))) [(.t 69), (.t 70)], (some (68, false))⟩,
    ⟨(some 72), .pick (.t 68) (.c (.rv (.one (.dat (.val (.bool true)))))) (.t 71), none⟩,
    ⟨(some 73), .mov (.t 72), none⟩,
    ⟨(some 74), .fadr 2 (.t 8), (some (73, false))⟩,
    ⟨(some 75), .load false 1 (.t 74), (some (73, false))⟩,
    ⟨(some 76), .mov (.t 1), (some (73, false))⟩,
    ⟨(some 77), .idx 4 (.t 75) (.t 76), (some (73, false))⟩,
    ⟨(some 78), .fadr 2 (.t 77), (some (73, false))⟩,
    ⟨(some 79), .load false 1 (.t 78), (some (73, false))⟩,
    ⟨(some 80), .mov (.t 2), (some (73, false))⟩,
    ⟨(some 81), .bin .neq (.t 79) (.t 80), (some (73, false))⟩,
    ⟨(some 82), .pick (.t 73) (.c (.rv (.one (.dat (.val (.bool true)))))) (.t 81), none⟩,
    ⟨(some 83), .mov (.t 82), none⟩,
    ⟨(some 84), .fadr 2 (.t 8), (some (83, false))⟩,
    ⟨(some 85), .load false 1 (.t 84), (some (83, false))⟩,
    ⟨(some 86), .mov (.t 1), (some (83, false))⟩,
    ⟨(some 87), .idx 4 (.t 85) (.t 86), (some (83, false))⟩,
    ⟨(some 88), .fadr 3 (.t 87), (some (83, false))⟩,
    ⟨(some 89), .load false 1 (.t 88), (some (83, false))⟩,
    ⟨(some 90), .len 1 (.t 89), (some (83, false))⟩,
    ⟨(some 91), .bin .gtr (.t 90) (.c (.rv (.one (.dat (.val (.int .i64 (0))))))), (some (83, false))⟩,
    ⟨(some 92), .pick (.t 83) (.c (.rv (.one (.dat (.val (.bool true)))))) (.t 91), none⟩]) (.cond (.t 92) (.seq (.reg [
    ⟨(some 6), .mov (.c (.rv (.one (.dat (.val (.bool false)))))), none⟩]) .ret) .skip)) (.seq (.seq (.reg [
    ⟨(some 93), .fadr 2 (.t 7), none⟩,
    ⟨(some 94), .load false 1 (.t 93), none⟩,
    ⟨(some 95), .len 1 (.t 94), none⟩,
    ⟨(some 96), .mov (.c (.rv (.one (.dat (.val (.int .i64 (0))))))), none⟩]) (.block 0 (.loop (.seq (.reg [
    ⟨(some 97), .bin .lss (.t 96) (.t 95), none⟩]) (.seq (.cond (.t 97) .skip (.exit 0)) (.seq (.block 1 (.seq (.reg [
    ⟨(some 98), .mov (.t 96), none⟩,
    ⟨(some 10), .mov (.t 98), none⟩]) (.seq (.draw [
    ⟨(some 99), .mov (.t 10), none⟩,
    ⟨(some 100), .mov (.t 1), none⟩,
    ⟨(some 101), .bin .neq (.t 99) (.t 100), none⟩,
    ⟨(some 102), .mov (.t 101), none⟩,
    ⟨(some 103), .fadr 2 (.t 7), (some (102, true))⟩,
    ⟨(some 104), .load false 1 (.t 103), (some (102, true))⟩,
    ⟨(some 105), .mov (.t 10), (some (102, true))⟩,
    ⟨(some 106), .idx 4 (.t 104) (.t 105), (some (102, true))⟩,
    ⟨(some 107), .fadr 3 (.t 106), (some (102, true))⟩,
    ⟨(some 108), .load false 1 (.t 107), (some (102, true))⟩,
    ⟨(some 109), .fadr 2 (.t 8), (some (102, true))⟩,
    ⟨(some 110), .load false 1 (.t 109), (some (102, true))⟩,
    ⟨(some 111), .mov (.t 10), (some (102, true))⟩,
    ⟨(some 112), .idx 4 (.t 110) (.t 111), (some (102, true))⟩,
    ⟨(some 113), .fadr 3 (.t 112), (some (102, true))⟩,
    ⟨(some 114), .load false 1 (.t 113), (some (102, true))⟩,
    ⟨(some 115), .call (.c (.rv (.one (.fn 11 [])))) [(.t 108), (.t 114)], (some (102, true))⟩,
    ⟨(some 116), .un .not (.t 115), (some (102, true))⟩,
    ⟨(some 117), .mov (.t 116), (some (102, true))⟩,
    ⟨(some 118), .fadr 2 (.t 7), (some (117, false))⟩,
    ⟨(some 119), .load false 1 (.t 118), (some (117, false))⟩,
    ⟨(some 120), .mov (.t 10), (some (117, false))⟩,
    ⟨(some 121), .idx 4 (.t 119) (.t 120), (some (117, false))⟩,
    ⟨(some 122), .fadr 0 (.t 121), (some (117, false))⟩,
    ⟨(some 123), .load false 1 (.t 122), (some (117, false))⟩,
    ⟨(some 124), .fadr 2 (.t 8), (some (117, false))⟩,
    ⟨(some 125), .load false 1 (.t 124), (some (117, false))⟩,
    ⟨(some 126), .mov (.t 10), (some (117, false))⟩,
    ⟨(some 127), .idx 4 (.t 125) (.t 126), (some (117, false))⟩,
    ⟨(some 128), .fadr 0 (.t 127), (some (117, false))⟩,
    ⟨(some 129), .load false 1 (.t 128), (some (117, false))⟩,
    ⟨(some 130), .beq true (.t 123) (.t 129), (some (117, false))⟩,
    ⟨(some 131), .pick (.t 117) (.c (.rv (.one (.dat (.val (.bool true)))))) (.t 130), (some (102, true))⟩,
    ⟨(some 132), .pick (.t 102) (.t 131) (.c (.rv (.one (.dat (.val (.bool false)))))), none⟩]
    [(.cons 0 none (.cons 1 none (.cons 2 none (.cons 3 none (.cons 4 none (.cons 5 none (.cons 6 none (.cons 7 none (.cons 8 none (.cons 9 none (.cons 10 none (.cons 11 none (.cons 12 none (.cons 13 none (.cons 14 none (.cons 15 none (.cons 16 (some []) (.cons 17 none (.cons 18 none (.cons 19 none (.cons 20 none (.cons 21 none (.cons 22 none (.cons 23 none (.cons 24 none (.cons 25 none (.cons 26 none (.cons 27 none (.cons 28 none (.cons 29 none (.cons 30 none (.cons 31 none (.cons 32 none (.cons 33 none .nil))))))))))))))))))))))))))))))))))]) (.cond (.t 132) (.seq (.reg [
    ⟨(some 6), .mov (.c (.rv (.one (.dat (.val (.bool false)))))), none⟩]) .ret) .skip)))) (.reg [
    ⟨(some 133), .bin .add (.t 96) (.c (.rv (.one (.dat (.val (.int .i64 (1))))))), none⟩,
    ⟨(some 96), .mov (.t 133), none⟩]))))))) (.seq (.reg [
    ⟨(some 134), .fadr 0 (.t 8), none⟩,
    ⟨(some 135), .load false 1 (.t 134), none⟩,
    ⟨(some 136), .fadr 0 (.t 7), none⟩,
    ⟨(some 137), .load false 1 (.t 136), none⟩,
    ⟨(some 138), .call (.c (.rv (.one (.fn 17 [])))) [(.t 135), (.t 137)], none⟩,
    ⟨(some 6), .mov (.t 138), none⟩]) .ret)))))))))⟩
/-! the law ProcsExit -/
theorem l4 : lowF Try.prog Try.f4 = some c4 := by kernel_rfl
theorem live_no {ps : List Prc} {n : Nat} (hn : n < ps.length) (h : liveB ps (n : Int) = false) : ps[n].live = false := by simpa [liveB, hn] using h
set_option maxRecDepth 100000 in
set_option maxHeartbeats 16000000 in
theorem pexit_body (b : List Int) (hb : BYb b) (p code : Int) : body Try.prog c4 [.rv (.one (.dat (.sl 1 (byD b)))), vInt .i64 p, vInt .i64 code] [] (fun r m => r = vBool true) := by
  refine alive10_ok ?_
  refine build_ok b hb fun l op ps hgk => ?_
  refine fsweep_ok ⟨l, op, ps⟩ hgk.sz fun x hx hxz => ?_
  obtain ⟨k, hke, hk⟩ := swk_ok hgk hx hxz
  rw [hke]
  clear hke hx hxz hgk
  have hkr := hk.kr
  have hlp := hkr.lp
  refine exit_ok k hkr p code ?_
  cases hlv : liveB k.ps p with
  | false =>
    have he : exitS k p code = (nilK, 6) := by rw [exitS, if_pos hlv]
    rw [he]
    refine bB_dec (fun h0 => ?_) (fun h0 => ?_)
    · exact rfl
    obtain ⟨n, rfl⟩ : ∃ n : Nat, p = n := ⟨p.toNat, by have h0 : ¬ p < 0 := h0; omega⟩
    refine bB_dec (fun h1 => ?_) (fun h1 => ?_)
    · exact rfl
    have hn : n < k.ps.length := by
      have h1 : ¬ (n : Int) ≥ ((k.ps.map Prc.enc).length : Int) := h1
      rw [List.length_map] at h1
      omega
    have hg := prc_get hn
    rw [live_no hn hlv] at hg
    refine ok_some hg ?_
    exact rfl
  | true =>
    obtain ⟨n, rfl, hn, hln⟩ := live_yes hlv
    have hg := prc_get hn
    rw [hln] at hg
    by_cases hcd : code < 0 ∨ code > 255
    · have he : exitS k (n : Int) code = (nilK, 3) := by rw [exitS, if_neg (by rw [hlv]; simp), if_pos hcd]
      rw [he]
      refine bB_dec (fun h1 => ?_) (fun h1 => ?_)
      · exfalso
        have h1 : (n : Int) ≥ ((k.ps.map Prc.enc).length : Int) := h1
        rw [List.length_map] at h1
        omega
      refine ok_some hg ?_
      refine bB_dec (fun h2 => ?_) (fun h2 => ?_)
      · exact rfl
      refine bB_dec (fun h3 => ?_) (fun h3 => ?_)
      · exact rfl
      · exact absurd hcd (fun h => h.elim h2 h3)
    · have he : exitS k (n : Int) code = (⟨k.l, k.ops, k.ps.set n ⟨false, k.ps[n].fenced, code, []⟩⟩, 0) := by
        rw [exitS, if_neg (by rw [hlv]; simp), if_neg hcd, show ((n : Nat) : Int).toNat = n from rfl, List.getElem?_eq_getElem hn]
      rw [he]
      generalize hP : k.ps.set n ⟨false, k.ps[n].fenced, code, []⟩ = P
      have hPl : P.length = k.ps.length := by rw [← hP, List.length_set]
      have hnP : n < P.length := by omega
      have hPn : P[n] = ⟨false, k.ps[n].fenced, code, []⟩ := by subst hP; simp
      have hgP := prc_get hnP
      rw [hPn] at hgP
      have hlvP : liveB P (n : Int) = false := by simp [liveB, hnP, hPn]
      refine bB_dec (fun h1 => ?_) (fun h1 => ?_)
      · exfalso
        have h1 : (n : Int) ≥ ((k.ps.map Prc.enc).length : Int) := h1
        rw [List.length_map] at h1
        omega
      refine ok_some hg ?_
      refine bB_dec (fun h2 => absurd (.inl h2) hcd) (fun h2 => ?_)
      refine bB_dec (fun h3 => absurd (.inr h3) hcd) (fun h3 => ?_)
      refine bB_no (by simp [hPl]) ?_
      refine plive_ok k.l k.ops P (n : Nat) ?_
      rw [hlvP]
      refine ok_some hgP ?_
      refine bB_no (by simp) ?_
      refine ok_some hgP ?_
      refine loop_keep (fun q => q ≤ k.ps.length) [1, 7, 8, 95] (fun q => [(96, vInt .i64 (q : Nat))]) (fun _ => [.var ((kC k.l k.ops k.ps).map .dat), .var ((kC k.l k.ops P).map .dat)]) (fun q => k.ps.length - q) 0 (Nat.zero_le _) ?_ (fun q hq => ?_)
      · refine View.of 2 [0, 1] [] rfl rfl rfl rfl rfl rfl ?_ ?_
        · repeat (first | exact .nil | refine .junk ?_ | refine .eq rfl ?_)
        · exact .put (notF rfl) rfl (.eq rfl (by simp [kC])) (.put (notF rfl) rfl (.eq rfl (by simp [kC])) (.nil _))
      have hq : q ≤ k.ps.length := hq
      refine bB_dec (fun h => ?_) (fun h => ?_)
      · have hlt : q < k.ps.length := by
          have h : (q : Int) < ((k.ps.map Prc.enc).length : Int) := h
          rw [List.length_map] at h
          omega
        refine bB_bne (fun hne => ?_) (fun hne => ?_)
        · have hne : q ≠ n := by
            have hne : (q : Int) ≠ (n : Int) := hne
            omega
          have hqP : q < P.length := by omega
          have hPq : P[q] = k.ps[q] := by subst hP; simp [List.getElem_set_ne (Ne.symm hne)]
          have g1 := prc_get hlt
          have g2 := prc_get hqP
          rw [hPq] at g2
          have hsl := hkr.sl _ (List.getElem_mem hlt)
          generalize k.ps[q] = y at g1 g2 hsl
          refine ok_some g1 ?_
          refine ok_some g2 ?_
          refine ssame_ok y.slots (by omega) ?_
          refine ⟨trivial, ?_⟩
          refine ok_some g1 ?_
          refine ok_some g2 ?_
          refine bB_no (by simp) ?_
          refine ⟨q + 1, hlt, (show k.ps.length - (q + 1) < k.ps.length - q by omega), View.of 2 [0, 1] [] rfl rfl rfl rfl rfl rfl ?_ ?_⟩
          · repeat (first | exact .nil | refine .junk ?_ | refine .put (.ren (next_i64 (by omega)).symm) ?_ | refine .eq rfl ?_)
          · exact .put (notF rfl) rfl (.eq rfl (by simp [kC])) (.put (notF rfl) rfl (.eq rfl (by simp [kC])) (.nil _))
        · refine ⟨trivial, q + 1, hlt, (show k.ps.length - (q + 1) < k.ps.length - q by omega), View.of 2 [0, 1] [] rfl rfl rfl rfl rfl rfl ?_ ?_⟩
          · repeat (first | exact .nil | refine .junk ?_ | refine .put (.ren (next_i64 (by omega)).symm) ?_ | refine .eq rfl ?_)
          · exact .put (notF rfl) rfl (.eq rfl (by simp [kC])) (.put (notF rfl) rfl (.eq rfl (by simp [kC])) (.nil _))
      · refine sames_ok k.l ⟨hkr.ll, fun o ho => (hkr.sm o ho).fit⟩ (fun o ho => (hkr.sm o ho).t) ?_
        exact rfl
set_option maxRecDepth 100000 in
theorem pexit_ok (b : List Int) (hb : BYb b) (p code : Int) : ACall Try.prog 4 [.rv (.one (.dat (.sl 1 (byD b)))), vInt .i64 p, vInt .i64 code] [] (fun r m => r = vBool true) :=
  acall_body Try.func4 l4 rfl (Nat.le_of_ble_eq_true rfl) (pexit_body b hb p code)


end Go.Proofs.Ytjofmgkcllffnaa
