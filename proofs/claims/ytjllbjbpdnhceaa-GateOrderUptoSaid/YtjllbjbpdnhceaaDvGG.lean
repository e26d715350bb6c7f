import Derived.Test.YtjllbjbpdnhceaaAmZ2
import Derived.Test.YtjllbjbpdnhceaaDvGF
import Derived.Test.YtjllbjbpdnhceaaAmY
set_option linter.unusedVariables false
set_option linter.unusedSimpArgs false
namespace Go.Proofs.Ytjllbjbpdnhceaa
open Go.AM Go.ChangeShapes Go.WideShapes Go.ChangeAt Go.RowKit
def c4 : LF := ⟨104, [.tmp 4], (.seq (.reg [
    ⟨(some 3), .box (.t 1), none⟩,
    ⟨(some 4), .mov (.c (.rv (.one (.dat (.val (.bool false)))))), none⟩]) (.seq (.seq (.reg [
    ⟨(some 18), .call (.c (.rv (.one (.fn 5 [])))) [], none⟩,
    ⟨(some 19), .un .not (.t 18), none⟩]) (.cond (.t 19) (.seq (.reg [
    ⟨(some 4), .mov (.c (.rv (.one (.dat (.val (.bool false)))))), none⟩]) .ret) .skip)) (.seq (.seq (.reg [
    ⟨(some 20), .mov (.t 0), none⟩,
    ⟨(some 21), .call (.c (.rv (.one (.fn 7 [])))) [(.t 20)], none⟩,
    ⟨(some 22), .fld false 0 1 (.t 21), none⟩,
    ⟨(some 23), .bin .neq (.t 22) (.c (.rv (.one (.dat (.val (.int .i64 (0))))))), none⟩]) (.cond (.t 23) (.seq (.reg [
    ⟨(some 4), .mov (.c (.rv (.one (.dat (.val (.bool true)))))), none⟩]) .ret) .skip)) (.seq (.reg [
    ⟨(some 5), .mov (.c (.rv (.one .esl))), none⟩]) (.seq (.seq (.reg [
    ⟨(some 24), .mov (.t 0), none⟩,
    ⟨(some 25), .len 1 (.t 24), none⟩,
    ⟨(some 26), .mov (.c (.rv (.one (.dat (.val (.int .i64 (0))))))), none⟩]) (.block 0 (.loop (.seq (.reg [
    ⟨(some 27), .bin .lss (.t 26) (.t 25), none⟩]) (.seq (.cond (.t 27) .skip (.exit 0)) (.seq (.block 1 (.seq (.reg [
    ⟨(some 28), .mov (.t 26), none⟩,
    ⟨(some 6), .mov (.t 28), none⟩]) (.reg [
    ⟨(some 29), .mov (.t 5), none⟩,
    ⟨(some 30), .mov (.t 0), none⟩,
    ⟨(some 31), .mov (.t 0), none⟩,
    ⟨(some 32), .len 1 (.t 31), none⟩,
    ⟨(some 33), .bin .sub (.t 32) (.c (.rv (.one (.dat (.val (.int .i64 (1))))))), none⟩,
    ⟨(some 34), .mov (.t 6), none⟩,
    ⟨(some 35), .bin .sub (.t 33) (.t 34), none⟩,
    ⟨(some 36), .idx 2 (.t 30) (.t 35), none⟩,
    ⟨(some 37), .load true 2 (.t 36), none⟩,
    ⟨(some 38), .bsl 2 [(.dat (.val (.int .i64 (0)))), .esl] 1 [(0, (.t 37))], none⟩,
    ⟨(some 39), .app 2 32 (.t 29) (.t 38), none⟩,
    ⟨(some 5), .mov (.t 39), none⟩]))) (.reg [
    ⟨(some 40), .bin .add (.t 26) (.c (.rv (.one (.dat (.val (.int .i64 (1))))))), none⟩,
    ⟨(some 26), .mov (.t 40), none⟩]))))))) (.seq (.reg [
    ⟨(some 42), .mov (.t 0), none⟩,
    ⟨(some 43), .call (.c (.rv (.one (.fn 6 [])))) [(.t 42)], none⟩,
    ⟨(some 41), .mov (.t 43), none⟩,
    ⟨(some 44), .ext (.t 41) 0, none⟩,
    ⟨(some 45), .ext (.t 41) 1, none⟩,
    ⟨(some 8), .alloc [(.dat (.val (.int .i64 (0)))), (.dat (.val (.int .i64 (0))))], none⟩,
    ⟨(some 7), .mov (.t 44), none⟩,
    ⟨none, .store 2 (.t 8) (.t 45), none⟩]) (.seq (.reg [
    ⟨(some 47), .mov (.t 5), none⟩,
    ⟨(some 48), .call (.c (.rv (.one (.fn 6 [])))) [(.t 47)], none⟩,
    ⟨(some 46), .mov (.t 48), none⟩,
    ⟨(some 49), .ext (.t 46) 0, none⟩,
    ⟨(some 50), .ext (.t 46) 1, none⟩,
    ⟨(some 10), .alloc [(.dat (.val (.int .i64 (0)))), (.dat (.val (.int .i64 (0))))], none⟩,
    ⟨(some 9), .mov (.t 49), none⟩,
    ⟨none, .store 2 (.t 10) (.t 50), none⟩]) (.seq (.reg [
    ⟨(some 52), .mov (.t 7), none⟩,
    ⟨(some 53), .load true 6 (.t 3), none⟩,
    ⟨(some 54), .call (.c (.rv (.one (.fn 11 [])))) [(.t 52), (.t 53)], none⟩,
    ⟨(some 51), .mov (.t 54), none⟩,
    ⟨(some 55), .ext (.t 51) 0, none⟩,
    ⟨(some 56), .ext (.t 51) 1, none⟩,
    ⟨(some 11), .mov (.t 55), none⟩,
    ⟨(some 12), .mov (.t 56), none⟩]) (.seq (.reg [
    ⟨(some 58), .mov (.t 9), none⟩,
    ⟨(some 59), .load true 6 (.t 3), none⟩,
    ⟨(some 60), .call (.c (.rv (.one (.fn 11 [])))) [(.t 58), (.t 59)], none⟩,
    ⟨(some 57), .mov (.t 60), none⟩,
    ⟨(some 61), .ext (.t 57) 0, none⟩,
    ⟨(some 62), .ext (.t 57) 1, none⟩,
    ⟨(some 13), .mov (.t 61), none⟩,
    ⟨(some 14), .mov (.t 62), none⟩]) (.seq (.seq (.reg [
    ⟨(some 63), .fadr 0 (.t 8), none⟩,
    ⟨(some 64), .load false 1 (.t 63), none⟩,
    ⟨(some 65), .bin .neq (.t 64) (.c (.rv (.one (.dat (.val (.int .i64 (0))))))), none⟩,
    ⟨(some 66), .mov (.t 65), none⟩,
    ⟨(some 67), .fadr 0 (.t 10), (some (66, false))⟩,
    ⟨(some 68), .load false 1 (.t 67), (some (66, false))⟩,
    ⟨(some 69), .bin .neq (.t 68) (.c (.rv (.one (.dat (.val (.int .i64 (0))))))), (some (66, false))⟩,
    ⟨(some 70), .pick (.t 66) (.c (.rv (.one (.dat (.val (.bool true)))))) (.t 69), none⟩,
    ⟨(some 71), .mov (.t 70), none⟩,
    ⟨(some 72), .mov (.t 11), (some (71, false))⟩,
    ⟨(some 73), .mov (.t 13), (some (71, false))⟩,
    ⟨(some 74), .bin .neq (.t 72) (.t 73), (some (71, false))⟩,
    ⟨(some 75), .pick (.t 71) (.c (.rv (.one (.dat (.val (.bool true)))))) (.t 74), none⟩]) (.cond (.t 75) (.seq (.reg [
    ⟨(some 4), .mov (.c (.rv (.one (.dat (.val (.bool false)))))), none⟩]) .ret) .skip)) (.seq (.seq (.reg [
    ⟨(some 76), .mov (.t 0), none⟩,
    ⟨(some 77), .len 1 (.t 76), none⟩,
    ⟨(some 78), .bin .eql (.t 77) (.c (.rv (.one (.dat (.val (.int .i64 (0))))))), none⟩]) (.cond (.t 78) (.seq (.reg [
    ⟨(some 79), .mov (.t 11), none⟩,
    ⟨(some 80), .bin .eql (.t 79) (.c (.rv (.one (.dat (.val (.int .i64 (0))))))), none⟩,
    ⟨(some 4), .mov (.t 80), none⟩]) .ret) .skip)) (.seq (.reg [
    ⟨(some 82), .mov (.t 0), none⟩,
    ⟨(some 83), .slc 2 (.t 82) (some (.c (.rv (.one (.dat (.val (.int .i64 (1)))))))) none none, none⟩,
    ⟨(some 84), .call (.c (.rv (.one (.fn 6 [])))) [(.t 83)], none⟩,
    ⟨(some 81), .mov (.t 84), none⟩,
    ⟨(some 85), .ext (.t 81) 0, none⟩,
    ⟨(some 86), .ext (.t 81) 1, none⟩,
    ⟨(some 15), .mov (.t 85), none⟩,
    ⟨none, .store 2 (.t 8) (.t 86), none⟩]) (.seq (.reg [
    ⟨(some 88), .mov (.t 15), none⟩,
    ⟨(some 89), .load true 6 (.t 3), none⟩,
    ⟨(some 90), .call (.c (.rv (.one (.fn 11 [])))) [(.t 88), (.t 89)], none⟩,
    ⟨(some 87), .mov (.t 90), none⟩,
    ⟨(some 91), .ext (.t 87) 0, none⟩,
    ⟨(some 92), .ext (.t 87) 1, none⟩,
    ⟨(some 16), .mov (.t 91), none⟩,
    ⟨(some 17), .mov (.t 92), none⟩]) (.seq (.reg [
    ⟨(some 93), .fadr 0 (.t 8), none⟩,
    ⟨(some 94), .load false 1 (.t 93), none⟩,
    ⟨(some 95), .bin .eql (.t 94) (.c (.rv (.one (.dat (.val (.int .i64 (0))))))), none⟩,
    ⟨(some 96), .mov (.t 95), none⟩,
    ⟨(some 97), .mov (.t 16), (some (96, true))⟩,
    ⟨(some 98), .bin .eql (.t 97) (.c (.rv (.one (.dat (.val (.int .i64 (0))))))), (some (96, true))⟩,
    ⟨(some 99), .mov (.t 98), (some (96, true))⟩,
    ⟨(some 100), .mov (.t 11), (some (99, false))⟩,
    ⟨(some 101), .bin .eql (.t 100) (.c (.rv (.one (.dat (.val (.int .i64 (1))))))), (some (99, false))⟩,
    ⟨(some 102), .pick (.t 99) (.c (.rv (.one (.dat (.val (.bool true)))))) (.t 101), (some (96, true))⟩,
    ⟨(some 103), .pick (.t 96) (.t 102) (.c (.rv (.one (.dat (.val (.bool false)))))), none⟩,
    ⟨(some 4), .mov (.t 103), none⟩]) .ret))))))))))))))⟩
theorem l4 : lowF Try.prog Try.f4 = some c4 := by kernel_rfl
theorem wrong_of {l : List Pol} (h1 : l.length ≤ 30) (h2 : ∀ p, p ∈ l → goodP p) (h3 : distinct l) : (wrongS l).1 = 0 := by
  rw [wrongS, if_neg (by omega), firstE_ok l.length 0 fun j _ hj => ?_]
  have hj : j < l.length := by omega
  rw [wrongAt, List.getElem?_eq_getElem hj]
  obtain ⟨g1, g2, g3, g4⟩ := h2 _ (List.getElem_mem hj)
  simp only [wrong1]
  rw [if_neg (by omega), if_neg ?_, if_neg (by omega), if_neg ?_]
  · intro h
    obtain ⟨m, hm, hb⟩ := List.any_eq_true.1 h
    obtain ⟨a, b, c, d⟩ := g4 m hm
    simp only [badM, Bool.or_eq_true, decide_eq_true_eq] at hb
    omega
  · intro h
    obtain ⟨q, hq, he⟩ := List.any_eq_true.1 h
    have he : q.call = l[j].call := by simpa using he
    obtain ⟨i, hi⟩ := List.getElem?_of_mem hq
    rw [List.getElem?_take] at hi
    split at hi
    · rename_i hij
      obtain ⟨hi1, rfl⟩ := List.getElem?_eq_some_iff.1 hi
      exact List.pairwise_iff_getElem.1 h3 i j hi1 hj hij he
    · cases hi
theorem rev_take {l : List Pol} {k : Nat} (h : k < l.length) : l.reverse.take (k + 1) = l.reverse.take k ++ [l[l.length - 1 - k]'(by omega)] := by
  have hk : k < l.reverse.length := by simpa using h
  rw [List.take_succ_eq_append_getElem hk, List.getElem_reverse]
set_option maxRecDepth 100000 in
set_option maxHeartbeats 16000000 in
theorem gorder_body (l : List Pol) (r : Rec) : body Try.prog c4 [polsV l, r.cv] [] (fun x m => x = vBool true) := by
  refine galive_ok ?_
  refine wrong_ok l ?_
  refine bB_bne (fun _ => rfl) (fun h => ?_)
  have h : (wrongS l).1 = 0 := h
  obtain ⟨h30, hg, hd⟩ := wrong_facts h
  refine loop_keep (fun k => k ≤ l.length) [0, 3] (fun k => [(5, .rv (.one (.row 1 2 0 none))), (25, vInt .i64 (l.length : Nat)), (26, vInt .i64 (k : Nat))]) (fun k => [.var (r.enc.map .dat), .row 2 (dRows ((l.reverse.take k).map Pol.enc))]) (fun k => l.length - k) 0 (Nat.zero_le _) ?_ (fun k hk => ?_)
  · refine View.trans (View.esl 5 2 1 rfl rfl rfl) (View.of 2 [0, 1] [] rfl rfl rfl rfl rfl rfl ?_ ?_)
    · repeat (first | exact .nil | refine .junk ?_ | refine .eq rfl ?_ | refine .put (.ren (by rw [List.length_map]; rfl)) ?_)
    · exact .put (notF rfl) rfl (.eq rfl (by simp)) (.put (notF rfl) rfl (.rowDE rfl) (.nil _))
  have hk : k ≤ l.length := hk
  refine bB_dec (fun h5 => ?_) (fun h5 => ?_)
  · have hlt : k < l.length := by
      have h5 : (k : Int) < (l.length : Int) := h5
      omega
    have hj : l.length - 1 - k < l.length := by omega
    have hw : IntKind.i64.wrap (IntKind.i64.wrap ((((l.map Pol.enc).length : Nat) : Int) - 1) - (k : Int)) = ((l.length - 1 - k : Nat) : Int) := by
      rw [List.length_map, wrapI (n := (l.length : Int) - 1) (by omega) (by omega), wrapI (by omega) (by omega)]
      omega
    have hget : getZ (l.map Pol.enc) (IntKind.i64.wrap (IntKind.i64.wrap ((((l.map Pol.enc).length : Nat) : Int) - 1) - (k : Int))) = some (l[l.length - 1 - k].enc) := by
      rw [hw, getZ_nat, List.getElem?_map, List.getElem?_eq_getElem hj]; rfl
    refine ok_some hget ?_
    refine ⟨?_, k + 1, hlt, (show l.length - (k + 1) < l.length - k by omega), View.of 4 [0, 3] [] rfl rfl rfl rfl rfl rfl ?_ ?_⟩
    · show ((dRows ((l.reverse.take k).map Pol.enc)).length + 1) * 32 ≤ _
      simp [dRows]; omega
    · repeat (first | exact .nil | refine .junk ?_ | refine .put (.ren (next_i64 (by omega)).symm) ?_ | refine .eq rfl ?_)
    · refine .put (notF rfl) rfl (.eq rfl (by simp)) (.put (notF rfl) rfl (.rowDE ?_) (.nil _))
      rw [rev_take hlt, List.map_append, dRowsG_append]
      rfl
  · have hke : k = l.length := by
      have h5 : ¬ (k : Int) < (l.length : Int) := h5
      omega
    have ht : l.reverse.take k = l.reverse := List.take_of_length_le (by simp; omega)
    show aw Try.prog _ _ _ ⟨_, [.var (r.enc.map .dat), .row 2 (dRows ((l.reverse.take k).map Pol.enc))]⟩
    rw [ht]
    have hrp : l.reverse.Perm l := List.reverse_perm l
    have hwr : (wrongS l.reverse).1 = 0 := wrong_of (by simpa using h30) (fun p hp => hg p (by simpa using hp)) (distinct_perm hrp hd)
    refine comp_ok l (fun h0 => absurd h h0) (fun _ l1 hp1 hr1 => ?_)
    refine acall_pre (args' := [polsV l.reverse]) (m' := [.var (r.enc.map .dat), .dead, .var [.dat (.val (.int .i64 0)), .dat (.val (.int .i64 0))]])
      (View.of 3 [0, 1, 2] [1] rfl rfl rfl rfl rfl rfl (.put (VwV.frz 1 (l.reverse.map Pol.enc) rfl rfl) .nil) (.put (notF rfl) rfl (.eq rfl (by simp)) (.dead (.put (notF rfl) rfl (.eq rfl (by simp)) (.nil _))))) ?_
    refine comp_ok l.reverse (fun h0 => absurd hwr h0) (fun _ l2 hp2 hr2 => ?_)
    have run : ∀ {t t' : List Pol}, t'.Perm t → rising t' → t.length ≤ 30 → (∀ p, p ∈ t → goodP p) → (runS (compS t') r).1 = if letB t r r.r0 then 1 else 0 := by
      intro t t' hp hr h30 hg
      rw [comp_run r (fun p hp' => hg p (hp.mem_iff.1 hp')) (by rw [hp.length_eq]; exact h30) hr, letB_perm hp]
    have e1 := run hp1 hr1 h30 hg
    have e2 := run (hp2.trans hrp) hr2 h30 hg
    refine run_ok (compS l1) r ?_
    refine run_ok (compS l2) r ?_
    refine bB_no (by rw [e1, e2]; simp) ?_
    refine bB_beq (fun h0 => ?_) (fun h0 => ?_)
    · have h0 : l = [] := by
        have h0 : (((l.map Pol.enc).length : Nat) : Int) = 0 := h0
        rw [List.length_map] at h0
        exact List.eq_nil_of_length_eq_zero (by omega)
      show vBool ((runS (compS l1) r).1 == 0) = vBool true
      rw [e1, h0]
      rfl
    · have h0 : l.length ≠ 0 := by
        have h0 : (((l.map Pol.enc).length : Nat) : Int) ≠ 0 := h0
        rw [List.length_map] at h0
        omega
      have b2 : (Nat.ble 1 (l.map Pol.enc).length && Nat.ble (l.map Pol.enc).length (l.map Pol.enc).length) = true := by
        rw [Bool.and_eq_true, Nat.ble_eq, Nat.ble_eq, List.length_map]; omega
      refine bB_yes b2 ?_
      have ed : ((l.map Pol.enc).take (l.map Pol.enc).length).drop 1 = (l.drop 1).map Pol.enc := by rw [List.take_length, List.map_drop]
      show ACall Try.prog 6 [.rv (.one (.dat (.sl 2 (((l.map Pol.enc).take (l.map Pol.enc).length).drop 1))))] _ _
      rw [ed]
      have hsub : (l.drop 1).Sublist l := List.drop_sublist _ _
      have hgd : ∀ p, p ∈ l.drop 1 → goodP p := fun p hp => hg p (List.mem_of_mem_drop hp)
      have hwd : (wrongS (l.drop 1)).1 = 0 := wrong_of (by rw [List.length_drop]; omega) hgd (hd.sublist hsub)
      refine comp_ok (l.drop 1) (fun h0 => absurd hwd h0) (fun _ l3 hp3 hr3 => ?_)
      have e3 := run hp3 hr3 (by rw [List.length_drop]; omega) hgd
      refine run_ok (compS l3) r ?_
      refine bB_beq (fun _ => rfl) (fun hk => ?_)
      show vBool ((runS (compS l1) r).1 == 1) = vBool true
      have hk : (runS (compS l3) r).1 ≠ 0 := hk
      have hl : letB (l.drop 1) r r.r0 = true := by
        cases hb : letB (l.drop 1) r r.r0 with
        | true => rfl
        | false => rw [e3, hb] at hk; exact absurd rfl hk
      have hl2 : letB l r r.r0 = true := by rw [letB_cut l 1, hl, Bool.or_true]
      rw [e1, hl2]
      rfl
set_option maxRecDepth 100000 in
theorem gorder_ok (l : List Pol) (r : Rec) : ACall Try.prog 4 [polsV l, r.cv] [] (fun x m => x = vBool true) :=
  acall_body Try.func4 l4 rfl (Nat.le_of_ble_eq_true rfl) (gorder_body l r)


end Go.Proofs.Ytjllbjbpdnhceaa
