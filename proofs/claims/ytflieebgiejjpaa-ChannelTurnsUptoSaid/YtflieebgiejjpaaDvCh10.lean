import Derived.Test.YtflieebgiejjpaaAmZ2
import Derived.Test.YtflieebgiejjpaaDvCh9
import Derived.Test.YtflieebgiejjpaaAmY
set_option linter.unusedVariables false
set_option linter.unusedSimpArgs false
namespace Go.Proofs.Ytflieebgiejjpaa
open Go.AM Go.ChangeShapes Go.WideShapes Go.ChangeAt Go.RowKit
theorem l12 : lowF Try.prog Try.f12 = some c12.er := by kernel_rfl
def stT (ms back : List ByteArray) : Nat → List Obj
  | 0 => L4 (back.map strM) (ms.map strM)
  | 1 => L4 [] (ms.map strM)
  | _ => L4 [] []
set_option maxRecDepth 100000 in
set_option maxHeartbeats 32000000 in
theorem cturns_body (ms back : List ByteArray) (hms : ∀ s, s ∈ ms → s.size ≤ 1048576) (hbs : ∀ s, s ∈ back → s.size ≤ 1048576) : body Try.prog c12 [strsV ms, strsV back] [] (fun r m => r = vBool true) := by
  refine alive9_ok ?_
  refine bB_dec (fun h => ?_) (fun h1 => ?_)
  · exact rfl
  refine bB_dec (fun h => ?_) (fun h2 => ?_)
  · exact rfl
  have h1 : ms.length ≤ 4 := by
    have h : ¬ (((ms.map strRow).length : Nat) : Int) > 4 := h1
    rw [List.length_map] at h; omega
  have h2 : back.length ≤ 4 := by
    have h : ¬ (((back.map strRow).length : Nat) : Int) > 4 := h2
    rw [List.length_map] at h; omega
  have fitT : ∀ i j, fitL (L4 ((back.take i).map strM) ((ms.take j).map strM)) := fun i j =>
    fit_S (by simp; omega) (by simp; omega) (fun s hs => by have := hbs s (List.mem_of_mem_take hs); omega) (fun s hs => by have := hms s (List.mem_of_mem_take hs); omega)
  have fitD : ∀ j, fitL (L4 ((back.drop j).map strM) (ms.map strM)) := fun j =>
    fit_S (by simp; omega) h1 (fun s hs => by have := hbs s (List.mem_of_mem_drop hs); omega) (fun s hs => by have := hms s hs; omega)
  have fitE : ∀ j, fitL (L4 [] ((ms.drop j).map strM)) := fun j =>
    fit_S (a := []) (by simp) (by simp; omega) (by simp) (fun s hs => by have := hms s (List.mem_of_mem_drop hs); omega)
  refine acall_pre (args' := [objsV [dir1]]) (m' := [.dead]) (View.of 1 [0] [0] rfl rfl rfl rfl rfl rfl ?_ (.dead (.nil _))) ?_
  · refine .put (.rv (.one (.frz (FrzD.row 0 9 0 none [[.dat (.val (.int .i64 2)), .esl, .esl, .dat (.val (.string ⟨#[]⟩)), .dat (.val (.int .i64 0)), .esl, .dat (.val (.int .i64 0)), .dat (.val (.int .i64 1)), .dat (.val (.int .i64 0))]] [dir1.enc] rfl rfl rfl (fun i cs es h1 h2 => ?_) (fun i cs es j c d h1 h2 h3 h4 => ?_))))) .nil
    · match i, h1, h2 with
      | 0, h1, h2 => cases h1; cases h2; rfl
      | n + 1, h1, h2 => simp at h1
    · match i, h1, h2 with
      | 0, h1, h2 =>
        cases h1
        cases h2
        match j, h3, h4 with
        | 0, h3, h4 => cases h3; cases h4; exact .dat _
        | 1, h3, h4 => cases h3; cases h4; exact .esl 1
        | 2, h3, h4 => cases h3; cases h4; exact .esl 2
        | 3, h3, h4 => cases h3; cases h4; exact .dat _
        | 4, h3, h4 => cases h3; cases h4; exact .dat _
        | 5, h3, h4 => cases h3; cases h4; exact .esl 4
        | 6, h3, h4 => cases h3; cases h4; exact .dat _
        | 7, h3, h4 => cases h3; cases h4; exact .dat _
        | 8, h3, h4 => cases h3; cases h4; exact .dat _
        | n + 9, h3, h4 => simp at h3
      | n + 1, h1, h2 => simp at h1
  refine pair_ok [dir1] fit_dir1 ?_
  rw [pair_dir1]
  have hN : (if (((back.map strRow).length : Nat) : Int) > (((ms.map strRow).length : Nat) : Int) then (((back.map strRow).length : Nat) : Int) else (((ms.map strRow).length : Nat) : Int)) = ((max ms.length back.length : Nat) : Int) := by
    rw [List.length_map, List.length_map]
    split <;> omega
  refine loop_keep (fun i => i ≤ max ms.length back.length) [0, 1, 46] (fun i => [(47, vInt .i64 (i : Nat)), (5, objsV (L4 ((back.take i).map strM) ((ms.take i).map strM))), (6, .rv (.one (.ptr 0 0)))]) (fun _ => [.var [.dat (.val (.int .i64 1)), .dat (.val (.int .i64 2))]]) (fun i => max ms.length back.length - i) 0 (Nat.zero_le _) ?_ (fun i hi => ?_)
  · refine View.of 2 [1] [] rfl rfl rfl rfl rfl rfl ?_ ?_
    · repeat (first | exact .nil | refine .junk ?_ | refine .eq rfl ?_)
    · exact .put (notF rfl) rfl (.eq rfl (by simp)) (.nil _)
  · have hi : i ≤ max ms.length back.length := hi
    refine bB_dec (fun h => ?_) (fun h => ?_)
    · have hlt : i < max ms.length back.length := by
        have h : (i : Int) < (if (((back.map strRow).length : Nat) : Int) > (((ms.map strRow).length : Nat) : Int) then (((back.map strRow).length : Nat) : Int) else (((ms.map strRow).length : Nat) : Int)) := h
        rw [hN] at h
        omega
      refine bB_dec (fun h => ?_) (fun h => ?_)
      · have hm2 : i < ms.length := by
          have h : (i : Int) < ((ms.map strRow).length : Int) := h
          rw [List.length_map] at h
          omega
        obtain ⟨s, hs⟩ : ∃ s, ms[i]? = some s := ⟨_, List.getElem?_eq_getElem hm2⟩
        have hss := hms s (List.mem_of_getElem? hs)
        have hgm : getZ (ms.map strRow) (i : Nat) = some [.val (.string s)] := by
          rw [getZ_nat, List.getElem?_map, hs]; rfl
        refine ok_some hgm ?_
        refine ⟨by show s.size ≤ _; omega, ?_⟩
        refine ⟨⟨rfl, trivial⟩, ?_⟩
        refine acall_pre (args' := [objsV (L4 ((back.take i).map strM) ((ms.take i).map strM)), vInt .i64 1, (strM s).cv]) (m' := [.var [.dat (.val (.int .i64 1)), .dat (.val (.int .i64 2))], .dead]) (View.of 2 [0, 1] [1] rfl rfl rfl rfl rfl rfl ?_ ?_) ?_
        · refine .eq rfl (.eq rfl (.put (.rv (.agg rfl fun j c c' h1 h2 => ?_)) .nil))
          match j, h1, h2 with
          | 0, h1, h2 => cases h1; cases h2; exact .frz (FrzD.rowD (Z := fun k => memN [1] k = true) (ds := strD s) rfl (by rw [← nth_eq, ← bytesR_eq]; rfl) 0 none)
          | 1, h1, h2 => cases h1; cases h2; exact .ren (.dat _)
          | 2, h1, h2 => cases h1; cases h2; exact .ren (.dat _)
          | 3, h1, h2 => cases h1; cases h2; exact .ren (.dat _)
          | n + 4, h1, h2 => simp at h1
        · exact .put (notF rfl) rfl (.eq rfl (by simp)) (.dead (.nil _))
        refine send_ok _ (fitT i i) 1 (strM s) (by show (strD s).length ≤ _; rw [strD_len]; omega) ?_
        by_cases hs6 : s.size > 60
        · have hS : sendS (L4 ((back.take i).map strM) ((ms.take i).map strM)) 1 (strM s) = ([], 4) := by
            rw [send_L4b, if_pos (by show (strD s).length > 60; rw [strD_len]; exact hs6)]
          rw [hS]
          refine ⟨trivial, ?_⟩
          refine ok_some hgm ?_
          refine bB_yes (decide_eq_true (by show ((s.size : Nat) : Int) > 60; omega)) ?_
          exact rfl
        · have hmt : (ms.take (i + 1)).map strM = (ms.take i).map strM ++ [strM s] := by rw [takeO hs, List.map_append]; rfl
          have hS : sendS (L4 ((back.take i).map strM) ((ms.take i).map strM)) 1 (strM s) = (L4 ((back.take i).map strM) ((ms.take (i + 1)).map strM), 0) := by
            rw [send_L4b, if_neg (by show ¬ (strD s).length > 60; rw [strD_len]; exact hs6), if_neg (by simp; omega), hmt]
          rw [hS]
          refine ⟨trivial, ?_⟩
          refine ghost_keep [0, 1, 8, 46, 47] [(5, objsV (L4 ((back.take i).map strM) ((ms.take (i + 1)).map strM))), (6, .rv (.one (.ptr 0 0)))] [.var [.dat (.val (.int .i64 1)), .dat (.val (.int .i64 2))]] (View.of 2 [0] [] rfl rfl rfl rfl rfl rfl ?_ ?_) ?_
          · repeat (first | exact .nil | refine .junk ?_ | refine .eq rfl ?_ | refine .eq (congrArg (fun x => objsV (L4 ((back.take i).map strM) x)) hmt) ?_)
          · exact .put (notF rfl) rfl (.eq rfl (by simp)) (.nil _)
          refine bB_dec (fun h => ?_) (fun h => ?_)
          · have hb2 : i < back.length := by
              have h : (i : Int) < ((back.map strRow).length : Int) := h
              rw [List.length_map] at h
              omega
            obtain ⟨t, ht⟩ : ∃ t, back[i]? = some t := ⟨_, List.getElem?_eq_getElem hb2⟩
            have hts := hbs t (List.mem_of_getElem? ht)
            have hg : getZ (back.map strRow) (i : Nat) = some [.val (.string t)] := by
              rw [getZ_nat, List.getElem?_map, ht]; rfl
            refine ok_some hg ?_
            refine ⟨by show t.size ≤ _; omega, ?_⟩
            refine ⟨⟨rfl, trivial⟩, ?_⟩
            refine acall_pre (args' := [objsV (L4 ((back.take i).map strM) ((ms.take (i + 1)).map strM)), vInt .i64 2, (strM t).cv]) (m' := [.var [.dat (.val (.int .i64 1)), .dat (.val (.int .i64 2))], .dead]) (View.of 2 [0, 1] [1] rfl rfl rfl rfl rfl rfl ?_ ?_) ?_
            · refine .eq rfl (.eq rfl (.put (.rv (.agg rfl fun j c c' h1 h2 => ?_)) .nil))
              match j, h1, h2 with
              | 0, h1, h2 => cases h1; cases h2; exact .frz (FrzD.rowD (Z := fun k => memN [1] k = true) (ds := strD t) rfl (by rw [← nth_eq, ← bytesR_eq]; rfl) 0 none)
              | 1, h1, h2 => cases h1; cases h2; exact .ren (.dat _)
              | 2, h1, h2 => cases h1; cases h2; exact .ren (.dat _)
              | 3, h1, h2 => cases h1; cases h2; exact .ren (.dat _)
              | n + 4, h1, h2 => simp at h1
            · exact .put (notF rfl) rfl (.eq rfl (by simp)) (.dead (.nil _))
            refine send_ok _ (fitT i (i + 1)) 2 (strM t) (by show (strD t).length ≤ _; rw [strD_len]; omega) ?_
            by_cases hs : t.size > 60
            · have hS : sendS (L4 ((back.take i).map strM) ((ms.take (i + 1)).map strM)) 2 (strM t) = ([], 4) := by
                rw [send_L4a, if_pos (by show (strD t).length > 60; rw [strD_len]; exact hs)]
              rw [hS]
              refine ⟨trivial, ?_⟩
              refine ok_some hg ?_
              refine bB_yes (decide_eq_true (by show ((t.size : Nat) : Int) > 60; omega)) ?_
              exact rfl
            · have hbt : (back.take i).map strM ++ [strM t] = (back.take (i + 1)).map strM := by rw [takeO ht, List.map_append]; rfl
              have hS : sendS (L4 ((back.take i).map strM) ((ms.take (i + 1)).map strM)) 2 (strM t) = (L4 ((back.take (i + 1)).map strM) ((ms.take (i + 1)).map strM), 0) := by
                rw [send_L4a, if_neg (by show ¬ (strD t).length > 60; rw [strD_len]; exact hs), if_neg (by simp; omega), hbt]
              rw [hS]
              refine ⟨trivial, ?_⟩
              refine ⟨i + 1, (show i + 1 ≤ max ms.length back.length by omega), (show max ms.length back.length - (i + 1) < max ms.length back.length - i by omega), View.of 2 [0] [] rfl rfl rfl rfl rfl rfl ?_ ?_⟩
              · repeat (first | exact .nil | refine .junk ?_ | refine .put (.ren (next_i64 (by omega)).symm) ?_ | refine .eq rfl ?_)
              · exact .put (notF rfl) rfl (.eq rfl (by simp)) (.nil _)
          · have hb2 : ¬ i < back.length := by
              have h : ¬ (i : Int) < ((back.map strRow).length : Int) := h
              rw [List.length_map] at h
              omega
            have hbt : (back.take (i + 1)).map strM = (back.take i).map strM := by
              rw [List.take_of_length_le (by omega), List.take_of_length_le (by omega)]
            refine ⟨i + 1, (show i + 1 ≤ max ms.length back.length by omega), (show max ms.length back.length - (i + 1) < max ms.length back.length - i by omega), View.of 1 [0] [] rfl rfl rfl rfl rfl rfl ?_ ?_⟩
            · repeat (first | exact .nil | refine .junk ?_ | refine .put (.ren (next_i64 (by omega)).symm) ?_ | refine .eq rfl ?_ | refine .eq (congrArg (fun x => objsV (L4 x ((ms.take (i + 1)).map strM))) hbt) ?_)
            · exact .put (notF rfl) rfl (.eq rfl (by simp)) (.nil _)
      · have hm2 : ¬ i < ms.length := by
          have h : ¬ (i : Int) < ((ms.map strRow).length : Int) := h
          rw [List.length_map] at h
          omega
        have hmt : (ms.take (i + 1)).map strM = (ms.take i).map strM := by
          rw [List.take_of_length_le (by omega), List.take_of_length_le (by omega)]
        refine ghost_keep [0, 1, 8, 46, 47] [(5, objsV (L4 ((back.take i).map strM) ((ms.take (i + 1)).map strM))), (6, .rv (.one (.ptr 0 0)))] [.var [.dat (.val (.int .i64 1)), .dat (.val (.int .i64 2))]] (View.of 1 [0] [] rfl rfl rfl rfl rfl rfl ?_ ?_) ?_
        · repeat (first | exact .nil | refine .junk ?_ | refine .eq rfl ?_ | refine .eq (congrArg (fun x => objsV (L4 ((back.take i).map strM) x)) hmt) ?_)
        · exact .put (notF rfl) rfl (.eq rfl (by simp)) (.nil _)
        refine bB_dec (fun h => ?_) (fun h => ?_)
        · have hb2 : i < back.length := by
            have h : (i : Int) < ((back.map strRow).length : Int) := h
            rw [List.length_map] at h
            omega
          obtain ⟨t, ht⟩ : ∃ t, back[i]? = some t := ⟨_, List.getElem?_eq_getElem hb2⟩
          have hts := hbs t (List.mem_of_getElem? ht)
          have hg : getZ (back.map strRow) (i : Nat) = some [.val (.string t)] := by
            rw [getZ_nat, List.getElem?_map, ht]; rfl
          refine ok_some hg ?_
          refine ⟨by show t.size ≤ _; omega, ?_⟩
          refine ⟨⟨rfl, trivial⟩, ?_⟩
          refine acall_pre (args' := [objsV (L4 ((back.take i).map strM) ((ms.take (i + 1)).map strM)), vInt .i64 2, (strM t).cv]) (m' := [.var [.dat (.val (.int .i64 1)), .dat (.val (.int .i64 2))], .dead]) (View.of 2 [0, 1] [1] rfl rfl rfl rfl rfl rfl ?_ ?_) ?_
          · refine .eq rfl (.eq rfl (.put (.rv (.agg rfl fun j c c' h1 h2 => ?_)) .nil))
            match j, h1, h2 with
            | 0, h1, h2 => cases h1; cases h2; exact .frz (FrzD.rowD (Z := fun k => memN [1] k = true) (ds := strD t) rfl (by rw [← nth_eq, ← bytesR_eq]; rfl) 0 none)
            | 1, h1, h2 => cases h1; cases h2; exact .ren (.dat _)
            | 2, h1, h2 => cases h1; cases h2; exact .ren (.dat _)
            | 3, h1, h2 => cases h1; cases h2; exact .ren (.dat _)
            | n + 4, h1, h2 => simp at h1
          · exact .put (notF rfl) rfl (.eq rfl (by simp)) (.dead (.nil _))
          refine send_ok _ (fitT i (i + 1)) 2 (strM t) (by show (strD t).length ≤ _; rw [strD_len]; omega) ?_
          by_cases hs : t.size > 60
          · have hS : sendS (L4 ((back.take i).map strM) ((ms.take (i + 1)).map strM)) 2 (strM t) = ([], 4) := by
              rw [send_L4a, if_pos (by show (strD t).length > 60; rw [strD_len]; exact hs)]
            rw [hS]
            refine ⟨trivial, ?_⟩
            refine ok_some hg ?_
            refine bB_yes (decide_eq_true (by show ((t.size : Nat) : Int) > 60; omega)) ?_
            exact rfl
          · have hbt : (back.take i).map strM ++ [strM t] = (back.take (i + 1)).map strM := by rw [takeO ht, List.map_append]; rfl
            have hS : sendS (L4 ((back.take i).map strM) ((ms.take (i + 1)).map strM)) 2 (strM t) = (L4 ((back.take (i + 1)).map strM) ((ms.take (i + 1)).map strM), 0) := by
              rw [send_L4a, if_neg (by show ¬ (strD t).length > 60; rw [strD_len]; exact hs), if_neg (by simp; omega), hbt]
            rw [hS]
            refine ⟨trivial, ?_⟩
            refine ⟨i + 1, (show i + 1 ≤ max ms.length back.length by omega), (show max ms.length back.length - (i + 1) < max ms.length back.length - i by omega), View.of 2 [0] [] rfl rfl rfl rfl rfl rfl ?_ ?_⟩
            · repeat (first | exact .nil | refine .junk ?_ | refine .put (.ren (next_i64 (by omega)).symm) ?_ | refine .eq rfl ?_)
            · exact .put (notF rfl) rfl (.eq rfl (by simp)) (.nil _)
        · have hb2 : ¬ i < back.length := by
            have h : ¬ (i : Int) < ((back.map strRow).length : Int) := h
            rw [List.length_map] at h
            omega
          have hbt : (back.take (i + 1)).map strM = (back.take i).map strM := by
            rw [List.take_of_length_le (by omega), List.take_of_length_le (by omega)]
          refine ⟨i + 1, (show i + 1 ≤ max ms.length back.length by omega), (show max ms.length back.length - (i + 1) < max ms.length back.length - i by omega), View.of 1 [0] [] rfl rfl rfl rfl rfl rfl ?_ ?_⟩
          · repeat (first | exact .nil | refine .junk ?_ | refine .put (.ren (next_i64 (by omega)).symm) ?_ | refine .eq rfl ?_ | refine .eq (congrArg (fun x => objsV (L4 x ((ms.take (i + 1)).map strM))) hbt) ?_)
          · exact .put (notF rfl) rfl (.eq rfl (by simp)) (.nil _)
    · have hge : i = max ms.length back.length := by
        have h : ¬ (i : Int) < (if (((back.map strRow).length : Nat) : Int) > (((ms.map strRow).length : Nat) : Int) then (((back.map strRow).length : Nat) : Int) else (((ms.map strRow).length : Nat) : Int)) := h
        rw [hN] at h
        omega
      subst hge
      rw [List.take_of_length_le (by omega : back.length ≤ _), List.take_of_length_le (by omega : ms.length ≤ _)]
      refine loop_keep (fun k => k ≤ 2) [6, 113] (fun k => [(114, vInt .i64 (k : Nat)), (5, objsV (stT ms back k))]) (fun _ => [.var [.dat (.val (.int .i64 1)), .dat (.val (.int .i64 2))]]) (fun k => 2 - k) 0 (Nat.zero_le _) ?_ (fun k hk => ?_)
      · refine View.of 1 [0] [] rfl rfl rfl rfl rfl rfl ?_ ?_
        · repeat (first | exact .nil | refine .junk ?_ | refine .eq rfl ?_)
        · exact .put (notF rfl) rfl (.eq rfl (by simp)) (.nil _)
      · match k, hk with
        | 0, hk =>
          refine loop_keep (fun j => j ≤ back.length) [6, 13, 113, 114, 118, 119] (fun j => [(120, vInt .i64 (j : Nat)), (5, objsV (L4 ((back.drop j).map strM) (ms.map strM)))]) (fun _ => [.var [.dat (.val (.int .i64 1)), .dat (.val (.int .i64 2))]]) (fun j => back.length - j) 0 (Nat.zero_le _) ?_ (fun j hj => ?_)
          · refine View.of 1 [0] [] rfl rfl rfl rfl rfl rfl ?_ ?_
            · repeat (first | exact .nil | refine .junk ?_ | refine .eq rfl ?_)
            · exact .put (notF rfl) rfl (.eq rfl (by simp)) (.nil _)
          · have hj : j ≤ back.length := hj
            refine bB_dec (fun h => ?_) (fun h => ?_)
            · have hjl : j < back.length := by
                have h : (j : Int) < ((back.map strRow).length : Int) := h
                rw [List.length_map] at h
                omega
              obtain ⟨t, ht⟩ : ∃ t, back[j]? = some t := ⟨_, List.getElem?_eq_getElem hjl⟩
              have hg : getZ (back.map strRow) (j : Nat) = some [.val (.string t)] := by
                rw [getZ_nat, List.getElem?_map, ht]; rfl
              refine ok_some hg ?_
              refine recv_ok _ (fitD _) 1 ?_
              have hdr : (back.drop j).map strM = strM t :: (back.drop (j + 1)).map strM := by
                have : back.drop j = t :: back.drop (j + 1) := by
                  rw [List.drop_eq_getElem_cons hjl]
                  congr 1
                  rw [List.getElem?_eq_getElem hjl] at ht
                  exact Option.some.inj ht
                rw [this]; rfl
              rw [hdr, recv_L4a]
              refine ok_some (numsC_str t) ?_
              refine bB_no ?_ ?_
              · show (!((strOfNums (t.data.toList.map fun b => (b.toNat : Int))).toList == t.toList)) = false
                rw [strOf_str]
                simp
              refine ⟨j + 1, hjl, (show back.length - (j + 1) < back.length - j by omega), View.of 2 [0] [] rfl rfl rfl rfl rfl rfl ?_ ?_⟩
              · repeat (first | exact .nil | refine .junk ?_ | refine .put (.ren (next_i64 (by omega)).symm) ?_ | refine .eq rfl ?_)
              · exact .put (notF rfl) rfl (.eq rfl (by simp)) (.nil _)
            · have hjl : j = back.length := by
                have h : ¬ (j : Int) < ((back.map strRow).length : Int) := h
                rw [List.length_map] at h
                omega
              subst hjl
              have hdr : (back.drop back.length).map strM = [] := by simp
              refine recv_ok _ (fitD _) 1 ?_
              rw [hdr, recv_L4a0]
              refine ⟨1, (show 1 ≤ 2 by omega), (show 2 - 1 < 2 - 0 by omega), View.of 2 [0] [] rfl rfl rfl rfl rfl rfl ?_ ?_⟩
              · repeat (first | exact .nil | refine .junk ?_ | refine .eq rfl ?_ | refine .eq (congrArg objsV (by show L4 _ _ = L4 _ _; rw [hdr])) ?_)
              · exact .put (notF rfl) rfl (.eq rfl (by simp)) (.nil _)
        | 1, hk =>
          refine loop_keep (fun j => j ≤ ms.length) [6, 13, 113, 114, 118, 119] (fun j => [(120, vInt .i64 (j : Nat)), (5, objsV (L4 [] ((ms.drop j).map strM)))]) (fun _ => [.var [.dat (.val (.int .i64 1)), .dat (.val (.int .i64 2))]]) (fun j => ms.length - j) 0 (Nat.zero_le _) ?_ (fun j hj => ?_)
          · refine View.of 1 [0] [] rfl rfl rfl rfl rfl rfl ?_ ?_
            · repeat (first | exact .nil | refine .junk ?_ | refine .eq rfl ?_)
            · exact .put (notF rfl) rfl (.eq rfl (by simp)) (.nil _)
          · have hj : j ≤ ms.length := hj
            refine bB_dec (fun h => ?_) (fun h => ?_)
            · have hjl : j < ms.length := by
                have h : (j : Int) < ((ms.map strRow).length : Int) := h
                rw [List.length_map] at h
                omega
              obtain ⟨t, ht⟩ : ∃ t, ms[j]? = some t := ⟨_, List.getElem?_eq_getElem hjl⟩
              have hg : getZ (ms.map strRow) (j : Nat) = some [.val (.string t)] := by
                rw [getZ_nat, List.getElem?_map, ht]; rfl
              refine ok_some hg ?_
              refine recv_ok _ (fitE _) 2 ?_
              have hdr : (ms.drop j).map strM = strM t :: (ms.drop (j + 1)).map strM := by
                have : ms.drop j = t :: ms.drop (j + 1) := by
                  rw [List.drop_eq_getElem_cons hjl]
                  congr 1
                  rw [List.getElem?_eq_getElem hjl] at ht
                  exact Option.some.inj ht
                rw [this]; rfl
              rw [hdr, recv_L4b]
              refine ok_some (numsC_str t) ?_
              refine bB_no ?_ ?_
              · show (!((strOfNums (t.data.toList.map fun b => (b.toNat : Int))).toList == t.toList)) = false
                rw [strOf_str]
                simp
              refine ⟨j + 1, hjl, (show ms.length - (j + 1) < ms.length - j by omega), View.of 2 [0] [] rfl rfl rfl rfl rfl rfl ?_ ?_⟩
              · repeat (first | exact .nil | refine .junk ?_ | refine .put (.ren (next_i64 (by omega)).symm) ?_ | refine .eq rfl ?_)
              · exact .put (notF rfl) rfl (.eq rfl (by simp)) (.nil _)
            · have hjl : j = ms.length := by
                have h : ¬ (j : Int) < ((ms.map strRow).length : Int) := h
                rw [List.length_map] at h
                omega
              subst hjl
              have hdr : (ms.drop ms.length).map strM = [] := by simp
              refine recv_ok _ (fitE _) 2 ?_
              rw [hdr, recv_L4b0]
              refine ⟨2, (show 2 ≤ 2 by omega), (show 2 - 2 < 2 - 1 by omega), View.of 2 [0] [] rfl rfl rfl rfl rfl rfl ?_ ?_⟩
              · repeat (first | exact .nil | refine .junk ?_ | refine .eq rfl ?_ | refine .eq (congrArg objsV (by show L4 _ _ = L4 _ _; rw [hdr])) ?_)
              · exact .put (notF rfl) rfl (.eq rfl (by simp)) (.nil _)
        | 2, hk => exact rfl
        | k + 3, hk => exact absurd hk (by show ¬ k + 3 ≤ 2; omega)
set_option maxRecDepth 100000 in
theorem cturns_ok (ms back : List ByteArray) (hms : ∀ s, s ∈ ms → s.size ≤ 1048576) (hbs : ∀ s, s ∈ back → s.size ≤ 1048576) : ACall Try.prog 12 [strsV ms, strsV back] [] (fun r m => r = vBool true) :=
  acall_body_g Try.func12 l12 rfl (Nat.le_of_ble_eq_true rfl) (cturns_body ms back hms hbs)
end Go.Proofs.Ytflieebgiejjpaa
