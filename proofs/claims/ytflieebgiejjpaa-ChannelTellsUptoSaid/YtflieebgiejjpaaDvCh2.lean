import Derived.Test.YtflieebgiejjpaaAmZ2
import Derived.Test.YtflieebgiejjpaaDvCh1
import Derived.Test.YtflieebgiejjpaaAmY
set_option linter.unusedVariables false
set_option linter.unusedSimpArgs false
namespace Go.Proofs.Ytflieebgiejjpaa
open Go.AM Go.ChangeShapes Go.WideShapes Go.ChangeAt Go.RowKit
def c91 : LF := ⟨34, [.tmp 4, .tmp 5, .tmp 6], (.seq (.reg [
    ⟨(some 3), .box (.t 1), none⟩,
    ⟨(some 4), .mov (.c (.rv (.one .esl))), none⟩,
    ⟨(some 5), .mov (.c (.rv (.one (.dat (.val (.int .i64 (0))))))), none⟩,
    ⟨(some 6), .mov (.c (.rv (.one (.dat (.val (.int .i64 (0))))))), none⟩]) (.seq (.reg [
    ⟨(some 9), .mov (.t 0), none⟩,
    ⟨(some 10), .call (.c (.rv (.one (.fn 111 [])))) [(.t 9), (.c (.rv (.one (.fn 112 []))))], none⟩,
    ⟨(some 7), .mov (.t 10), none⟩]) (.seq (.seq (.reg [
    ⟨(some 11), .mov (.t 7), none⟩,
    ⟨(some 12), .bin .lss (.t 11) (.c (.rv (.one (.dat (.val (.int .i64 (0))))))), none⟩]) (.cond (.t 12) (.seq (.seq (.reg [
    ⟨(some 13), .mov (.t 0), none⟩,
    ⟨(some 14), .len 1 (.t 13), none⟩,
    ⟨(some 15), .bin .geq (.t 14) (.c (.rv (.one (.dat (.val (.int .i64 (40))))))), none⟩]) (.cond (.t 15) (.seq (.reg [
    ⟨(some 4), .mov (.c (.rv (.one .esl))), none⟩,
    ⟨(some 5), .mov (.c (.rv (.one (.dat (.val (.int .i64 (0))))))), none⟩,
    ⟨(some 6), .mov (.c (.rv (.one (.dat (.val (.int .i64 (15))))))), none⟩]) .ret) .skip)) (.reg [
    ⟨(some 16), .mov (.t 0), none⟩,
    ⟨(some 17), .len 1 (.t 16), none⟩,
    ⟨(some 7), .mov (.t 17), none⟩])) .skip)) (.seq (.reg [
    ⟨(some 18), .mov (.t 0), none⟩,
    ⟨(some 19), .call (.c (.rv (.one (.fn 93 [])))) [(.t 18)], none⟩,
    ⟨(some 8), .mov (.t 19), none⟩]) (.seq (.seq (.reg [
    ⟨(some 20), .mov (.t 7), none⟩,
    ⟨(some 21), .mov (.t 8), none⟩,
    ⟨(some 22), .len 1 (.t 21), none⟩,
    ⟨(some 23), .bin .eql (.t 20) (.t 22), none⟩]) (.cond (.t 23) (.reg [
    ⟨(some 24), .mov (.t 8), none⟩,
    ⟨(some 25), .build [(.dat (.val (.int .i64 (0)))), .esl, .esl, (.dat (.val (.string ⟨#[]⟩))), (.dat (.val (.int .i64 (0)))), .esl, (.dat (.val (.int .i64 (0)))), (.dat (.val (.int .i64 (0)))), (.dat (.val (.int .i64 (0))))] [], none⟩,
    ⟨(some 26), .bsl 9 [(.dat (.val (.int .i64 (0)))), .esl, .esl, (.dat (.val (.string ⟨#[]⟩))), (.dat (.val (.int .i64 (0)))), .esl, (.dat (.val (.int .i64 (0)))), (.dat (.val (.int .i64 (0)))), (.dat (.val (.int .i64 (0))))] 1 [(0, (.t 25))], none⟩,
    ⟨(some 27), .app 9 128 (.t 24) (.t 26), none⟩,
    ⟨(some 8), .mov (.t 27), none⟩]) .skip)) (.seq (.reg [
    ⟨(some 28), .mov (.t 8), none⟩,
    ⟨(some 29), .mov (.t 7), none⟩,
    ⟨(some 30), .load true 9 (.t 3), none⟩,
    ⟨(some 31), .idx 9 (.t 28) (.t 29), none⟩,
    ⟨none, .store 9 (.t 31) (.t 30), none⟩]) (.seq (.reg [
    ⟨(some 32), .mov (.t 8), none⟩,
    ⟨(some 33), .mov (.t 7), none⟩,
    ⟨(some 4), .mov (.t 32), none⟩,
    ⟨(some 5), .mov (.t 33), none⟩,
    ⟨(some 6), .mov (.c (.rv (.one (.dat (.val (.int .i64 (0))))))), none⟩]) .ret)))))))⟩
def c111 : LF := ⟨19, [.tmp 4], (.seq (.reg [
    ⟨(some 4), .mov (.c (.rv (.one (.dat (.val (.int .i64 (0))))))), none⟩]) (.seq (.seq (.reg [
    ⟨(some 6), .mov (.t 0), none⟩,
    ⟨(some 7), .len 1 (.t 6), none⟩,
    ⟨(some 8), .mov (.c (.rv (.one (.dat (.val (.int .i64 (0))))))), none⟩]) (.block 0 (.loop (.seq (.reg [
    ⟨(some 9), .bin .lss (.t 8) (.t 7), none⟩]) (.seq (.cond (.t 9) .skip (.exit 0)) (.seq (.block 1 (.seq (.reg [
    ⟨(some 10), .mov (.t 8), none⟩,
    ⟨(some 5), .mov (.t 10), none⟩]) (.seq (.reg [
    ⟨(some 11), .mov (.t 1), none⟩,
    ⟨(some 12), .mov (.t 0), none⟩,
    ⟨(some 13), .mov (.t 5), none⟩,
    ⟨(some 14), .idx 9 (.t 12) (.t 13), none⟩,
    ⟨(some 15), .load true 9 (.t 14), none⟩,
    ⟨(some 16), .call (.t 11) [(.t 15)], none⟩]) (.cond (.t 16) (.seq (.reg [
    ⟨(some 17), .mov (.t 5), none⟩,
    ⟨(some 4), .mov (.t 17), none⟩]) .ret) .skip)))) (.reg [
    ⟨(some 18), .bin .add (.t 8) (.c (.rv (.one (.dat (.val (.int .i64 (1))))))), none⟩,
    ⟨(some 8), .mov (.t 18), none⟩]))))))) (.seq (.reg [
    ⟨(some 4), .mov (.c (.rv (.one (.dat (.val (.int .i64 (-1))))))), none⟩]) .ret)))⟩
def c112 : LF := ⟨6, [.tmp 2], (.seq (.reg [
    ⟨(some 1), .box (.t 0), none⟩,
    ⟨(some 2), .mov (.c (.rv (.one (.dat (.val (.bool false)))))), none⟩]) (.seq (.reg [
    ⟨(some 3), .fadr 0 (.t 1), none⟩,
    ⟨(some 4), .load false 1 (.t 3), none⟩,
    ⟨(some 5), .bin .eql (.t 4) (.c (.rv (.one (.dat (.val (.int .i64 (0))))))), none⟩,
    ⟨(some 2), .mov (.t 5), none⟩]) .ret))⟩
def idxG {α : Type} (q : α → Bool) (l : List α) : Int := match l.findIdx? q with | some k => (k : Int) | none => -1
theorem idxG_found {α : Type} {q : α → Bool} {l : List α} {k : Nat} (h : k < l.length) (hq : q l[k] = true) (hb : ∀ (j : Nat) s, j < k → l[j]? = some s → q s = false) : idxG q l = k := by
  have : l.findIdx? q = some k := by
    rw [List.findIdx?_eq_some_iff_getElem]
    exact ⟨h, hq, fun j hj => by simpa using hb j _ hj (List.getElem?_eq_getElem (by omega))⟩
  rw [idxG, this]
theorem idxG_none {α : Type} {q : α → Bool} {l : List α} (hb : ∀ (j : Nat) s, l[j]? = some s → q s = false) : idxG q l = -1 := by
  have : l.findIdx? q = none := by
    rw [List.findIdx?_eq_none_iff]
    intro s hs
    obtain ⟨i, hi⟩ := List.getElem?_of_mem hs
    simpa using hb i s hi
  rw [idxG, this]
theorem idxG_any {α : Type} (q : α → Bool) (l : List α) : decide (idxG q l ≥ 0) = l.any q := by
  unfold idxG
  cases h : l.findIdx? q with
  | none =>
    rw [List.findIdx?_eq_none_iff] at h
    have : l.any q = false := by simpa using h
    rw [this]; rfl
  | some k =>
    obtain ⟨h1, h2, _⟩ := List.findIdx?_eq_some_iff_getElem.1 h
    have : l.any q = true := List.any_eq_true.2 ⟨_, List.getElem_mem h1, h2⟩
    rw [this]
    exact decide_eq_true (by simp)
theorem l91 : lowF Try.prog Try.f91 = some c91 := by kernel_rfl
theorem l111 : lowF Try.prog Try.f111 = some c111 := by kernel_rfl
theorem l112 : lowF Try.prog Try.f112 = some c112 := by kernel_rfl
set_option maxRecDepth 100000 in
set_option maxHeartbeats 4000000 in
theorem idx111A_body (l : List Obj) (hb : l.length ≤ 4194304) (F : Nat) (q : Obj → Bool) (hF : ∀ s, s ∈ l → ∀ K : CV → Mem → Prop, K (vBool (q s)) [] → ACall Try.prog F [s.cv] [] K) : body Try.prog c111 [objsV l, (.rv (.one (.fn F [])))] [] (fun r m => r = vInt .i64 (idxG q l)) := by
  refine loop_keep (fun k => k ≤ l.length ∧ ∀ (j : Nat) s, j < k → l[j]? = some s → q s = false) [0, 1, 7] (fun k => [(8, vInt .i64 (k : Nat))]) (fun _ => []) (fun k => l.length - k) 0 ⟨Nat.zero_le _, fun j s h => absurd h (Nat.not_lt_zero j)⟩ ?_ (fun k hk => ?_)
  · refine View.of 0 [] [] rfl rfl rfl rfl rfl rfl ?_ ?_
    · repeat (first | exact .nil | refine .junk ?_ | refine .eq rfl ?_)
    · exact .nil _
  · refine bB_dec (fun h => ?_) (fun h => ?_)
    · have hlt : k < l.length := by
        have h : (k : Int) < ((l.map Obj.enc).length : Int) := h
        rw [List.length_map] at h
        omega
      have hg : getZ (l.map Obj.enc) (k : Nat) = some (l[k].enc) := by
        rw [getZ_nat, List.getElem?_map, List.getElem?_eq_getElem hlt]; rfl
      refine ok_some hg ?_
      refine hF l[k] (List.getElem_mem hlt) _ ?_
      refine bB_split (fun h => ?_) (fun h => ?_)
      · rw [idxG_found hlt h hk.2]
        exact rfl
      · refine ⟨k + 1, ⟨hlt, fun j s hj hs => ?_⟩, (show l.length - (k + 1) < l.length - k by omega), View.of 0 [] [] rfl rfl rfl rfl rfl rfl ?_ ?_⟩
        · rcases Nat.lt_or_ge j k with h5 | h5
          · exact hk.2 j s h5 hs
          · have : j = k := by omega
            subst this
            rw [List.getElem?_eq_getElem hlt] at hs
            cases hs
            exact h
        · repeat (first | exact .nil | refine .junk ?_ | refine .put (.ren (next_i64 (by omega)).symm) ?_ | refine .eq rfl ?_)
        · exact .nil _
    · have hge : ¬ (k : Int) < ((l.map Obj.enc).length : Int) := h
      rw [List.length_map] at hge
      rw [idxG_none fun j s hs => hk.2 j s (by have := (List.getElem?_eq_some_iff.1 hs).1; omega) hs]
      exact rfl
set_option maxRecDepth 100000 in
theorem idx111A_ok (l : List Obj) (hb : l.length ≤ 4194304) (F : Nat) (q : Obj → Bool) (hF : ∀ s, s ∈ l → ∀ K : CV → Mem → Prop, K (vBool (q s)) [] → ACall Try.prog F [s.cv] [] K) {m : Mem} {K : CV → Mem → Prop} (h : K (vInt .i64 (idxG q l)) m) : ACall Try.prog 111 [objsV l, .rv (.one (.fn F []))] m K :=
  acall_val Try.func111 l111 rfl (Nat.le_of_ble_eq_true rfl) (idx111A_body l hb F q hF) rfl rfl h
set_option maxRecDepth 100000 in
theorem clo112 (s : Obj) (K : CV → Mem → Prop) (h : K (vBool (s.kind == 0)) []) : ACall Try.prog 112 [s.cv] [] K :=
  acall_val Try.func112 l112 rfl (Nat.le_of_ble_eq_true rfl) (show body Try.prog c112 [s.cv] [] (fun r m => r = vBool (s.kind == 0)) from rfl) rfl rfl h
theorem own_all (l : List Obj) (hf : fitL l) {m : Mem} {K : CV → Mem → Prop} (h : K (.rv (.one (.row m.length 9 0 none))) (m ++ [.row 9 (dRows (l.map Obj.enc)), .dead])) : ACall Try.prog 93 [objsV l] m K := by
  refine own_ok l hf l.length ?_
  have h1 : qbO l l.length l.length = .dead := by
    have : Nat.blt l.length l.length = false := by
      cases hb : Nat.blt l.length l.length with
      | false => rfl
      | true => rw [Nat.blt_eq] at hb; omega
    simp only [qbO, this]
  rw [rowsO_none _ _ _ _ (.inr (by omega)), h1]
  exact h
def iRV (n : Int) : RV := .one (.dat (.val (.int .i64 n)))
def makeS (l : List Obj) (o : Obj) : List Obj × Int × Int :=
  match l.findIdx? (fun x => x.kind == 0) with
  | some k => (l.set k o, k, 0)
  | none => if l.length ≥ 40 then ([], 0, 15) else (l ++ [o], l.length, 0)
def makeP (l : List Obj) (o : Obj) (r : CV) (m : Mem) : Prop :=
  ((makeS l o).2.2 = 15 ∧ r = .tup [.one .esl, iRV (makeS l o).2.1, iRV (makeS l o).2.2] ∧ m = []) ∨
  ((makeS l o).2.2 = 0 ∧ r = .tup [.one (.row 0 9 0 none), iRV (makeS l o).2.1, iRV (makeS l o).2.2] ∧ m = [.row 9 (dRows ((makeS l o).1.map Obj.enc))])
theorem dRows_set (l : List Obj) (k : Nat) (o : Obj) : (dRows (l.map Obj.enc)).set k (o.enc.map .dat) = dRows ((l.set k o).map Obj.enc) := by
  simp [dRows, List.map_set]
theorem dRows_nth (l : List Obj) {k : Nat} (h : k < l.length) : nth (dRows (l.map Obj.enc)) k = some (l[k].enc.map .dat) := by
  rw [nth_eq]; simp [dRows, h]
set_option maxRecDepth 100000 in
set_option maxHeartbeats 8000000 in
theorem make_body (l : List Obj) (hf : fitL l) (o : Obj) : body Try.prog c91 [objsV l, o.cv] [] (fun r m => ∃ r' m', View 0 ⟨[r], m⟩ ⟨[r'], m'⟩ ∧ makeP l o r' m') := by
  have hl := hf.1
  refine idx111A_ok l hl 112 (fun x => x.kind == 0) (fun s _ K hs => clo112 s K hs) ?_
  have hlen : (dRows (l.map Obj.enc)).length = l.length := by simp [dRows]
  cases hk : l.findIdx? (fun x => x.kind == 0) with
  | some k =>
    have hi : idxG (fun x : Obj => x.kind == 0) l = (k : Int) := by rw [idxG, hk]
    have hkl : k < l.length := (List.findIdx?_eq_some_iff_getElem.1 hk).1
    have hm : makeS l o = (l.set k o, (k : Int), 0) := by rw [makeS, hk]
    rw [hi]
    refine own_all l hf ?_
    refine bB_no (by simp [hlen, lenOf]; omega) ?_
    refine ok_some (idxZ_nat (k := k) (by simp [hlen, lenOf]; omega)) ?_
    refine ok_some (x := l[k].enc.map .dat) (by simpa [addN] using dRows_nth l hkl) ?_
    refine ⟨.tup [.one (.row 0 9 0 none), iRV k, iRV 0], [.row 9 (dRows ((l.set k o).map Obj.enc))], View.of 3 [1] [] rfl rfl rfl rfl rfl rfl ?_ ?_, .inr ?_⟩
    · exact .eq rfl .nil
    · refine .put (notF rfl) rfl (.rowDE ?_) (.nil _)
      rw [← dRows_set]
      simp [setN_eq, addN, Obj.enc]
    · rw [hm]; exact ⟨rfl, rfl, rfl⟩
  | none =>
    have hi : idxG (fun x : Obj => x.kind == 0) l = -1 := by rw [idxG, hk]
    rw [hi]
    refine bB_dec (fun h => ?_) (fun h => ?_)
    · have h : l.length ≥ 40 := by
        have h : (((l.map Obj.enc).length : Nat) : Int) ≥ 40 := h
        rw [List.length_map] at h; omega
      have hm : makeS l o = ([], 0, 15) := by rw [makeS, hk]; simp only; rw [if_pos h]
      refine ⟨.tup [.one .esl, iRV 0, iRV 15], [], View.of 1 [] [] rfl rfl rfl rfl rfl rfl ?_ (.nil _), .inl ?_⟩
      · exact .eq rfl .nil
      · rw [hm]; exact ⟨rfl, rfl, rfl⟩
    · have h : ¬ l.length ≥ 40 := by
        have h : ¬ (((l.map Obj.enc).length : Nat) : Int) ≥ 40 := h
        rw [List.length_map] at h; omega
      have hm : makeS l o = (l ++ [o], (l.length : Int), 0) := by rw [makeS, hk]; simp only; rw [if_neg h]
      refine own_all l hf ?_
      refine bB_yes (by simp [hlen, lenOf]) ?_
      refine ⟨by simp [hlen, subL]; omega, ?_⟩
      have hlm : (l.map Obj.enc).length = l.length := by simp
      refine ok_some (idxZ_nat (k := (l.map Obj.enc).length) (by simp [hlen, lenOf, subL])) ?_
      refine ok_some (x := [.dat (.val (.int .i64 0)), .esl, .esl, .dat (.val (.string ⟨#[]⟩)), .dat (.val (.int .i64 0)), .esl, .dat (.val (.int .i64 0)), .dat (.val (.int .i64 0)), .dat (.val (.int .i64 0))]) (by simp [nth_eq, hlen, subL, addN]) ?_
      refine ⟨.tup [.one (.row 0 9 0 none), iRV (((l.map Obj.enc).length : Nat) : Int), iRV 0], [.row 9 (dRows ((l ++ [o]).map Obj.enc))], View.of 5 [4] [] rfl rfl rfl rfl rfl rfl ?_ ?_, .inr ?_⟩
      · exact .eq rfl .nil
      · refine .put (notF rfl) rfl (.rowDE ?_) (.nil _)
        rw [List.map_append, dRows_append]
        simp only [setN_eq, addN, subL]
        rw [hlm, ← hlen]
        rw [List.set_append_right _ _ (Nat.le_refl _), Nat.sub_self]
        rfl
      · rw [hm]
        refine ⟨rfl, ?_, rfl⟩
        rw [hlm]
set_option maxRecDepth 100000 in
theorem make_post (l : List Obj) (hf : fitL l) (o : Obj) : ACall Try.prog 91 [objsV l, o.cv] [] (makeP l o) :=
  acall_view (acall_body Try.func91 l91 rfl (Nat.le_of_ble_eq_true rfl) (make_body l hf o)) fun r m1 ⟨r', m', hv, hp⟩ => ⟨r', m', hv, hp⟩
def objsR (l : List Obj) : RV := .one (.dat (objsD l))
theorem frz3 {m : Mem} {a b c d : RV} {x : Int} (h : FrzR m a b) (hc : FrzR m c d) : FrzV m (.tup [a, c, iRV x]) (.tup [b, d, iRV x]) := by
  refine .tup rfl fun i r r' h1 h2 => ?_
  match i, h1, h2 with
  | 0, h1, h2 => cases h1; cases h2; exact h
  | 1, h1, h2 => cases h1; cases h2; exact hc
  | 2, h1, h2 => cases h1; cases h2; exact FrzR.self rfl
/-- a store as data -/
theorem make_ok (l : List Obj) (hf : fitL l) (o : Obj) {m : Mem} {K : CV → Mem → Prop} (h : K (.tup [objsR (makeS l o).1, iRV (makeS l o).2.1, iRV (makeS l o).2.2]) m) : ACall Try.prog 91 [objsV l, o.cv] m K := by
  refine acall_frame (make_post l hf o) (by simp [objsV, Obj.cv, CV.isD, CC.isD, RV.isD]) fun r m1 hp => ?_
  rcases hp with ⟨h1, rfl, rfl⟩ | ⟨h1, rfl, rfl⟩
  · have h2 : (makeS l o).1 = [] := by
      unfold makeS at h1 ⊢
      split at h1
      · simp at h1
      · split at h1
        · rename_i hc; rw [if_pos hc]
        · simp at h1
    refine ⟨_, frz3 (.one (.esl 9)) (FrzR.self rfl), ?_⟩
    rw [h2] at h
    exact h
  · refine ⟨_, frz3 (.one (FrzC.rowD rfl 0 none)) (FrzR.self rfl), ?_⟩
    exact h
/-- a store as a row of its own -/
theorem make_row (l : List Obj) (hf : fitL l) (o : Obj) {m : Mem} {K : CV → Mem → Prop} (h1 : (makeS l o).2.2 = 15 → K (.tup [.one .esl, iRV (makeS l o).2.1, iRV (makeS l o).2.2]) m)
    (h2 : (makeS l o).2.2 = 0 → K (.tup [.one (.row m.length 9 0 none), iRV (makeS l o).2.1, iRV (makeS l o).2.2]) (m ++ [.row 9 (dRows ((makeS l o).1.map Obj.enc))])) : ACall Try.prog 91 [objsV l, o.cv] m K := by
  refine acall_borrow [] m.length rfl rfl rfl rfl rfl (fun i b' hi => by simp at hi) (make_post l hf o) (fun r m1 hp => ⟨Nat.zero_le _, ?_⟩)
  rcases hp with ⟨e1, rfl, rfl⟩ | ⟨e1, rfl, rfl⟩
  · have := h1 e1
    show K _ (app2 m [])
    rw [app2_eq, List.append_nil]
    exact this
  · have := h2 e1
    show K _ (app2 m [Bk.ren _ _])
    rw [app2_eq, Bk.ren_dRows]
    exact this

end Go.Proofs.Ytflieebgiejjpaa
