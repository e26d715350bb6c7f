import Derived.Test.YtjllbjbpdnhceaaAmZ2
import Derived.Test.YtjllbjbpdnhceaaDvGA
import Derived.Test.YtjllbjbpdnhceaaAmY
set_option linter.unusedVariables false
set_option linter.unusedSimpArgs false
namespace Go.Proofs.Ytjllbjbpdnhceaa
open Go.AM Go.ChangeShapes Go.WideShapes Go.ChangeAt Go.RowKit
def c18 : LF := ⟨9, [.tmp 4], (.seq (.reg [
    ⟨(some 4), .mov (.c (.rv (.one (.dat (.val (.bool false)))))), none⟩]) (.seq (.reg [
    ⟨(some 5), .mov (.t 0), none⟩,
    ⟨(some 6), .mov (.t 1), none⟩,
    ⟨(some 7), .call (.c (.rv (.one (.fn 24 [])))) [(.t 5), (.t 6)], none⟩,
    ⟨(some 8), .bin .geq (.t 7) (.c (.rv (.one (.dat (.val (.int .i64 (0))))))), none⟩,
    ⟨(some 4), .mov (.t 8), none⟩]) .ret))⟩
def c19 : LF := ⟨9, [.tmp 3], (.seq (.reg [
    ⟨(some 2), .box (.t 0), none⟩,
    ⟨(some 3), .mov (.c (.rv (.one (.dat (.val (.bool false)))))), none⟩]) (.seq (.reg [
    ⟨(some 4), .fadr 0 (.t 2), none⟩,
    ⟨(some 5), .load false 1 (.t 4), none⟩,
    ⟨(some 6), .fadr 0 (.t 1), none⟩,
    ⟨(some 7), .load false 1 (.t 6), none⟩,
    ⟨(some 8), .bin .eql (.t 5) (.t 7), none⟩,
    ⟨(some 3), .mov (.t 8), none⟩]) .ret))⟩
def c20 : LF := ⟨9, [.tmp 4], (.seq (.reg [
    ⟨(some 4), .mov (.c (.rv (.one (.dat (.val (.bool false)))))), none⟩]) (.seq (.reg [
    ⟨(some 5), .mov (.t 0), none⟩,
    ⟨(some 6), .mov (.t 1), none⟩,
    ⟨(some 7), .call (.c (.rv (.one (.fn 31 [])))) [(.t 5), (.t 6)], none⟩,
    ⟨(some 8), .bin .geq (.t 7) (.c (.rv (.one (.dat (.val (.int .i64 (0))))))), none⟩,
    ⟨(some 4), .mov (.t 8), none⟩]) .ret))⟩
def c21 : LF := ⟨21, [.tmp 2], (.seq (.reg [
    ⟨(some 1), .box (.t 0), none⟩,
    ⟨(some 2), .mov (.c (.rv (.one (.dat (.val (.bool false)))))), none⟩]) (.seq (.reg [
    ⟨(some 3), .fadr 0 (.t 1), none⟩,
    ⟨(some 4), .load false 1 (.t 3), none⟩,
    ⟨(some 5), .bin .lss (.t 4) (.c (.rv (.one (.dat (.val (.int .i64 (1))))))), none⟩,
    ⟨(some 6), .mov (.t 5), none⟩,
    ⟨(some 7), .fadr 0 (.t 1), (some (6, false))⟩,
    ⟨(some 8), .load false 1 (.t 7), (some (6, false))⟩,
    ⟨(some 9), .bin .geq (.t 8) (.c (.rv (.one (.dat (.val (.int .i64 (6))))))), (some (6, false))⟩,
    ⟨(some 10), .pick (.t 6) (.c (.rv (.one (.dat (.val (.bool true)))))) (.t 9), none⟩,
    ⟨(some 11), .mov (.t 10), none⟩,
    ⟨(some 12), .fadr 1 (.t 1), (some (11, false))⟩,
    ⟨(some 13), .load false 1 (.t 12), (some (11, false))⟩,
    ⟨(some 14), .bin .lss (.t 13) (.c (.rv (.one (.dat (.val (.int .i64 (1))))))), (some (11, false))⟩,
    ⟨(some 15), .pick (.t 11) (.c (.rv (.one (.dat (.val (.bool true)))))) (.t 14), none⟩,
    ⟨(some 16), .mov (.t 15), none⟩,
    ⟨(some 17), .fadr 1 (.t 1), (some (16, false))⟩,
    ⟨(some 18), .load false 1 (.t 17), (some (16, false))⟩,
    ⟨(some 19), .bin .geq (.t 18) (.c (.rv (.one (.dat (.val (.int .i64 (2147483648))))))), (some (16, false))⟩,
    ⟨(some 20), .pick (.t 16) (.c (.rv (.one (.dat (.val (.bool true)))))) (.t 19), none⟩,
    ⟨(some 2), .mov (.t 20), none⟩]) .ret))⟩
def c24 : LF := ⟨19, [.tmp 4], (.seq (.reg [
    ⟨(some 4), .mov (.c (.rv (.one (.dat (.val (.int .i64 (0))))))), none⟩]) (.seq (.seq (.reg [
    ⟨(some 6), .mov (.t 0), none⟩,
    ⟨(some 7), .len 1 (.t 6), none⟩,
    ⟨(some 8), .mov (.c (.rv (.one (.dat (.val (.int .i64 (0))))))), none⟩]) (.block 0 (.loop (.seq (.reg [
    ⟨(some 9), .bin .lss (.t 8) (.t 7), none⟩]) (.seq (.cond (.t 9) .skip (.exit 0)) (.seq (.block 1 (.seq (.reg [
    ⟨(some 10), .mov (.t 8), none⟩,
    ⟨(some 5), .mov (.t 10), none⟩]) (.seq (.reg [
    ⟨(some 11), .mov (.t 1), none⟩,
    ⟨(some 12), .mov (.t 0), none⟩,
    ⟨(some 13), .mov (.t 5), none⟩,
    ⟨(some 14), .idx 2 (.t 12) (.t 13), none⟩,
    ⟨(some 15), .load true 2 (.t 14), none⟩,
    ⟨(some 16), .call (.t 11) [(.t 15)], none⟩]) (.cond (.t 16) (.seq (.reg [
    ⟨(some 17), .mov (.t 5), none⟩,
    ⟨(some 4), .mov (.t 17), none⟩]) .ret) .skip)))) (.reg [
    ⟨(some 18), .bin .add (.t 8) (.c (.rv (.one (.dat (.val (.int .i64 (1))))))), none⟩,
    ⟨(some 8), .mov (.t 18), none⟩]))))))) (.seq (.reg [
    ⟨(some 4), .mov (.c (.rv (.one (.dat (.val (.int .i64 (-1))))))), none⟩]) .ret)))⟩
def c25 : LF := ⟨9, [.tmp 3], (.seq (.reg [
    ⟨(some 2), .box (.t 0), none⟩,
    ⟨(some 3), .mov (.c (.rv (.one (.dat (.val (.bool false)))))), none⟩]) (.seq (.reg [
    ⟨(some 4), .fadr 0 (.t 2), none⟩,
    ⟨(some 5), .load false 1 (.t 4), none⟩,
    ⟨(some 6), .idxa 6 1 (.t 1) (.c (.rv (.one (.dat (.val (.int .i64 (0))))))), none⟩,
    ⟨(some 7), .load false 1 (.t 6), none⟩,
    ⟨(some 8), .bin .eql (.t 5) (.t 7), none⟩,
    ⟨(some 3), .mov (.t 8), none⟩]) .ret))⟩
def c26 : LF := ⟨12, [.tmp 3], (.seq (.reg [
    ⟨(some 2), .box (.t 0), none⟩,
    ⟨(some 3), .mov (.c (.rv (.one (.dat (.val (.bool false)))))), none⟩]) (.seq (.draw [
    ⟨(some 4), .fadr 0 (.t 2), none⟩,
    ⟨(some 5), .load false 1 (.t 4), none⟩,
    ⟨(some 6), .idxa 6 1 (.t 1) (.t 5), none⟩,
    ⟨(some 7), .load false 1 (.t 6), none⟩,
    ⟨(some 8), .fadr 1 (.t 2), none⟩,
    ⟨(some 9), .load false 1 (.t 8), none⟩,
    ⟨(some 10), .bin .and (.t 7) (.t 9), none⟩,
    ⟨(some 11), .bin .neq (.t 10) (.c (.rv (.one (.dat (.val (.int .i64 (0))))))), none⟩,
    ⟨(some 3), .mov (.t 11), none⟩]
    [(.cons 0 none (.cons 1 none (.cons 2 none (.cons 3 none (.cons 4 none (.cons 5 none (.cons 6 none (.cons 7 none (.cons 8 none .nil)))))))))]) .ret))⟩
def c31 : LF := ⟨19, [.tmp 4], (.seq (.reg [
    ⟨(some 4), .mov (.c (.rv (.one (.dat (.val (.int .i64 (0))))))), none⟩]) (.seq (.seq (.reg [
    ⟨(some 6), .mov (.t 0), none⟩,
    ⟨(some 7), .len 1 (.t 6), none⟩,
    ⟨(some 8), .mov (.c (.rv (.one (.dat (.val (.int .i64 (0))))))), none⟩]) (.block 0 (.loop (.seq (.reg [
    ⟨(some 9), .bin .lss (.t 8) (.t 7), none⟩]) (.seq (.cond (.t 9) .skip (.exit 0)) (.seq (.block 1 (.seq (.reg [
    ⟨(some 10), .mov (.t 8), none⟩,
    ⟨(some 5), .mov (.t 10), none⟩]) (.seq (.reg [
    ⟨(some 11), .mov (.t 1), none⟩,
    ⟨(some 12), .mov (.t 0), none⟩,
    ⟨(some 13), .mov (.t 5), none⟩,
    ⟨(some 14), .idx 2 (.t 12) (.t 13), none⟩,
    ⟨(some 15), .load true 2 (.t 14), none⟩,
    ⟨(some 16), .call (.t 11) [(.t 15)], none⟩]) (.cond (.t 16) (.seq (.reg [
    ⟨(some 17), .mov (.t 5), none⟩,
    ⟨(some 4), .mov (.t 17), none⟩]) .ret) .skip)))) (.reg [
    ⟨(some 18), .bin .add (.t 8) (.c (.rv (.one (.dat (.val (.int .i64 (1))))))), none⟩,
    ⟨(some 8), .mov (.t 18), none⟩]))))))) (.seq (.reg [
    ⟨(some 4), .mov (.c (.rv (.one (.dat (.val (.int .i64 (-1))))))), none⟩]) .ret)))⟩
structure Msk where
  w : Int
  bits : Int
def Msk.enc (m : Msk) : List Dt := [.val (.int .i64 m.w), .val (.int .i64 m.bits)]
def Msk.cv (m : Msk) : CV := .rv (.agg (m.enc.map .dat))
structure Pol where
  call : Int
  masks : List Msk
def Pol.enc (p : Pol) : List Dt := [.val (.int .i64 p.call), .sl 2 (p.masks.map Msk.enc)]
def Pol.cv (p : Pol) : CV := .rv (.agg (p.enc.map .dat))
def msksV (l : List Msk) : CV := .rv (.one (.dat (.sl 2 (l.map Msk.enc))))
def polsV (l : List Pol) : CV := .rv (.one (.dat (.sl 2 (l.map Pol.enc))))
def ptr0 : CV := .rv (.one (.ptr 0 0))
def idxG {α : Type} (q : α → Bool) (l : List α) : Int := match l.findIdx? q with | some k => (k : Int) | none => -1
theorem idxG_found {α : Type} {q : α → Bool} {l : List α} {k : Nat} (h : k < l.length) (hq : q l[k] = true) (hb : ∀ (j : Nat) s, j < k → l[j]? = some s → q s = false) : idxG q l = k := by
  have : l.findIdx? q = some k := by
    rw [List.findIdx?_eq_some_iff_getElem]
    exact ⟨h, hq, fun j hj => by simpa using hb j _ hj (List.getElem?_eq_getElem (by omega))⟩
  rw [idxG, this]
theorem idxG_none {α : Type} {q : α → Bool} {l : List α} (hb : ∀ (j : Nat) s, l[j]? = some s → q s = false) : idxG q l = -1 := by
  have : l.findIdx? q = none := by
    rw [List.findIdx?_eq_none_iff]
    intro s hs
    obtain ⟨i, hi⟩ := List.getElem?_of_mem hs
    simpa using hb i s hi
  rw [idxG, this]
theorem idxG_any {α : Type} (q : α → Bool) (l : List α) : decide (idxG q l ≥ 0) = l.any q := by
  unfold idxG
  cases h : l.findIdx? q with
  | none =>
    rw [List.findIdx?_eq_none_iff] at h
    have : l.any q = false := by simpa using h
    rw [this]; rfl
  | some k =>
    obtain ⟨h1, h2, _⟩ := List.findIdx?_eq_some_iff_getElem.1 h
    have : l.any q = true := List.any_eq_true.2 ⟨_, List.getElem_mem h1, h2⟩
    rw [this]
    exact decide_eq_true (by simp)
theorem l18 : lowF Try.prog Try.f18 = some c18 := by kernel_rfl
theorem l19 : lowF Try.prog Try.f19 = some c19 := by kernel_rfl
theorem l20 : lowF Try.prog Try.f20 = some c20 := by kernel_rfl
theorem l21 : lowF Try.prog Try.f21 = some c21 := by kernel_rfl
theorem l24 : lowF Try.prog Try.f24 = some c24 := by kernel_rfl
theorem l25 : lowF Try.prog Try.f25 = some c25 := by kernel_rfl
theorem l26 : lowF Try.prog Try.f26 = some c26 := by kernel_rfl
theorem l31 : lowF Try.prog Try.f31 = some c31 := by kernel_rfl
set_option maxRecDepth 100000 in
set_option maxHeartbeats 4000000 in
theorem idx67B_body (l : List Pol) (hb : l.length ≤ 4194304) (F : Nat) (cs : List Dt) (q : Pol → Bool) (hF : ∀ s, s ∈ l → ∀ K : CV → Mem → Prop, K (vBool (q s)) [.var (cs.map .dat)] → ACall Try.prog F [s.cv, ptr0] [.var (cs.map .dat)] K) : body Try.prog c24 [polsV l, (.rv (.one (.fn F [0])))] [.var (cs.map .dat)] (fun r m => r = vInt .i64 (idxG q l) ∧ ∃ ex, m = .var (cs.map .dat) :: ex) := by
  refine loop_keep (fun k => k ≤ l.length ∧ ∀ (j : Nat) s, j < k → l[j]? = some s → q s = false) [0, 1, 7] (fun k => [(8, vInt .i64 (k : Nat))]) (fun _ => [.var (cs.map .dat)]) (fun k => l.length - k) 0 ⟨Nat.zero_le _, fun j s h => absurd h (Nat.not_lt_zero j)⟩ ?_ (fun k hk => ?_)
  · refine View.of 1 [0] [] rfl rfl rfl rfl rfl rfl ?_ ?_
    · repeat (first | exact .nil | refine .junk ?_ | refine .eq rfl ?_)
    · exact .put (by simp [memN]) rfl (.varDE rfl) (.nil _)
  · refine bB_dec (fun h => ?_) (fun h => ?_)
    · have hlt : k < l.length := by
        have h : (k : Int) < ((l.map Pol.enc).length : Int) := h
        rw [List.length_map] at h
        omega
      have hg : getZ (l.map Pol.enc) (k : Nat) = some (l[k].enc) := by
        rw [getZ_nat, List.getElem?_map, List.getElem?_eq_getElem hlt]; rfl
      refine ok_some hg ?_
      refine hF l[k] (List.getElem_mem hlt) _ ?_
      refine bB_split (fun h => ?_) (fun h => ?_)
      · rw [idxG_found hlt h hk.2]
        exact ⟨rfl, [], rfl⟩
      · refine ⟨k + 1, ⟨hlt, fun j s hj hs => ?_⟩, (show l.length - (k + 1) < l.length - k by omega), View.of 1 [0] [] rfl rfl rfl rfl rfl rfl ?_ ?_⟩
        · rcases Nat.lt_or_ge j k with h5 | h5
          · exact hk.2 j s h5 hs
          · have : j = k := by omega
            subst this
            rw [List.getElem?_eq_getElem hlt] at hs
            cases hs
            exact h
        · repeat (first | exact .nil | refine .junk ?_ | refine .put (.ren (next_i64 (by omega)).symm) ?_ | refine .eq rfl ?_)
        · exact .put (by simp [memN]) rfl (.varDE rfl) (.nil _)
    · have hge : ¬ (k : Int) < ((l.map Pol.enc).length : Int) := h
      rw [List.length_map] at hge
      rw [idxG_none fun j s hs => hk.2 j s (by have := (List.getElem?_eq_some_iff.1 hs).1; omega) hs]
      exact ⟨rfl, [], rfl⟩
set_option maxRecDepth 100000 in
theorem idx67B_ok (l : List Pol) (hb : l.length ≤ 4194304) (F : Nat) (cs : List Dt) (q : Pol → Bool) (hF : ∀ s, s ∈ l → ∀ K : CV → Mem → Prop, K (vBool (q s)) [.var (cs.map .dat)] → ACall Try.prog F [s.cv, ptr0] [.var (cs.map .dat)] K) {K : CV → Mem → Prop} (h : K (vInt .i64 (idxG q l)) [.var (cs.map .dat)]) : ACall Try.prog 24 [polsV l, (.rv (.one (.fn F [0])))] [.var (cs.map .dat)] K :=
  acall_trim rfl (acall_body Try.func24 l24 rfl (Nat.le_of_ble_eq_true rfl) (idx67B_body l hb F cs q hF)) h
set_option maxRecDepth 100000 in
theorem any62B_ok (l : List Pol) (hb : l.length ≤ 4194304) (F : Nat) (cs : List Dt) (q : Pol → Bool) (hF : ∀ s, s ∈ l → ∀ K : CV → Mem → Prop, K (vBool (q s)) [.var (cs.map .dat)] → ACall Try.prog F [s.cv, ptr0] [.var (cs.map .dat)] K) (K : CV → Mem → Prop) (h : K (vBool (l.any q)) [.var (cs.map .dat)]) : ACall Try.prog 18 [polsV l, (.rv (.one (.fn F [0])))] [.var (cs.map .dat)] K := by
  refine acall_trim rfl (acall_body Try.func18 l18 rfl (Nat.le_of_ble_eq_true rfl) (show body Try.prog c18 [polsV l, (.rv (.one (.fn F [0])))] [.var (cs.map .dat)] (fun r m => r = vBool (l.any q) ∧ ∃ ex, m = .var (cs.map .dat) :: ex) from ?_)) h
  refine idx67B_ok l hb F cs q hF ?_
  rw [← idxG_any]
  exact ⟨rfl, [], rfl⟩
set_option maxRecDepth 100000 in
set_option maxHeartbeats 4000000 in
theorem idx106A_body (l : List Msk) (hb : l.length ≤ 4194304) (F : Nat) (q : Msk → Bool) (hF : ∀ s, s ∈ l → ∀ K : CV → Mem → Prop, K (vBool (q s)) [] → ACall Try.prog F [s.cv] [] K) : body Try.prog c31 [msksV l, (.rv (.one (.fn F [])))] [] (fun r m => r = vInt .i64 (idxG q l)) := by
  refine loop_keep (fun k => k ≤ l.length ∧ ∀ (j : Nat) s, j < k → l[j]? = some s → q s = false) [0, 1, 7] (fun k => [(8, vInt .i64 (k : Nat))]) (fun _ => []) (fun k => l.length - k) 0 ⟨Nat.zero_le _, fun j s h => absurd h (Nat.not_lt_zero j)⟩ ?_ (fun k hk => ?_)
  · refine View.of 0 [] [] rfl rfl rfl rfl rfl rfl ?_ ?_
    · repeat (first | exact .nil | refine .junk ?_ | refine .eq rfl ?_)
    · exact .nil _
  · refine bB_dec (fun h => ?_) (fun h => ?_)
    · have hlt : k < l.length := by
        have h : (k : Int) < ((l.map Msk.enc).length : Int) := h
        rw [List.length_map] at h
        omega
      have hg : getZ (l.map Msk.enc) (k : Nat) = some (l[k].enc) := by
        rw [getZ_nat, List.getElem?_map, List.getElem?_eq_getElem hlt]; rfl
      refine ok_some hg ?_
      refine hF l[k] (List.getElem_mem hlt) _ ?_
      refine bB_split (fun h => ?_) (fun h => ?_)
      · rw [idxG_found hlt h hk.2]
        exact rfl
      · refine ⟨k + 1, ⟨hlt, fun j s hj hs => ?_⟩, (show l.length - (k + 1) < l.length - k by omega), View.of 0 [] [] rfl rfl rfl rfl rfl rfl ?_ ?_⟩
        · rcases Nat.lt_or_ge j k with h5 | h5
          · exact hk.2 j s h5 hs
          · have : j = k := by omega
            subst this
            rw [List.getElem?_eq_getElem hlt] at hs
            cases hs
            exact h
        · repeat (first | exact .nil | refine .junk ?_ | refine .put (.ren (next_i64 (by omega)).symm) ?_ | refine .eq rfl ?_)
        · exact .nil _
    · have hge : ¬ (k : Int) < ((l.map Msk.enc).length : Int) := h
      rw [List.length_map] at hge
      rw [idxG_none fun j s hs => hk.2 j s (by have := (List.getElem?_eq_some_iff.1 hs).1; omega) hs]
      exact rfl
set_option maxRecDepth 100000 in
theorem idx106A_ok (l : List Msk) (hb : l.length ≤ 4194304) (F : Nat) (q : Msk → Bool) (hF : ∀ s, s ∈ l → ∀ K : CV → Mem → Prop, K (vBool (q s)) [] → ACall Try.prog F [s.cv] [] K) {m : Mem} {K : CV → Mem → Prop} (h : K (vInt .i64 (idxG q l)) m) : ACall Try.prog 31 [msksV l, (.rv (.one (.fn F [])))] m K :=
  acall_val Try.func31 l31 rfl (Nat.le_of_ble_eq_true rfl) (idx106A_body l hb F q hF) rfl rfl h
set_option maxRecDepth 100000 in
theorem any64A_ok (l : List Msk) (hb : l.length ≤ 4194304) (F : Nat) (q : Msk → Bool) (hF : ∀ s, s ∈ l → ∀ K : CV → Mem → Prop, K (vBool (q s)) [] → ACall Try.prog F [s.cv] [] K) {m : Mem} {K : CV → Mem → Prop} (h : K (vBool (l.any q)) m) : ACall Try.prog 20 [msksV l, (.rv (.one (.fn F [])))] m K := by
  refine acall_val Try.func20 l20 rfl (Nat.le_of_ble_eq_true rfl) (show body Try.prog c20 [msksV l, (.rv (.one (.fn F [])))] [] (fun r m => r = vBool (l.any q)) from ?_) rfl rfl h
  refine idx106A_ok l hb F q hF ?_
  rw [← idxG_any]
  exact rfl
set_option maxRecDepth 100000 in
set_option maxHeartbeats 4000000 in
theorem idx106B_body (l : List Msk) (hb : l.length ≤ 4194304) (F : Nat) (cs : List Dt) (q : Msk → Bool) (hF : ∀ s, s ∈ l → ∀ K : CV → Mem → Prop, K (vBool (q s)) [.var (cs.map .dat)] → ACall Try.prog F [s.cv, ptr0] [.var (cs.map .dat)] K) : body Try.prog c31 [msksV l, (.rv (.one (.fn F [0])))] [.var (cs.map .dat)] (fun r m => r = vInt .i64 (idxG q l) ∧ ∃ ex, m = .var (cs.map .dat) :: ex) := by
  refine loop_keep (fun k => k ≤ l.length ∧ ∀ (j : Nat) s, j < k → l[j]? = some s → q s = false) [0, 1, 7] (fun k => [(8, vInt .i64 (k : Nat))]) (fun _ => [.var (cs.map .dat)]) (fun k => l.length - k) 0 ⟨Nat.zero_le _, fun j s h => absurd h (Nat.not_lt_zero j)⟩ ?_ (fun k hk => ?_)
  · refine View.of 1 [0] [] rfl rfl rfl rfl rfl rfl ?_ ?_
    · repeat (first | exact .nil | refine .junk ?_ | refine .eq rfl ?_)
    · exact .put (by simp [memN]) rfl (.varDE rfl) (.nil _)
  · refine bB_dec (fun h => ?_) (fun h => ?_)
    · have hlt : k < l.length := by
        have h : (k : Int) < ((l.map Msk.enc).length : Int) := h
        rw [List.length_map] at h
        omega
      have hg : getZ (l.map Msk.enc) (k : Nat) = some (l[k].enc) := by
        rw [getZ_nat, List.getElem?_map, List.getElem?_eq_getElem hlt]; rfl
      refine ok_some hg ?_
      refine hF l[k] (List.getElem_mem hlt) _ ?_
      refine bB_split (fun h => ?_) (fun h => ?_)
      · rw [idxG_found hlt h hk.2]
        exact ⟨rfl, [], rfl⟩
      · refine ⟨k + 1, ⟨hlt, fun j s hj hs => ?_⟩, (show l.length - (k + 1) < l.length - k by omega), View.of 1 [0] [] rfl rfl rfl rfl rfl rfl ?_ ?_⟩
        · rcases Nat.lt_or_ge j k with h5 | h5
          · exact hk.2 j s h5 hs
          · have : j = k := by omega
            subst this
            rw [List.getElem?_eq_getElem hlt] at hs
            cases hs
            exact h
        · repeat (first | exact .nil | refine .junk ?_ | refine .put (.ren (next_i64 (by omega)).symm) ?_ | refine .eq rfl ?_)
        · exact .put (by simp [memN]) rfl (.varDE rfl) (.nil _)
    · have hge : ¬ (k : Int) < ((l.map Msk.enc).length : Int) := h
      rw [List.length_map] at hge
      rw [idxG_none fun j s hs => hk.2 j s (by have := (List.getElem?_eq_some_iff.1 hs).1; omega) hs]
      exact ⟨rfl, [], rfl⟩
set_option maxRecDepth 100000 in
theorem idx106B_ok (l : List Msk) (hb : l.length ≤ 4194304) (F : Nat) (cs : List Dt) (q : Msk → Bool) (hF : ∀ s, s ∈ l → ∀ K : CV → Mem → Prop, K (vBool (q s)) [.var (cs.map .dat)] → ACall Try.prog F [s.cv, ptr0] [.var (cs.map .dat)] K) {K : CV → Mem → Prop} (h : K (vInt .i64 (idxG q l)) [.var (cs.map .dat)]) : ACall Try.prog 31 [msksV l, (.rv (.one (.fn F [0])))] [.var (cs.map .dat)] K :=
  acall_trim rfl (acall_body Try.func31 l31 rfl (Nat.le_of_ble_eq_true rfl) (idx106B_body l hb F cs q hF)) h
set_option maxRecDepth 100000 in
theorem any64B_ok (l : List Msk) (hb : l.length ≤ 4194304) (F : Nat) (cs : List Dt) (q : Msk → Bool) (hF : ∀ s, s ∈ l → ∀ K : CV → Mem → Prop, K (vBool (q s)) [.var (cs.map .dat)] → ACall Try.prog F [s.cv, ptr0] [.var (cs.map .dat)] K) (K : CV → Mem → Prop) (h : K (vBool (l.any q)) [.var (cs.map .dat)]) : ACall Try.prog 20 [msksV l, (.rv (.one (.fn F [0])))] [.var (cs.map .dat)] K := by
  refine acall_trim rfl (acall_body Try.func20 l20 rfl (Nat.le_of_ble_eq_true rfl) (show body Try.prog c20 [msksV l, (.rv (.one (.fn F [0])))] [.var (cs.map .dat)] (fun r m => r = vBool (l.any q) ∧ ∃ ex, m = .var (cs.map .dat) :: ex) from ?_)) h
  refine idx106B_ok l hb F cs q hF ?_
  rw [← idxG_any]
  exact ⟨rfl, [], rfl⟩
/-! the closures -/
def badM (m : Msk) : Bool := decide (m.w < 1) || decide (m.w ≥ 6) || decide (m.bits < 1) || decide (m.bits ≥ 2147483648)
set_option maxRecDepth 100000 in
theorem clo63 (p s : Pol) (K : CV → Mem → Prop) (h : K (vBool (s.call == p.call)) [.var (p.enc.map .dat)]) : ACall Try.prog 19 [s.cv, ptr0] [.var (p.enc.map .dat)] K :=
  acall_trim rfl (acall_body Try.func19 l19 rfl (Nat.le_of_ble_eq_true rfl) (show body Try.prog c19 [s.cv, ptr0] [.var (p.enc.map .dat)] (fun r m => r = vBool (s.call == p.call) ∧ ∃ ex, m = .var (p.enc.map .dat) :: ex) from ⟨rfl, _, rfl⟩)) h
set_option maxRecDepth 100000 in
theorem body65 (s : Msk) : body Try.prog c21 [s.cv] [] (fun r m => r = vBool (badM s)) := by
  refine bB_split (fun h => ?_) (fun h => ?_)
  · rw [badM, h]; exact rfl
  refine bB_split (fun h2 => ?_) (fun h2 => ?_)
  · rw [badM, h, h2]; exact rfl
  refine bB_split (fun h3 => ?_) (fun h3 => ?_)
  · rw [badM, h, h2, h3]; exact rfl
  · rw [badM, h, h2, h3]; exact rfl
set_option maxRecDepth 100000 in
theorem clo65 (s : Msk) (K : CV → Mem → Prop) (h : K (vBool (badM s)) []) : ACall Try.prog 21 [s.cv] [] K :=
  acall_val Try.func21 l21 rfl (Nat.le_of_ble_eq_true rfl) (body65 s) rfl rfl h
set_option maxRecDepth 100000 in
theorem clo68 (r : Rec) (s : Pol) (K : CV → Mem → Prop) (h : K (vBool (s.call == r.r0)) [.var (r.enc.map .dat)]) : ACall Try.prog 25 [s.cv, ptr0] [.var (r.enc.map .dat)] K :=
  acall_trim rfl (acall_body Try.func25 l25 rfl (Nat.le_of_ble_eq_true rfl) (show body Try.prog c25 [s.cv, ptr0] [.var (r.enc.map .dat)] (fun x m => x = vBool (s.call == r.r0) ∧ ∃ ex, m = .var (r.enc.map .dat) :: ex) from ⟨rfl, _, rfl⟩)) h
def hit (r : Rec) (m : Msk) : Bool := andV (r.get m.w.toNat) m.bits != 0
set_option maxRecDepth 100000 in
theorem body69 (r : Rec) (k : Nat) (hk : k < 6) (bits : Int) : body Try.prog c26 [Msk.cv ⟨k, bits⟩, ptr0] [.var (r.enc.map .dat)] (fun x m => x = vBool (hit r ⟨k, bits⟩) ∧ ∃ ex, m = .var (r.enc.map .dat) :: ex) := by
  refine ok_some (idxZ_nat hk) ?_
  refine ok_some (r.read hk) ?_
  exact ⟨rfl, _, rfl⟩
set_option maxRecDepth 100000 in
theorem clo69 (r : Rec) (s : Msk) (h0 : 0 ≤ s.w) (h1 : s.w < 6) (K : CV → Mem → Prop) (h : K (vBool (hit r s)) [.var (r.enc.map .dat)]) : ACall Try.prog 26 [s.cv, ptr0] [.var (r.enc.map .dat)] K := by
  obtain ⟨w, bits⟩ := s
  obtain ⟨k, rfl⟩ : ∃ n : Nat, w = n := ⟨w.toNat, by simp at h0; omega⟩
  exact acall_trim rfl (acall_body Try.func26 l26 rfl (Nat.le_of_ble_eq_true rfl) (body69 r k (by simp at h1; omega) bits)) h

def c7 : LF := ⟨46, [.cell true 2 2], (.seq (.reg [
    ⟨(some 2), .alloc [(.dat (.val (.int .i64 (0)))), (.dat (.val (.int .i64 (0))))], none⟩]) (.seq (.seq (.reg [
    ⟨(some 5), .mov (.t 0), none⟩,
    ⟨(some 6), .len 1 (.t 5), none⟩,
    ⟨(some 7), .bin .gtr (.t 6) (.c (.rv (.one (.dat (.val (.int .i64 (30))))))), none⟩]) (.cond (.t 7) (.seq (.reg [
    ⟨(some 8), .build [(.dat (.val (.int .i64 (0)))), (.dat (.val (.int .i64 (0))))] [(0, 1, (.c (.rv (.one (.dat (.val (.int .i64 (5))))))))], none⟩,
    ⟨none, .store 2 (.t 2) (.t 8), none⟩]) .ret) .skip)) (.seq (.seq (.reg [
    ⟨(some 9), .mov (.t 0), none⟩,
    ⟨(some 10), .len 1 (.t 9), none⟩,
    ⟨(some 11), .mov (.c (.rv (.one (.dat (.val (.int .i64 (0))))))), none⟩]) (.block 0 (.loop (.seq (.reg [
    ⟨(some 12), .bin .lss (.t 11) (.t 10), none⟩]) (.seq (.cond (.t 12) .skip (.exit 0)) (.seq (.block 1 (.seq (.reg [
    ⟨(some 13), .mov (.t 11), none⟩,
    ⟨(some 14), .idx 2 (.t 9) (.t 11), none⟩,
    ⟨(some 15), .load true 2 (.t 14), none⟩,
    ⟨(some 4), .alloc [(.dat (.val (.int .i64 (0)))), .esl], none⟩,
    ⟨(some 3), .mov (.t 13), none⟩,
    ⟨none, .store 2 (.t 4) (.t 15), none⟩]) (.seq (.seq (.reg [
    ⟨(some 16), .fadr 0 (.t 4), none⟩,
    ⟨(some 17), .load false 1 (.t 16), none⟩,
    ⟨(some 18), .bin .lss (.t 17) (.c (.rv (.one (.dat (.val (.int .i64 (0))))))), none⟩,
    ⟨(some 19), .mov (.t 18), none⟩,
    ⟨(some 20), .fadr 0 (.t 4), (some (19, false))⟩,
    ⟨(some 21), .load false 1 (.t 20), (some (19, false))⟩,
    ⟨(some 22), .bin .geq (.t 21) (.c (.rv (.one (.dat (.val (.int .i64 (2147483648))))))), (some (19, false))⟩,
    ⟨(some 23), .pick (.t 19) (.c (.rv (.one (.dat (.val (.bool true)))))) (.t 22), none⟩]) (.cond (.t 23) (.seq (.reg [
    ⟨(some 24), .mov (.t 3), none⟩,
    ⟨(some 25), .build [(.dat (.val (.int .i64 (0)))), (.dat (.val (.int .i64 (0))))] [(0, 1, (.c (.rv (.one (.dat (.val (.int .i64 (3)))))))), (1, 1, (.t 24))], none⟩,
    ⟨none, .store 2 (.t 2) (.t 25), none⟩]) .ret) .skip)) (.seq (.seq (.reg [
    ⟨(some 26), .mov (.t 0), none⟩,
    ⟨(some 27), .mov (.t 3), none⟩,
    ⟨(some 28), .slc 2 (.t 26) none (some (.t 27)) none, none⟩,
    ⟨(some 29), .fn 19 [(.t 4)], none⟩,
    ⟨(some 30), .call (.c (.rv (.one (.fn 18 [])))) [(.t 28), (.t 29)], none⟩]) (.cond (.t 30) (.seq (.reg [
    ⟨(some 31), .mov (.t 3), none⟩,
    ⟨(some 32), .build [(.dat (.val (.int .i64 (0)))), (.dat (.val (.int .i64 (0))))] [(0, 1, (.c (.rv (.one (.dat (.val (.int .i64 (7)))))))), (1, 1, (.t 31))], none⟩,
    ⟨none, .store 2 (.t 2) (.t 32), none⟩]) .ret) .skip)) (.seq (.seq (.reg [
    ⟨(some 33), .fadr 1 (.t 4), none⟩,
    ⟨(some 34), .load false 1 (.t 33), none⟩,
    ⟨(some 35), .len 1 (.t 34), none⟩,
    ⟨(some 36), .bin .gtr (.t 35) (.c (.rv (.one (.dat (.val (.int .i64 (3))))))), none⟩]) (.cond (.t 36) (.seq (.reg [
    ⟨(some 37), .mov (.t 3), none⟩,
    ⟨(some 38), .build [(.dat (.val (.int .i64 (0)))), (.dat (.val (.int .i64 (0))))] [(0, 1, (.c (.rv (.one (.dat (.val (.int .i64 (5)))))))), (1, 1, (.t 37))], none⟩,
    ⟨none, .store 2 (.t 2) (.t 38), none⟩]) .ret) .skip)) (.seq (.reg [
    ⟨(some 39), .fadr 1 (.t 4), none⟩,
    ⟨(some 40), .load false 1 (.t 39), none⟩,
    ⟨(some 41), .call (.c (.rv (.one (.fn 20 [])))) [(.t 40), (.c (.rv (.one (.fn 21 []))))], none⟩]) (.cond (.t 41) (.seq (.reg [
    ⟨(some 42), .mov (.t 3), none⟩,
    ⟨(some 43), .build [(.dat (.val (.int .i64 (0)))), (.dat (.val (.int .i64 (0))))] [(0, 1, (.c (.rv (.one (.dat (.val (.int .i64 (3)))))))), (1, 1, (.t 42))], none⟩,
    ⟨none, .store 2 (.t 2) (.t 43), none⟩]) .ret) .skip))))))) (.reg [
    ⟨(some 44), .bin .add (.t 11) (.c (.rv (.one (.dat (.val (.int .i64 (1))))))), none⟩,
    ⟨(some 11), .mov (.t 44), none⟩]))))))) (.seq (.reg [
    ⟨(some 45), .build [(.dat (.val (.int .i64 (0)))), (.dat (.val (.int .i64 (0))))] [], none⟩,
    ⟨none, .store 2 (.t 2) (.t 45), none⟩]) .ret))))⟩
/-! Wrong -/
def wrong1 (pre : List Pol) (p : Pol) : Int :=
  if p.call < 0 ∨ p.call ≥ 2147483648 then 3 else if pre.any (fun q => q.call == p.call) = true then 7 else if p.masks.length > 3 then 5 else if p.masks.any badM = true then 3 else 0
def wrongAt (l : List Pol) (k : Nat) : Int := match l[k]? with | some p => wrong1 (l.take k) p | none => 0
def firstE (f : Nat → Int) : Nat → Nat → Int × Int
  | 0, _ => (0, 0)
  | n + 1, k => if f k = 0 then firstE f n (k + 1) else (f k, (k : Int))
theorem firstE_ok {f : Nat → Int} : ∀ (n k : Nat), (∀ j, k ≤ j → j < k + n → f j = 0) → firstE f n k = (0, 0)
  | 0, _, _ => rfl
  | n + 1, k, h => by
    rw [firstE, if_pos (h k (Nat.le_refl k) (by omega))]
    exact firstE_ok n (k + 1) fun j h1 h2 => h j (by omega) (by omega)
theorem firstE_bad {f : Nat → Int} : ∀ (n k j : Nat), k ≤ j → j < k + n → (∀ i, k ≤ i → i < j → f i = 0) → f j ≠ 0 → firstE f n k = (f j, (j : Int))
  | 0, _, _, _, _, _, _ => by omega
  | n + 1, k, j, h1, h2, h3, h4 => by
    rw [firstE]
    rcases Nat.lt_or_ge k j with h | h
    · rw [if_pos (h3 k (Nat.le_refl k) h)]
      exact firstE_bad n (k + 1) j (by omega) (by omega) (fun i a b => h3 i (by omega) b) h4
    · have : k = j := by omega
      subst this
      rw [if_neg h4]
def wrongS (l : List Pol) : Int × Int := if l.length > 30 then (5, 0) else firstE (wrongAt l) l.length 0
theorem wrong_bad {l : List Pol} {k : Nat} (h0 : ¬ l.length > 30) (hk : k < l.length) (hg : ∀ j, j < k → wrongAt l j = 0) {e : Int} (h : wrong1 (l.take k) l[k] = e) (he : e ≠ 0) : fltV (e, (k : Int)) = fltV (wrongS l) := by
  have hw : wrongAt l k = e := by
    rw [wrongAt, List.getElem?_eq_getElem hk]; exact h
  rw [wrongS, if_neg h0, firstE_bad l.length 0 k (by omega) (by omega) (fun i _ hi => hg i hi) (by rw [hw]; exact he), hw]
theorem wrong_next {l : List Pol} {k : Nat} (hk : k < l.length) (hg : ∀ j, j < k → wrongAt l j = 0) (h : wrong1 (l.take k) l[k] = 0) : ∀ j, j < k + 1 → wrongAt l j = 0 := by
  intro j hj
  rcases Nat.lt_or_ge j k with h1 | h1
  · exact hg j h1
  · have : j = k := by omega
    subst this
    rw [wrongAt, List.getElem?_eq_getElem hk]; exact h
theorem l7 : lowF Try.prog Try.f7 = some c7 := by kernel_rfl
set_option maxRecDepth 100000 in
set_option maxHeartbeats 8000000 in
theorem wrong_body (l : List Pol) : body Try.prog c7 [polsV l] [] (fun r m => r = fltV (wrongS l)) := by
  refine bB_dec (fun h => ?_) (fun h0 => ?_)
  · have h : l.length > 30 := by
      have h : (((l.map Pol.enc).length : Nat) : Int) > 30 := h
      rw [List.length_map] at h; omega
    rw [wrongS, if_pos h]; exact rfl
  have h0 : ¬ l.length > 30 := by
    have h : ¬ (((l.map Pol.enc).length : Nat) : Int) > 30 := h0
    rw [List.length_map] at h; omega
  refine loop_keep (fun k => k ≤ l.length ∧ ∀ (j : Nat), j < k → wrongAt l j = 0) [0, 2, 9, 10] (fun k => [(11, vInt .i64 (k : Nat))]) (fun _ => [.var [.dat (.val (.int .i64 0)), .dat (.val (.int .i64 0))]]) (fun k => l.length - k) 0 ⟨Nat.zero_le _, fun j h => absurd h (Nat.not_lt_zero j)⟩ ?_ (fun k hk => ?_)
  · refine View.of 1 [0] [] rfl rfl rfl rfl rfl rfl ?_ ?_
    · repeat (first | exact .nil | refine .junk ?_ | refine .eq rfl ?_)
    · exact .put (by simp [memN]) rfl (.eq rfl (by simp)) (.nil _)
  · refine bB_dec (fun h => ?_) (fun h => ?_)
    · have hlt : k < l.length := by
        have h : (k : Int) < ((l.map Pol.enc).length : Int) := h
        rw [List.length_map] at h
        omega
      have bad : ∀ {e : Int}, wrong1 (l.take k) l[k] = e → e ≠ 0 → fltV (e, (k : Int)) = fltV (wrongS l) := fun a b => wrong_bad h0 hlt hk.2 a b
      have good := wrong_next hlt hk.2
      have hg : getZ (l.map Pol.enc) (k : Nat) = some [.val (.int .i64 l[k].call), .sl 2 (l[k].masks.map Msk.enc)] := by
        rw [getZ_nat, List.getElem?_map, List.getElem?_eq_getElem hlt]; rfl
      generalize l[k] = p at bad good hg
      obtain ⟨call, masks⟩ := p
      refine ok_some hg ?_
      refine bB_dec (fun h => ?_) (fun h1 => ?_)
      · exact bad (by rw [wrong1, if_pos (.inl h)]) (by decide)
      refine bB_dec (fun h => ?_) (fun h2 => ?_)
      · exact bad (by rw [wrong1, if_pos (.inr h)]) (by decide)
      have n1 : ¬ ((⟨call, masks⟩ : Pol).call < 0 ∨ (⟨call, masks⟩ : Pol).call ≥ 2147483648) := fun h => h.elim h1 h2
      have hcall : ∀ {m : Mem} {K : CV → Mem → Prop}, nth m 1 = some (.var ((⟨call, masks⟩ : Pol).enc.map .dat)) → K (vBool ((l.take k).any fun q => q.call == (⟨call, masks⟩ : Pol).call)) m → ACall Try.prog 18 [.rv (.one (.dat (.sl 2 (((l.map Pol.enc).take k).drop 0)))), .rv (.one (.fn 19 [1]))] m K := by
        intro m K hm hK
        have e : ((l.map Pol.enc).take k).drop 0 = (l.take k).map Pol.enc := by simp
        rw [e]
        exact acall_look 1 hm rfl rfl (any62B_ok (l.take k) (by simp; omega) 19 (⟨call, masks⟩ : Pol).enc (fun q => q.call == (⟨call, masks⟩ : Pol).call) fun s _ K hs => clo63 _ s K hs) hK
      refine bB_yes (by simp [Nat.ble_eq]; omega) ?_
      refine hcall rfl ?_
      refine bB_split (fun h => ?_) (fun h3 => ?_)
      · exact bad (by rw [wrong1, if_neg n1, if_pos h]) (by decide)
      have n2 : ¬ ((l.take k).any fun q => q.call == (⟨call, masks⟩ : Pol).call) = true := by rw [h3]; simp
      refine bB_dec (fun h => ?_) (fun h4 => ?_)
      · have h : (⟨call, masks⟩ : Pol).masks.length > 3 := by
          have h : (((masks.map Msk.enc).length : Nat) : Int) > 3 := h
          rw [List.length_map] at h
          show masks.length > 3
          omega
        exact bad (by rw [wrong1, if_neg n1, if_neg n2, if_pos h]) (by decide)
      have n3 : ¬ (⟨call, masks⟩ : Pol).masks.length > 3 := by
        have h : ¬ (((masks.map Msk.enc).length : Nat) : Int) > 3 := h4
        rw [List.length_map] at h
        show ¬ masks.length > 3
        omega
      refine any64A_ok masks (by have : ¬ masks.length > 3 := n3; omega) 21 badM (fun s _ K hs => clo65 s K hs) ?_
      refine bB_split (fun h => ?_) (fun h5 => ?_)
      · exact bad (by rw [wrong1, if_neg n1, if_neg n2, if_neg n3, if_pos h]) (by decide)
      have n4 : ¬ (⟨call, masks⟩ : Pol).masks.any badM = true := by
        show ¬ masks.any badM = true
        rw [h5]; simp
      refine ⟨k + 1, ⟨hlt, good (by rw [wrong1, if_neg n1, if_neg n2, if_neg n3, if_neg n4])⟩, (show l.length - (k + 1) < l.length - k by omega), View.of 2 [0] [] rfl rfl rfl rfl rfl rfl ?_ ?_⟩
      · repeat (first | exact .nil | refine .junk ?_ | refine .put (.ren (next_i64 (by omega)).symm) ?_ | refine .eq rfl ?_)
      · exact .put (by simp [memN]) rfl (.eq rfl (by simp)) (.nil _)
    · have hge : ¬ (k : Int) < ((l.map Pol.enc).length : Int) := h
      rw [List.length_map] at hge
      rw [wrongS, if_neg h0, firstE_ok l.length 0 fun j _ hj => hk.2 j (by omega)]
      exact rfl
set_option maxRecDepth 100000 in
theorem wrong_ok (l : List Pol) {m : Mem} {K : CV → Mem → Prop} (h : K (fltV (wrongS l)) m) : ACall Try.prog 7 [polsV l] m K :=
  acall_val Try.func7 l7 rfl (Nat.le_of_ble_eq_true rfl) (wrong_body l) rfl rfl h
/-! Wrong of the document -/
def entM (p : Pol) : ME := ⟨.int .i64 p.call, .one (.dat (.val (.bool true)))⟩
theorem mFind_calls (c : Int) : ∀ L : List Pol, mFind (.int .i64 c) (L.map entM) = if L.any (fun q => q.call == c) = true then some (some (.one (.dat (.val (.bool true))))) else some none
  | [] => rfl
  | p :: r => by
    have ih := mFind_calls c r
    simp only [List.map_cons, mFind, entM, keyEq, decide_true, List.any_cons]
    by_cases h : c = p.call
    · subst h
      simp
    · have h1 : (c == p.call) = false := by simpa using h
      have h2 : (p.call == c) = false := by simpa using fun e => h e.symm
      simp only [h1, h2, Bool.false_or]
      exact ih
theorem mSet_calls (c : Int) (v : RV) : ∀ L : List Pol, L.any (fun q => q.call == c) = false → mSet (.int .i64 c) v (L.map entM) = some (L.map entM ++ [⟨.int .i64 c, v⟩])
  | [], _ => rfl
  | p :: r, h => by
    simp only [List.any_cons, Bool.or_eq_false_iff] at h
    have ih := mSet_calls c v r h.2
    have h1 : (c == p.call) = false := by
      have := h.1
      simp only [beq_eq_false_iff_ne, ne_eq] at this ⊢
      exact fun e => this e.symm
    simp only [List.map_cons, mSet, entM, keyEq, decide_true, h1]
    rw [ih]
    rfl
theorem mp_ren {σ : Nat → Nat} (L : List Pol) : (Bk.mp (L.map entM)).ren σ = .mp (L.map entM) := by
  simp [Bk.ren, RV.ren, CC.ren, entM, Function.comp_def]
def c10 : LF := ⟨37, [.tmp 4], (.seq (.reg [
    ⟨(some 3), .box (.t 1), none⟩,
    ⟨(some 4), .mov (.c (.rv (.one (.dat (.val (.bool false)))))), none⟩]) (.seq (.seq (.reg [
    ⟨(some 9), .mov (.t 0), none⟩,
    ⟨(some 10), .len 1 (.t 9), none⟩,
    ⟨(some 11), .mov (.c (.rv (.one (.dat (.val (.int .i64 (0))))))), none⟩]) (.block 0 (.loop (.seq (.reg [
    ⟨(some 12), .bin .lss (.t 11) (.t 10), none⟩]) (.seq (.cond (.t 12) .skip (.exit 0)) (.seq (.block 1 (.seq (.reg [
    ⟨(some 13), .idx 2 (.t 9) (.t 11), none⟩,
    ⟨(some 14), .load true 2 (.t 13), none⟩,
    ⟨(some 6), .alloc [(.dat (.val (.int .i64 (0)))), .esl], none⟩,
    ⟨none, .store 2 (.t 6) (.t 14), none⟩]) (.seq (.seq (.reg [
    ⟨(some 15), .fadr 0 (.t 6), none⟩,
    ⟨(some 16), .load false 1 (.t 15), none⟩,
    ⟨(some 17), .idxa 6 1 (.t 3) (.c (.rv (.one (.dat (.val (.int .i64 (0))))))), none⟩,
    ⟨(some 18), .load false 1 (.t 17), none⟩,
    ⟨(some 19), .bin .neq (.t 16) (.t 18), none⟩]) (.cond (.t 19) (.exit 1) .skip)) (.seq (.seq (.reg [
    ⟨(some 20), .fadr 1 (.t 6), none⟩,
    ⟨(some 21), .load false 1 (.t 20), none⟩,
    ⟨(some 22), .len 1 (.t 21), none⟩,
    ⟨(some 23), .mov (.c (.rv (.one (.dat (.val (.int .i64 (0))))))), none⟩]) (.block 2 (.loop (.seq (.reg [
    ⟨(some 24), .bin .lss (.t 23) (.t 22), none⟩]) (.seq (.cond (.t 24) .skip (.exit 2)) (.seq (.block 3 (.seq (.reg [
    ⟨(some 25), .idx 2 (.t 21) (.t 23), none⟩,
    ⟨(some 26), .load true 2 (.t 25), none⟩,
    ⟨(some 8), .alloc [(.dat (.val (.int .i64 (0)))), (.dat (.val (.int .i64 (0))))], none⟩,
    ⟨none, .store 2 (.t 8) (.t 26), none⟩]) (.seq (.draw [
    ⟨(some 27), .fadr 0 (.t 8), none⟩,
    ⟨(some 28), .load false 1 (.t 27), none⟩,
    ⟨(some 29), .idxa 6 1 (.t 3) (.t 28), none⟩,
    ⟨(some 30), .load false 1 (.t 29), none⟩,
    ⟨(some 31), .fadr 1 (.t 8), none⟩,
    ⟨(some 32), .load false 1 (.t 31), none⟩,
    ⟨(some 33), .bin .and (.t 30) (.t 32), none⟩,
    ⟨(some 34), .bin .neq (.t 33) (.c (.rv (.one (.dat (.val (.int .i64 (0))))))), none⟩]
    [(.cons 0 none (.cons 1 none (.cons 2 none (.cons 3 none (.cons 4 none (.cons 5 none (.cons 6 none (.cons 7 none .nil))))))))]) (.cond (.t 34) (.seq (.reg [
    ⟨(some 4), .mov (.c (.rv (.one (.dat (.val (.bool false)))))), none⟩]) .ret) .skip)))) (.reg [
    ⟨(some 35), .bin .add (.t 23) (.c (.rv (.one (.dat (.val (.int .i64 (1))))))), none⟩,
    ⟨(some 23), .mov (.t 35), none⟩]))))))) (.seq (.reg [
    ⟨(some 4), .mov (.c (.rv (.one (.dat (.val (.bool true)))))), none⟩]) .ret))))) (.reg [
    ⟨(some 36), .bin .add (.t 11) (.c (.rv (.one (.dat (.val (.int .i64 (1))))))), none⟩,
    ⟨(some 11), .mov (.t 36), none⟩]))))))) (.seq (.reg [
    ⟨(some 4), .mov (.c (.rv (.one (.dat (.val (.bool false)))))), none⟩]) .ret)))⟩
def c12 : LF := ⟨21, [.tmp 4], (.seq (.reg [
    ⟨(some 3), .box (.t 1), none⟩,
    ⟨(some 4), .mov (.c (.rv (.one (.dat (.val (.bool false)))))), none⟩]) (.seq (.reg [
    ⟨(some 6), .mov (.t 0), none⟩,
    ⟨(some 7), .fn 25 [(.t 3)], none⟩,
    ⟨(some 8), .call (.c (.rv (.one (.fn 24 [])))) [(.t 6), (.t 7)], none⟩,
    ⟨(some 5), .mov (.t 8), none⟩]) (.seq (.reg [
    ⟨(some 9), .mov (.t 5), none⟩,
    ⟨(some 10), .bin .geq (.t 9) (.c (.rv (.one (.dat (.val (.int .i64 (0))))))), none⟩,
    ⟨(some 11), .mov (.t 10), none⟩,
    ⟨(some 12), .mov (.t 0), (some (11, true))⟩,
    ⟨(some 13), .mov (.t 5), (some (11, true))⟩,
    ⟨(some 14), .idx 2 (.t 12) (.t 13), (some (11, true))⟩,
    ⟨(some 15), .fadr 1 (.t 14), (some (11, true))⟩,
    ⟨(some 16), .load false 1 (.t 15), (some (11, true))⟩,
    ⟨(some 17), .fn 26 [(.t 3)], (some (11, true))⟩,
    ⟨(some 18), .call (.c (.rv (.one (.fn 20 [])))) [(.t 16), (.t 17)], (some (11, true))⟩,
    ⟨(some 19), .un .not (.t 18), (some (11, true))⟩,
    ⟨(some 20), .pick (.t 11) (.t 19) (.c (.rv (.one (.dat (.val (.bool false)))))), none⟩,
    ⟨(some 4), .mov (.t 20), none⟩]) .ret)))⟩
/-! Allows -/
def allowS (l : List Pol) (r : Rec) : Bool := match l.find? (fun p => p.call == r.r0) with | some p => !p.masks.any (hit r) | none => false
theorem l12 : lowF Try.prog Try.f12 = some c12 := by kernel_rfl
theorem l10 : lowF Try.prog Try.f10 = some c10 := by kernel_rfl
def okW (l : List Pol) : Prop := ∀ p, p ∈ l → ∀ s, s ∈ p.masks → 0 ≤ s.w ∧ s.w < 6
theorem wrong_ok_of {l : List Pol} (h : (wrongS l).1 = 0) : l.length ≤ 30 ∧ okW l := by
  unfold wrongS at h
  split at h
  · simp at h
  · rename_i h0
    refine ⟨by omega, ?_⟩
    have hall : ∀ j, j < l.length → wrongAt l j = 0 := by
      intro j
      induction j using Nat.strongRecOn with
      | _ j ih =>
        intro hj
        by_cases hw : wrongAt l j = 0
        · exact hw
        · rw [firstE_bad l.length 0 j (by omega) (by omega) (fun i _ hi => ih i hi (by omega)) hw] at h
          exact absurd h hw
    intro p hp s hs
    obtain ⟨j, hj⟩ := List.getElem?_of_mem hp
    have hw := hall j (List.getElem?_eq_some_iff.1 hj).1
    rw [wrongAt, hj] at hw
    simp only [wrong1] at hw
    have hnb : badM s = false := by
      cases hb : badM s with
      | false => rfl
      | true =>
        have : p.masks.any badM = true := List.any_eq_true.2 ⟨s, hs, hb⟩
        rw [this] at hw
        split at hw
        · simp at hw
        · split at hw
          · simp at hw
          · split at hw <;> simp at hw
    simp only [badM, Bool.or_eq_false_iff, decide_eq_false_iff_not] at hnb
    omega
set_option maxRecDepth 100000 in
set_option maxHeartbeats 8000000 in
theorem allows_body (l : List Pol) (r : Rec) (hl : l.length ≤ 30) (hw : okW l) (hm : ∀ p, p ∈ l → p.masks.length ≤ 4194304) : body Try.prog c12 [polsV l, r.cv] [] (fun x m => x = vBool (allowS l r)) := by
  refine idx67B_ok l (by omega) 25 r.enc (fun p => p.call == r.r0) (fun s _ K hs => clo68 r s K hs) ?_
  cases hk : l.findIdx? (fun p => p.call == r.r0) with
  | none =>
    have hi : idxG (fun p : Pol => p.call == r.r0) l = -1 := by rw [idxG, hk]
    rw [hi]
    have : allowS l r = false := by
      rw [List.findIdx?_eq_none_iff] at hk
      have : l.find? (fun p => p.call == r.r0) = none := List.find?_eq_none.2 fun x hx => by simpa using hk x hx
      rw [allowS, this]
    rw [this]
    exact rfl
  | some k =>
    have hi : idxG (fun p : Pol => p.call == r.r0) l = (k : Int) := by rw [idxG, hk]
    rw [hi]
    obtain ⟨h1, h2, h3⟩ := List.findIdx?_eq_some_iff_getElem.1 hk
    have ha : allowS l r = !l[k].masks.any (hit r) := by
      have : l.find? (fun p => p.call == r.r0) = some l[k] := by
        rw [List.find?_eq_some_iff_getElem]
        exact ⟨h2, k, h1, rfl, fun j hj => by simpa using h3 j hj⟩
      rw [allowS, this]
    rw [ha]
    have hwk := hw _ (List.getElem_mem h1)
    have hmk := hm _ (List.getElem_mem h1)
    have hg : getZ (l.map Pol.enc) (k : Nat) = some [.val (.int .i64 l[k].call), .sl 2 (l[k].masks.map Msk.enc)] := by
      rw [getZ_nat, List.getElem?_map, List.getElem?_eq_getElem h1]; rfl
    generalize l[k] = p at hwk hg hmk
    refine ok_some hg ?_
    refine any64B_ok p.masks hmk 26 r.enc (hit r) (fun s hs K hK => clo69 r s (hwk s hs).1 (hwk s hs).2 K hK) _ ?_
    exact rfl
set_option maxRecDepth 100000 in
theorem allows_ok (l : List Pol) (r : Rec) (hl : l.length ≤ 30) (hw : okW l) (hm : ∀ p, p ∈ l → p.masks.length ≤ 4194304) {m : Mem} {K : CV → Mem → Prop} (h : K (vBool (allowS l r)) m) : ACall Try.prog 12 [polsV l, r.cv] m K :=
  acall_val Try.func12 l12 rfl (Nat.le_of_ble_eq_true rfl) (allows_body l r hl hw hm) rfl rfl h
theorem find_first {l : List Pol} {r : Rec} {k : Nat} (h : k < l.length) (hq : l[k].call = r.r0) (hb : ∀ (j : Nat) s, j < k → l[j]? = some s → s.call ≠ r.r0) : allowS l r = !l[k].masks.any (hit r) := by
  have : l.find? (fun p => p.call == r.r0) = some l[k] := by
    rw [List.find?_eq_some_iff_getElem]
    exact ⟨by simpa using hq, k, h, rfl, fun j hj => by simpa using hb j _ hj (List.getElem?_eq_getElem (by omega))⟩
  rw [allowS, this]
set_option maxRecDepth 100000 in
set_option maxHeartbeats 8000000 in
theorem rallows_body (l : List Pol) (r : Rec) (hl : l.length ≤ 30) (hw : okW l) (hm : ∀ p, p ∈ l → p.masks.length ≤ 4194304) : body Try.prog c10 [polsV l, r.cv] [] (fun x m => x = vBool (allowS l r)) := by
  refine loop_keep (fun k => k ≤ l.length ∧ ∀ (j : Nat) s, j < k → l[j]? = some s → s.call ≠ r.r0) [0, 3, 9, 10] (fun k => [(11, vInt .i64 (k : Nat))]) (fun _ => [.var (r.enc.map .dat)]) (fun k => l.length - k) 0 ⟨Nat.zero_le _, fun j s h => absurd h (Nat.not_lt_zero j)⟩ ?_ (fun k hk => ?_)
  · refine View.of 1 [0] [] rfl rfl rfl rfl rfl rfl ?_ ?_
    · repeat (first | exact .nil | refine .junk ?_ | refine .eq rfl ?_)
    · exact .put (by simp [memN]) rfl (.eq rfl (by simp)) (.nil _)
  · refine bB_dec (fun h => ?_) (fun h => ?_)
    · have hlt : k < l.length := by
        have h : (k : Int) < ((l.map Pol.enc).length : Int) := h
        rw [List.length_map] at h
        omega
      have hff : l[k].call = r.r0 → allowS l r = !l[k].masks.any (hit r) := fun h => find_first hlt h hk.2
      have hwk := hw _ (List.getElem_mem hlt)
      have hmk := hm _ (List.getElem_mem hlt)
      have hi := List.getElem?_eq_getElem hlt
      have hg : getZ (l.map Pol.enc) (k : Nat) = some [.val (.int .i64 l[k].call), .sl 2 (l[k].masks.map Msk.enc)] := by
        rw [getZ_nat, List.getElem?_map, List.getElem?_eq_getElem hlt]; rfl
      generalize l[k] = p at hff hwk hmk hi hg
      obtain ⟨call, masks⟩ := p
      refine ok_some hg ?_
      refine bB_bne (fun hne => ?_) (fun hc => ?_)
      · refine ⟨k + 1, ⟨hlt, fun j s hj hs => ?_⟩, (show l.length - (k + 1) < l.length - k by omega), View.of 2 [0] [] rfl rfl rfl rfl rfl rfl ?_ ?_⟩
        · rcases Nat.lt_or_ge j k with h5 | h5
          · exact hk.2 j s h5 hs
          · have : j = k := by omega
            subst this
            rw [hi] at hs
            cases hs
            exact hne
        · repeat (first | exact .nil | refine .junk ?_ | refine .put (.ren (next_i64 (by omega)).symm) ?_ | refine .eq rfl ?_)
        · exact .put (by simp [memN]) rfl (.eq rfl (by simp)) (.nil _)
      · have ha : allowS l r = !masks.any (hit r) := hff hc
        rw [ha]
        have hmk : masks.length ≤ 4194304 := hmk
        refine loop_keep (fun j => j ≤ masks.length ∧ ∀ (i : Nat) s, i < j → masks[i]? = some s → hit r s = false) [3, 21, 22] (fun j => [(23, vInt .i64 (j : Nat))]) (fun _ => [.var (r.enc.map .dat)]) (fun j => masks.length - j) 0 ⟨Nat.zero_le _, fun j s h => absurd h (Nat.not_lt_zero j)⟩ ?_ (fun j hj => ?_)
        · refine View.of 2 [0] [] rfl rfl rfl rfl rfl rfl ?_ ?_
          · repeat (first | exact .nil | refine .junk ?_ | refine .eq rfl ?_)
          · exact .put (by simp [memN]) rfl (.eq rfl (by simp)) (.nil _)
        · refine bB_dec (fun h => ?_) (fun h => ?_)
          · have hjlt : j < masks.length := by
              have h : (j : Int) < ((masks.map Msk.enc).length : Int) := h
              rw [List.length_map] at h
              omega
            have hmi := List.getElem?_eq_getElem hjlt
            have hws := hwk masks[j] (List.getElem_mem hjlt)
            generalize masks[j] = s at hmi hws
            obtain ⟨w, bits⟩ := s
            obtain ⟨n, rfl⟩ : ∃ n : Nat, w = n := ⟨w.toNat, by simp at hws; omega⟩
            have hn : n < 6 := by simp at hws; omega
            have hg2 : getZ (masks.map Msk.enc) (j : Nat) = some [.val (.int .i64 n), .val (.int .i64 bits)] := by
              rw [getZ_nat, List.getElem?_map, hmi]; rfl
            refine ok_some hg2 ?_
            refine ok_some (idxZ_nat hn) ?_
            refine ok_some (r.read hn) ?_
            refine bB_split (fun h => ?_) (fun hnh => ?_)
            · have : masks.any (hit r) = true := List.any_eq_true.2 ⟨_, List.mem_of_getElem? hmi, h⟩
              rw [this]
              exact rfl
            · refine ⟨j + 1, ⟨hjlt, fun i s hij hs => ?_⟩, (show masks.length - (j + 1) < masks.length - j by omega), View.of 2 [0] [] rfl rfl rfl rfl rfl rfl ?_ ?_⟩
              · rcases Nat.lt_or_ge i j with h5 | h5
                · exact hj.2 i s h5 hs
                · have : i = j := by omega
                  subst this
                  rw [hmi] at hs
                  cases hs
                  exact hnh
              · repeat (first | exact .nil | refine .junk ?_ | refine .put (.ren (next_i64 (by omega)).symm) ?_ | refine .eq rfl ?_)
              · exact .put (by simp [memN]) rfl (.eq rfl (by simp)) (.nil _)
          · have hge : ¬ (j : Int) < ((masks.map Msk.enc).length : Int) := h
            rw [List.length_map] at hge
            have : masks.any (hit r) = false := by
              cases hb : masks.any (hit r) with
              | false => rfl
              | true =>
                obtain ⟨s, hs, hb⟩ := List.any_eq_true.1 hb
                obtain ⟨i, hi⟩ := List.getElem?_of_mem hs
                have := (List.getElem?_eq_some_iff.1 hi).1
                rw [hj.2 i s (by omega) hi] at hb
                cases hb
            rw [this]
            exact rfl
    · have hge : ¬ (k : Int) < ((l.map Pol.enc).length : Int) := h
      rw [List.length_map] at hge
      have : allowS l r = false := by
        have : l.find? (fun p => p.call == r.r0) = none := List.find?_eq_none.2 fun x hx => by
          obtain ⟨i, hi⟩ := List.getElem?_of_mem hx
          have := (List.getElem?_eq_some_iff.1 hi).1
          simpa using hk.2 i x (by omega) hi
        rw [allowS, this]
      rw [this]
      exact rfl
set_option maxRecDepth 100000 in
theorem rallows_ok (l : List Pol) (r : Rec) (hl : l.length ≤ 30) (hw : okW l) (hm : ∀ p, p ∈ l → p.masks.length ≤ 4194304) {m : Mem} {K : CV → Mem → Prop} (h : K (vBool (allowS l r)) m) : ACall Try.prog 10 [polsV l, r.cv] m K :=
  acall_val Try.func10 l10 rfl (Nat.le_of_ble_eq_true rfl) (rallows_body l r hl hw hm) rfl rfl h
/-! the law -/

/-! The program of policies: plain -/
def leafM : List Msk → List Ins
  | [] => [⟨6, 0, 0, 1⟩, ⟨6, 0, 0, 0⟩]
  | m :: r => ⟨1, 0, 0, m.w⟩ :: ⟨4, ((2 * r.length + 1 : Nat) : Int), 0, m.bits⟩ :: leafM r
def leafS (p : Pol) : List Ins := ⟨2, 0, ((2 * p.masks.length + 1 : Nat) : Int), p.call⟩ :: leafM p.masks
def midC (l : List Pol) : Int := match l[l.length / 2]? with | some p => p.call | none => 0
def treeF : Nat → List Pol → List Ins
  | 0, _ => [⟨6, 0, 0, 0⟩]
  | _ + 1, [] => [⟨6, 0, 0, 0⟩]
  | _ + 1, [p] => leafS p
  | n + 1, p :: q :: r => ⟨3, 0, 1, midC (p :: q :: r)⟩ :: ⟨5, 0, 0, (treeF n ((p :: q :: r).take ((p :: q :: r).length / 2))).length⟩ ::
      (treeF n ((p :: q :: r).take ((p :: q :: r).length / 2)) ++ treeF n ((p :: q :: r).drop ((p :: q :: r).length / 2)))
theorem treeF_two {n : Nat} {l : List Pol} (h : 2 ≤ l.length) : treeF (n + 1) l = ⟨3, 0, 1, midC l⟩ :: ⟨5, 0, 0, (treeF n (l.take (l.length / 2))).length⟩ :: (treeF n (l.take (l.length / 2)) ++ treeF n (l.drop (l.length / 2))) := by
  match l, h with
  | p :: q :: r, _ => rfl
theorem treeF_nil (n : Nat) : treeF n [] = [⟨6, 0, 0, 0⟩] := by cases n <;> rfl
theorem treeF_one (n : Nat) (p : Pol) : treeF (n + 1) [p] = leafS p := rfl
/-- how many steps do not matter -/
theorem treeF_fuel : ∀ (n k : Nat) (l : List Pol), l.length ≤ n → l.length ≤ k → treeF n l = treeF k l
  | 0, k, l, h, _ => by
    have : l = [] := List.eq_nil_of_length_eq_zero (by omega)
    subst this
    rw [treeF_nil, treeF_nil]
  | n + 1, 0, l, _, h => by
    have : l = [] := List.eq_nil_of_length_eq_zero (by omega)
    subst this
    rw [treeF_nil, treeF_nil]
  | n + 1, k + 1, l, h1, h2 => by
    rcases Nat.lt_or_ge l.length 2 with h | h
    · match l, h with
      | [], _ => rfl
      | [p], _ => rfl
    · rw [treeF_two h, treeF_two h, treeF_fuel n k (l.take (l.length / 2)) (by rw [List.length_take]; omega) (by rw [List.length_take]; omega), treeF_fuel n k (l.drop (l.length / 2)) (by rw [List.length_drop]; omega) (by rw [List.length_drop]; omega)]
theorem leafM_len : ∀ ms : List Msk, (leafM ms).length = 2 * ms.length + 2
  | [] => rfl
  | m :: r => by simp [leafM, leafM_len r]; omega
theorem leafM_last : ∀ ms : List Msk, (leafM ms)[2 * ms.length + 1]? = some ⟨6, 0, 0, 0⟩
  | [] => rfl
  | m :: r => by
    have := leafM_last r
    rw [List.length_cons, show 2 * (r.length + 1) + 1 = 2 * r.length + 1 + 1 + 1 by omega]
    simpa [leafM] using this
def At (P : List Ins) (a : Nat) (c : List Ins) : Prop := ∀ (j : Nat) i, c[j]? = some i → P[a + j]? = some i
theorem At.head {P : List Ins} {a : Nat} {x : Ins} {c : List Ins} (h : At P a (x :: c)) : P[a]? = some x := h 0 x rfl
theorem At.tail {P : List Ins} {a : Nat} {x : Ins} {c : List Ins} (h : At P a (x :: c)) : At P (a + 1) c := fun j i hi => by
  have := h (j + 1) i (by simpa using hi)
  rwa [show a + (j + 1) = a + 1 + j by omega] at this
theorem At.left {P : List Ins} {a : Nat} {c d : List Ins} (h : At P a (c ++ d)) : At P a c := fun j i hi => h j i (by rw [List.getElem?_append_left (List.getElem?_eq_some_iff.1 hi).1]; exact hi)
theorem At.right {P : List Ins} {a : Nat} {c d : List Ins} (h : At P a (c ++ d)) : At P (a + c.length) d := fun j i hi => by
  have := h (c.length + j) i (by rw [List.getElem?_append_right (by omega)]; simpa using hi)
  rwa [show a + (c.length + j) = a + c.length + j by omega] at this
theorem leafM_run {P : List Ins} {r : Rec} : ∀ (ms : List Msk) (a : Nat) (acc : Int), At P a (leafM ms) → (runW P r a acc).1 = if ms.any (hit r) then 0 else 1
  | [], a, acc, h => by
    rw [runW_back h.head rfl]; rfl
  | m :: q, a, acc, h => by
    have h2 := h.tail
    rw [runW_go h.head (by simp) (d := 1) (acc2 := r.get m.w.toNat) rfl]
    have hn := nxt_4 (2 * q.length + 1) 0 m.bits (r.get m.w.toNat) r
    by_cases hh : andV (r.get m.w.toNat) m.bits = 0
    · rw [runW_go h2.head (by simp) (hn.2 hh)]
      have hm : hit r m = false := by simp [hit, hh]
      have ih := leafM_run (P := P) (r := r) q (a + 1 + 1) (r.get m.w.toNat) h2.tail
      simp only [List.any_cons, hm, Bool.false_or]
      exact ih
    · rw [runW_go h2.head (by simp) (hn.1 hh)]
      have hm : hit r m = true := by simp [hit, hh]
      have h3 := h2.tail _ _ (leafM_last q)
      rw [show a + 1 + (1 + (2 * q.length + 1)) = a + 1 + 1 + (2 * q.length + 1) by omega, runW_back h3 rfl]
      simp [hm]
theorem leaf_run {P : List Ins} {r : Rec} {p : Pol} {a : Nat} {acc : Int} (h : At P a (leafS p)) : (runW P r a acc).1 = if (p.call == acc && !p.masks.any (hit r)) then 1 else 0 := by
  have hn := nxt_2 0 (2 * p.masks.length + 1) p.call acc r
  by_cases hc : acc = p.call
  · rw [runW_go h.head (by simp) (hn.1 hc)]
    have := leafM_run (r := r) p.masks (a + 1) acc h.tail
    show (runW P r (a + 1) acc).1 = _
    rw [this]
    subst hc
    cases p.masks.any (hit r) <;> simp
  · rw [runW_go h.head (by simp) (hn.2 hc)]
    have h3 := h.tail _ _ (leafM_last p.masks)
    rw [show a + (1 + (2 * p.masks.length + 1)) = a + 1 + (2 * p.masks.length + 1) by omega, runW_back h3 rfl]
    have : (p.call == acc) = false := by rw [beq_eq_false_iff_ne]; exact fun e => hc e.symm
    simp [this]
def letB (l : List Pol) (r : Rec) (acc : Int) : Bool := l.any fun p => p.call == acc && !p.masks.any (hit r)
def rising (l : List Pol) : Prop := l.Pairwise fun a b => a.call < b.call
theorem rising.lo {l : List Pol} (h : rising l) {k : Nat} {q : Pol} (hk : l[k]? = some q) : ∀ p, p ∈ l.take k → p.call < q.call := by
  intro p hp
  obtain ⟨i, hi⟩ := List.getElem?_of_mem hp
  rw [List.getElem?_take] at hi
  split at hi
  · rename_i hik
    obtain ⟨h1, rfl⟩ := List.getElem?_eq_some_iff.1 hi
    obtain ⟨h2, rfl⟩ := List.getElem?_eq_some_iff.1 hk
    exact List.pairwise_iff_getElem.1 h i k h1 h2 hik
  · cases hi
theorem rising.hi {l : List Pol} (h : rising l) {k : Nat} {q : Pol} (hk : l[k]? = some q) : ∀ p, p ∈ l.drop k → q.call ≤ p.call := by
  intro p hp
  obtain ⟨i, hi⟩ := List.getElem?_of_mem hp
  rw [List.getElem?_drop] at hi
  obtain ⟨h1, rfl⟩ := List.getElem?_eq_some_iff.1 hi
  obtain ⟨h2, rfl⟩ := List.getElem?_eq_some_iff.1 hk
  cases i with
  | zero => exact Int.le_refl _
  | succ i => exact Int.le_of_lt (List.pairwise_iff_getElem.1 h k (k + (i + 1)) h2 h1 (by omega))
theorem letB_none {l : List Pol} {r : Rec} {acc : Int} (h : ∀ p, p ∈ l → p.call ≠ acc) : letB l r acc = false := by
  rw [letB, List.any_eq_false]
  intro p hp
  simp [h p hp]
theorem letB_cut (l : List Pol) (k : Nat) (r : Rec) (acc : Int) : letB l r acc = (letB (l.take k) r acc || letB (l.drop k) r acc) := by
  rw [letB, letB, letB, ← List.any_append, List.take_append_drop]
theorem tree_run {P : List Ins} {r : Rec} : ∀ (n : Nat) (l : List Pol) (a : Nat) (acc : Int), l.length ≤ n → rising l → At P a (treeF n l) → (runW P r a acc).1 = if letB l r acc then 1 else 0
  | 0, l, a, acc, hl, _, h => by
    have : l = [] := List.eq_nil_of_length_eq_zero (by omega)
    subst this
    rw [runW_back (At.head (x := ⟨6, 0, 0, 0⟩) (c := []) h) rfl]; rfl
  | n + 1, l, a, acc, hl, hs, h => by
    rcases Nat.lt_or_ge l.length 2 with h2 | h2
    · match l, h2 with
      | [], _ => rw [runW_back (At.head (x := ⟨6, 0, 0, 0⟩) (c := []) h) rfl]; rfl
      | [p], _ =>
        rw [leaf_run (p := p) h]
        simp [letB]
    · rw [treeF_two h2] at h
      have hk : l.length / 2 < l.length := by omega
      have hm : l[l.length / 2]? = some l[l.length / 2] := List.getElem?_eq_getElem hk
      have hmid : midC l = (l[l.length / 2]).call := by rw [midC, hm]
      have hlo := hs.lo hm
      have hhi := hs.hi hm
      rw [← hmid] at hlo hhi
      have hn := nxt_3 0 1 (midC l) acc r
      by_cases hc : acc ≥ midC l
      · rw [runW_go h.head (by simp) (hn.1 hc)]
        show (runW P r (a + 1) acc).1 = _
        rw [runW_go h.tail.head (by simp) (d := 1 + (treeF n (l.take (l.length / 2))).length) (acc2 := acc) (by simp [nxt])]
        have ih := tree_run (P := P) (r := r) n (l.drop (l.length / 2)) (a + 1 + 1 + (treeF n (l.take (l.length / 2))).length) acc (by rw [List.length_drop]; omega) (hs.sublist (List.drop_sublist _ _)) h.tail.tail.right
        rw [← Nat.add_assoc (a + 1)]
        show (runW P r (a + 1 + 1 + (treeF n (l.take (l.length / 2))).length) acc).1 = _
        rw [ih, letB_cut l (l.length / 2), letB_none (l := l.take (l.length / 2)) (fun p hp => by have := hlo p hp; omega), Bool.false_or]
      · rw [runW_go h.head (by simp) (hn.2 hc)]
        have ih := tree_run (P := P) (r := r) n (l.take (l.length / 2)) (a + 1 + 1) acc (by rw [List.length_take]; omega) (hs.sublist (List.take_sublist _ _)) h.tail.tail.left
        show (runW P r (a + 1 + 1) acc).1 = _
        rw [ih, letB_cut l (l.length / 2), letB_none (l := l.drop (l.length / 2)) (fun p hp => by have := hhi p hp; omega), Bool.or_false]
/-! nothing wrong with it -/
def okAt (c : List Ins) (a : Nat) (s : Int) : Prop := ∀ (j : Nat) i, c[j]? = some i → insE i ((a + j : Nat) : Int) s = 0
theorem okAt.cons {x : Ins} {c : List Ins} {a : Nat} {s : Int} (hx : insE x (a : Int) s = 0) (h : okAt c (a + 1) s) : okAt (x :: c) a s := fun j i hi => by
  cases j with
  | zero => simp at hi; subst hi; exact hx
  | succ j =>
    have := h j i (by simpa using hi)
    rwa [show a + 1 + j = a + (j + 1) by omega] at this
theorem okAt.append {c d : List Ins} {a : Nat} {s : Int} (h1 : okAt c a s) (h2 : okAt d (a + c.length) s) : okAt (c ++ d) a s := fun j i hi => by
  rcases Nat.lt_or_ge j c.length with h | h
  · rw [List.getElem?_append_left h] at hi
    exact h1 j i hi
  · rw [List.getElem?_append_right h] at hi
    have := h2 (j - c.length) i hi
    rwa [show a + c.length + (j - c.length) = a + j by omega] at this
def goodM (m : Msk) : Prop := 1 ≤ m.w ∧ m.w < 6 ∧ 1 ≤ m.bits ∧ m.bits < 2147483648
def goodP (p : Pol) : Prop := 0 ≤ p.call ∧ p.call < 2147483648 ∧ p.masks.length ≤ 3 ∧ ∀ m, m ∈ p.masks → goodM m
theorem leafM_ok : ∀ (ms : List Msk) (a s : Nat), ms.length ≤ 3 → (∀ m, m ∈ ms → goodM m) → a + (leafM ms).length ≤ s → okAt (leafM ms) a s
  | [], a, s, _, _, h => .cons (by rw [insE_6]; simp) (.cons (by rw [insE_6]; simp) fun j i hi => by simp at hi)
  | m :: r, a, s, h1, h2, h => by
    obtain ⟨g1, g2, g3, g4⟩ := h2 m (by simp)
    rw [leafM_len, List.length_cons] at h
    rw [List.length_cons] at h1
    refine .cons ?_ (.cons ?_ (leafM_ok r (a + 1 + 1) s (by omega) (fun x hx => h2 x (by simp [hx])) (by rw [leafM_len]; omega)))
    · rw [insE_1, if_neg (by omega)]; simp
    · rw [insE_j _ _ _ _ _ _ (by omega), if_neg (by omega)]
theorem leaf_ok' {p : Pol} (hp : goodP p) {a s : Nat} (h : a + (leafS p).length ≤ s) : okAt (leafS p) a s := by
  obtain ⟨g1, g2, g3, g4⟩ := hp
  have hl : (leafS p).length = 2 * p.masks.length + 3 := by simp [leafS, leafM_len]
  rw [hl] at h
  refine .cons ?_ (leafM_ok p.masks (a + 1) s g3 g4 (by rw [leafM_len]; omega))
  rw [insE_j _ _ _ _ _ _ (by omega), if_neg (by omega)]
theorem treeF_pos : ∀ (n : Nat) (l : List Pol), 1 ≤ (treeF n l).length ∧ ∃ i, (treeF n l)[(treeF n l).length - 1]? = some i ∧ i.op = 6
  | 0, l => ⟨by simp [treeF], _, rfl, rfl⟩
  | n + 1, l => by
    rcases Nat.lt_or_ge l.length 2 with h2 | h2
    · match l, h2 with
      | [], _ => exact ⟨by simp [treeF], _, rfl, rfl⟩
      | [p], _ =>
        refine ⟨by simp [treeF, leafS], ⟨6, 0, 0, 0⟩, ?_, rfl⟩
        have := leafM_last p.masks
        rw [treeF_one, leafS, List.length_cons, leafM_len, show 2 * p.masks.length + 2 + 1 - 1 = 2 * p.masks.length + 1 + 1 by omega, List.getElem?_cons_succ]
        exact this
    · rw [treeF_two h2]
      obtain ⟨h1, i, h3, h4⟩ := treeF_pos n (l.drop (l.length / 2))
      refine ⟨by simp, i, ?_, h4⟩
      simp only [List.length_cons, List.length_append]
      rw [show (treeF n (l.take (l.length / 2))).length + (treeF n (l.drop (l.length / 2))).length + 1 + 1 - 1 = (treeF n (l.take (l.length / 2))).length + ((treeF n (l.drop (l.length / 2))).length - 1) + 1 + 1 by omega,
        List.getElem?_cons_succ, List.getElem?_cons_succ, List.getElem?_append_right (by omega)]
      rw [← h3]
      congr 1
      omega
theorem treeF_len : ∀ (n : Nat) (l : List Pol), (∀ p, p ∈ l → p.masks.length ≤ 3) → l.length ≤ n → (l = [] → (treeF n l).length = 1) ∧ (l ≠ [] → (treeF n l).length + 2 ≤ 11 * l.length)
  | 0, l, _, hl => by
    have : l = [] := List.eq_nil_of_length_eq_zero (by omega)
    subst this
    simp [treeF]
  | n + 1, l, h, hl => by
    rcases Nat.lt_or_ge l.length 2 with h2 | h2
    · match l, h2 with
      | [], _ => simp [treeF]
      | [p], _ =>
        have := h p (by simp)
        simp [treeF, leafS, leafM_len]
        omega
    · refine ⟨fun e => by subst e; simp at h2, fun _ => ?_⟩
      have i1 := (treeF_len n (l.take (l.length / 2)) (fun p hp => h p (List.mem_of_mem_take hp)) (by rw [List.length_take]; omega)).2 (fun e => by have := congrArg List.length e; rw [List.length_take, List.length_nil] at this; omega)
      have i2 := (treeF_len n (l.drop (l.length / 2)) (fun p hp => h p (List.mem_of_mem_drop hp)) (by rw [List.length_drop]; omega)).2 (fun e => by have := congrArg List.length e; rw [List.length_drop, List.length_nil] at this; omega)
      rw [treeF_two h2]
      simp only [List.length_cons, List.length_append]
      rw [List.length_take] at i1
      rw [List.length_drop] at i2
      omega
theorem tree_ok' : ∀ (n : Nat) (l : List Pol) (a s : Nat), (∀ p, p ∈ l → goodP p) → l.length ≤ n → a + (treeF n l).length ≤ s → okAt (treeF n l) a s
  | 0, l, a, s, _, _, _ => .cons (by rw [insE_6]; simp) fun j i hi => by simp at hi
  | n + 1, l, a, s, hg, hl, h => by
    rcases Nat.lt_or_ge l.length 2 with h2 | h2
    · match l, h2 with
      | [], _ => exact .cons (by rw [insE_6]; simp) fun j i hi => by simp at hi
      | [p], _ => exact leaf_ok' (hg p (by simp)) h
    · rw [treeF_two h2] at h ⊢
      have hk : l.length / 2 < l.length := by omega
      have hm : l[l.length / 2]? = some l[l.length / 2] := List.getElem?_eq_getElem hk
      have hmid : midC l = (l[l.length / 2]).call := by rw [midC, hm]
      have hgm := hg _ (List.getElem_mem hk)
      have hp := (treeF_pos n (l.drop (l.length / 2))).1
      simp only [List.length_cons, List.length_append] at h
      refine .cons ?_ (.cons ?_ (.append (tree_ok' n _ _ s (fun p hp => hg p (List.mem_of_mem_take hp)) (by rw [List.length_take]; omega) (by omega)) (tree_ok' n _ _ s (fun p hp => hg p (List.mem_of_mem_drop hp)) (by rw [List.length_drop]; omega) (by omega))))
      · rw [insE_j _ _ _ _ _ _ (by omega), hmid, if_neg (by have := hgm.1; have := hgm.2.1; omega)]
      · rw [insE_5 _ _ _ _ _ (by omega), if_neg (by omega)]; simp
def compS (l : List Pol) : List Ins := ⟨1, 0, 0, 0⟩ :: treeF l.length l
theorem comp_check {l : List Pol} (hg : ∀ p, p ∈ l → goodP p) (hl : l.length ≤ 30) : checkS (compS l) = (0, 0) := by
  have h1 := treeF_pos l.length l
  have h2 := treeF_len l.length l (fun p hp => (hg p hp).2.2.1) (Nat.le_refl _)
  have hlen : (compS l).length = (treeF l.length l).length + 1 := by simp [compS]
  have h3 : (treeF l.length l).length ≤ 330 := by
    by_cases e : l = []
    · have := h2.1 e; omega
    · have := h2.2 e; omega
  have hok : okAt (compS l) 0 ((compS l).length : Nat) := by
    refine .cons ?_ (tree_ok' l.length l 1 (compS l).length hg (Nat.le_refl _) (by omega))
    rw [insE_1]; simp
  obtain ⟨h4, i, h5, h6⟩ := h1
  have hc := chkS_ok (compS l).length (compS l) 0 hok
  have hlast : (compS l)[(compS l).length - 1]? = some i := by
    rw [hlen, show (treeF l.length l).length + 1 - 1 = (treeF l.length l).length - 1 + 1 by omega]
    exact h5
  rw [checkS, if_neg (by omega), hc, if_neg (by simp), hlast]
  simp only
  rw [if_pos h6]
theorem comp_run {l : List Pol} (r : Rec) (hg : ∀ p, p ∈ l → goodP p) (hl : l.length ≤ 30) (hs : rising l) : (runS (compS l) r).1 = if letB l r r.r0 then 1 else 0 := by
  rw [runS, comp_check hg hl, if_pos rfl]
  have hA : At (compS l) 0 (compS l) := fun j i hi => by simpa using hi
  rw [runW_go hA.head (by decide) (d := 1) (acc2 := r.r0) rfl]
  have := tree_run (P := compS l) (r := r) l.length l 1 r.r0 (Nat.le_refl _) hs hA.tail
  exact this
/-! the policies, whatever their order -/
theorem letB_perm {l l' : List Pol} (h : l'.Perm l) (r : Rec) (acc : Int) : letB l' r acc = letB l r acc := by
  rw [Bool.eq_iff_iff, letB, letB, List.any_eq_true, List.any_eq_true]
  constructor
  · rintro ⟨p, hp, h2⟩; exact ⟨p, h.mem_iff.1 hp, h2⟩
  · rintro ⟨p, hp, h2⟩; exact ⟨p, h.mem_iff.2 hp, h2⟩
def distinct (l : List Pol) : Prop := l.Pairwise fun a b => a.call ≠ b.call
theorem allow_let {l : List Pol} (h : distinct l) (r : Rec) : allowS l r = letB l r r.r0 := by
  induction l with
  | nil => rfl
  | cons p q ih =>
    obtain ⟨h1, h2⟩ := List.pairwise_cons.1 h
    have ih := ih h2
    rw [letB, List.any_cons]
    by_cases hc : p.call = r.r0
    · have hb : (p.call == r.r0) = true := by simp [hc]
      have hq : letB q r r.r0 = false := letB_none fun x hx e => h1 x hx (hc.trans e.symm)
      rw [letB] at hq
      rw [hq, allowS, List.find?_cons, hb]
      simp
    · have hb : (p.call == r.r0) = false := by simpa using hc
      have e : allowS (p :: q) r = allowS q r := by rw [allowS, allowS, List.find?_cons, hb]
      rw [e, ih, hb, letB]
      simp
theorem distinct_perm {l l' : List Pol} (h : l'.Perm l) (hd : distinct l) : distinct l' := (h.pairwise_iff (fun h => Ne.symm h)).2 hd
theorem wrong_facts {l : List Pol} (h : (wrongS l).1 = 0) : l.length ≤ 30 ∧ (∀ p, p ∈ l → goodP p) ∧ distinct l := by
  unfold wrongS at h
  split at h
  · simp at h
  · rename_i h0
    have hall : ∀ j, j < l.length → wrongAt l j = 0 := by
      intro j
      induction j using Nat.strongRecOn with
      | _ j ih =>
        intro hj
        by_cases hw : wrongAt l j = 0
        · exact hw
        · rw [firstE_bad l.length 0 j (by omega) (by omega) (fun i _ hi => ih i hi (by omega)) hw] at h
          exact absurd h hw
    have fact : ∀ (j : Nat) p, l[j]? = some p → goodP p ∧ ∀ q, q ∈ l.take j → q.call ≠ p.call := by
      intro j p hj
      have hw := hall j (List.getElem?_eq_some_iff.1 hj).1
      rw [wrongAt, hj] at hw
      simp only [wrong1] at hw
      split at hw
      · simp at hw
      · rename_i c1
        split at hw
        · simp at hw
        · rename_i c2
          split at hw
          · simp at hw
          · rename_i c3
            split at hw
            · simp at hw
            · rename_i c4
              refine ⟨⟨by omega, by omega, by omega, fun m hm => ?_⟩, fun q hq e => ?_⟩
              · have c4 : p.masks.any badM = false := by simpa using c4
                rw [List.any_eq_false] at c4
                have hb : badM m = false := by simpa using c4 m hm
                simp only [badM, Bool.or_eq_false_iff, decide_eq_false_iff_not] at hb
                refine ⟨by omega, by omega, by omega, by omega⟩
              · refine c2 (List.any_eq_true.2 ⟨q, hq, by simp [e]⟩)
    refine ⟨by omega, fun p hp => ?_, ?_⟩
    · obtain ⟨j, hj⟩ := List.getElem?_of_mem hp
      exact (fact j p hj).1
    · rw [distinct, List.pairwise_iff_getElem]
      intro i j hi hj hij
      refine (fact j l[j] (List.getElem?_eq_getElem hj)).2 l[i] ?_
      exact List.mem_of_getElem? (i := i) (by rw [List.getElem?_take, if_pos hij, List.getElem?_eq_getElem hi])
theorem rising_of {l : List Pol} (h : l.Pairwise fun a b => ¬ b.call < a.call) (hd : distinct l) : rising l := by
  have := List.Pairwise.and h hd
  exact this.imp fun ⟨a, b⟩ => by omega

def c17 : LF := ⟨45, [.tmp 2], (.seq (.reg [
    ⟨(some 2), .mov (.c (.rv (.one .esl))), none⟩]) (.seq (.seq (.reg [
    ⟨(some 7), .mov (.t 0), none⟩,
    ⟨(some 8), .len 1 (.t 7), none⟩]) (.block 0 (.seq (.reg [
    ⟨(some 10), .bin .eql (.t 8) (.c (.rv (.one (.dat (.val (.int .i64 (0))))))), none⟩,
    ⟨(some 9), .mov (.t 10), none⟩]) (.cond (.t 9) (.seq (.reg [
    ⟨(some 11), .build [(.dat (.val (.int .i64 (0)))), (.dat (.val (.int .i64 (0)))), (.dat (.val (.int .i64 (0)))), (.dat (.val (.int .i64 (0))))] [(0, 1, (.c (.rv (.one (.dat (.val (.int .i64 (6)))))))), (3, 1, (.c (.rv (.one (.dat (.val (.int .i64 (0))))))))], none⟩,
    ⟨(some 12), .bsl 4 [(.dat (.val (.int .i64 (0)))), (.dat (.val (.int .i64 (0)))), (.dat (.val (.int .i64 (0)))), (.dat (.val (.int .i64 (0))))] 1 [(0, (.t 11))], none⟩,
    ⟨(some 2), .mov (.t 12), none⟩]) .ret) (.seq (.reg [
    ⟨(some 14), .bin .eql (.t 8) (.c (.rv (.one (.dat (.val (.int .i64 (1))))))), none⟩,
    ⟨(some 13), .mov (.t 14), none⟩]) (.cond (.t 13) (.seq (.reg [
    ⟨(some 15), .mov (.t 0), none⟩,
    ⟨(some 16), .idx 2 (.t 15) (.c (.rv (.one (.dat (.val (.int .i64 (0))))))), none⟩,
    ⟨(some 17), .load true 2 (.t 16), none⟩,
    ⟨(some 18), .call (.c (.rv (.one (.fn 30 [])))) [(.t 17)], none⟩,
    ⟨(some 2), .mov (.t 18), none⟩]) .ret) .skip)))))) (.seq (.reg [
    ⟨(some 19), .mov (.t 0), none⟩,
    ⟨(some 20), .len 1 (.t 19), none⟩,
    ⟨(some 21), .bin .quo (.t 20) (.c (.rv (.one (.dat (.val (.int .i64 (2))))))), none⟩,
    ⟨(some 3), .mov (.t 21), none⟩]) (.ghost (.seq (.draw [
    ⟨(some 22), .mov (.t 0), none⟩,
    ⟨(some 23), .mov (.t 3), none⟩,
    ⟨(some 24), .slc 2 (.t 22) none (some (.t 23)) none, none⟩,
    ⟨(some 25), .call (.c (.rv (.one (.fn 17 [])))) [(.t 24)], none⟩,
    ⟨(some 26), .mov (.t 0), none⟩,
    ⟨(some 27), .mov (.t 3), none⟩,
    ⟨(some 28), .slc 2 (.t 26) (some (.t 27)) none none, none⟩,
    ⟨(some 29), .call (.c (.rv (.one (.fn 17 [])))) [(.t 28)], none⟩,
    ⟨(some 4), .mov (.t 25), none⟩,
    ⟨(some 5), .mov (.t 29), none⟩]
    [(.cons 0 none (.cons 1 none (.cons 2 none (.cons 4 none (.cons 5 none (.cons 6 none (.cons 3 (some [6]) (.cons 7 (some []) (.cons 8 none (.cons 9 none .nil))))))))))]) (.seq (.reg [
    ⟨(some 30), .mov (.t 0), none⟩,
    ⟨(some 31), .mov (.t 3), none⟩,
    ⟨(some 32), .idx 2 (.t 30) (.t 31), none⟩,
    ⟨(some 33), .fadr 0 (.t 32), none⟩,
    ⟨(some 34), .load false 1 (.t 33), none⟩,
    ⟨(some 35), .build [(.dat (.val (.int .i64 (0)))), (.dat (.val (.int .i64 (0)))), (.dat (.val (.int .i64 (0)))), (.dat (.val (.int .i64 (0))))] [(0, 1, (.c (.rv (.one (.dat (.val (.int .i64 (3)))))))), (1, 1, (.c (.rv (.one (.dat (.val (.int .i64 (0)))))))), (2, 1, (.c (.rv (.one (.dat (.val (.int .i64 (1)))))))), (3, 1, (.t 34))], none⟩,
    ⟨(some 36), .mov (.t 4), none⟩,
    ⟨(some 37), .len 1 (.t 36), none⟩,
    ⟨(some 38), .build [(.dat (.val (.int .i64 (0)))), (.dat (.val (.int .i64 (0)))), (.dat (.val (.int .i64 (0)))), (.dat (.val (.int .i64 (0))))] [(0, 1, (.c (.rv (.one (.dat (.val (.int .i64 (5)))))))), (3, 1, (.t 37))], none⟩,
    ⟨(some 39), .bsl 4 [(.dat (.val (.int .i64 (0)))), (.dat (.val (.int .i64 (0)))), (.dat (.val (.int .i64 (0)))), (.dat (.val (.int .i64 (0))))] 2 [(0, (.t 35)), (1, (.t 38))], none⟩,
    ⟨(some 6), .mov (.t 39), none⟩]) (.seq (.reg [
    ⟨(some 40), .mov (.t 6), none⟩,
    ⟨(some 41), .mov (.t 4), none⟩,
    ⟨(some 42), .app 4 32 (.t 40) (.t 41), none⟩,
    ⟨(some 43), .mov (.t 5), none⟩,
    ⟨(some 44), .app 4 32 (.t 42) (.t 43), none⟩,
    ⟨(some 2), .mov (.t 44), none⟩]) .ret)))))))⟩
def c30 : LF := ⟨50, [.tmp 2], (.seq (.reg [
    ⟨(some 1), .box (.t 0), none⟩,
    ⟨(some 2), .mov (.c (.rv (.one .esl))), none⟩]) (.seq (.reg [
    ⟨(some 8), .fadr 1 (.t 1), none⟩,
    ⟨(some 9), .load false 1 (.t 8), none⟩,
    ⟨(some 10), .len 1 (.t 9), none⟩,
    ⟨(some 11), .bin .mul (.c (.rv (.one (.dat (.val (.int .i64 (2))))))) (.t 10), none⟩,
    ⟨(some 12), .bin .add (.t 11) (.c (.rv (.one (.dat (.val (.int .i64 (1))))))), none⟩,
    ⟨(some 3), .mov (.t 12), none⟩]) (.seq (.reg [
    ⟨(some 13), .mov (.t 3), none⟩,
    ⟨(some 14), .fadr 0 (.t 1), none⟩,
    ⟨(some 15), .load false 1 (.t 14), none⟩,
    ⟨(some 16), .build [(.dat (.val (.int .i64 (0)))), (.dat (.val (.int .i64 (0)))), (.dat (.val (.int .i64 (0)))), (.dat (.val (.int .i64 (0))))] [(0, 1, (.c (.rv (.one (.dat (.val (.int .i64 (2)))))))), (1, 1, (.c (.rv (.one (.dat (.val (.int .i64 (0)))))))), (2, 1, (.t 13)), (3, 1, (.t 15))], none⟩,
    ⟨(some 17), .bsl 4 [(.dat (.val (.int .i64 (0)))), (.dat (.val (.int .i64 (0)))), (.dat (.val (.int .i64 (0)))), (.dat (.val (.int .i64 (0))))] 1 [(0, (.t 16))], none⟩,
    ⟨(some 4), .mov (.t 17), none⟩]) (.seq (.seq (.reg [
    ⟨(some 18), .fadr 1 (.t 1), none⟩,
    ⟨(some 19), .load false 1 (.t 18), none⟩,
    ⟨(some 20), .len 1 (.t 19), none⟩,
    ⟨(some 21), .mov (.c (.rv (.one (.dat (.val (.int .i64 (0))))))), none⟩]) (.block 0 (.loop (.seq (.reg [
    ⟨(some 22), .bin .lss (.t 21) (.t 20), none⟩]) (.seq (.cond (.t 22) .skip (.exit 0)) (.seq (.block 1 (.seq (.reg [
    ⟨(some 23), .mov (.t 21), none⟩,
    ⟨(some 24), .idx 2 (.t 19) (.t 21), none⟩,
    ⟨(some 25), .load true 2 (.t 24), none⟩,
    ⟨(some 6), .alloc [(.dat (.val (.int .i64 (0)))), (.dat (.val (.int .i64 (0))))], none⟩,
    ⟨(some 5), .mov (.t 23), none⟩,
    ⟨none, .store 2 (.t 6) (.t 25), none⟩]) (.seq (.reg [
    ⟨(some 26), .fadr 1 (.t 1), none⟩,
    ⟨(some 27), .load false 1 (.t 26), none⟩,
    ⟨(some 28), .len 1 (.t 27), none⟩,
    ⟨(some 29), .mov (.t 5), none⟩,
    ⟨(some 30), .bin .sub (.t 28) (.t 29), none⟩,
    ⟨(some 31), .bin .sub (.t 30) (.c (.rv (.one (.dat (.val (.int .i64 (1))))))), none⟩,
    ⟨(some 32), .bin .mul (.c (.rv (.one (.dat (.val (.int .i64 (2))))))) (.t 31), none⟩,
    ⟨(some 33), .bin .add (.t 32) (.c (.rv (.one (.dat (.val (.int .i64 (1))))))), none⟩,
    ⟨(some 7), .mov (.t 33), none⟩]) (.reg [
    ⟨(some 34), .mov (.t 4), none⟩,
    ⟨(some 35), .fadr 0 (.t 6), none⟩,
    ⟨(some 36), .load false 1 (.t 35), none⟩,
    ⟨(some 37), .build [(.dat (.val (.int .i64 (0)))), (.dat (.val (.int .i64 (0)))), (.dat (.val (.int .i64 (0)))), (.dat (.val (.int .i64 (0))))] [(0, 1, (.c (.rv (.one (.dat (.val (.int .i64 (1)))))))), (3, 1, (.t 36))], none⟩,
    ⟨(some 38), .mov (.t 7), none⟩,
    ⟨(some 39), .fadr 1 (.t 6), none⟩,
    ⟨(some 40), .load false 1 (.t 39), none⟩,
    ⟨(some 41), .build [(.dat (.val (.int .i64 (0)))), (.dat (.val (.int .i64 (0)))), (.dat (.val (.int .i64 (0)))), (.dat (.val (.int .i64 (0))))] [(0, 1, (.c (.rv (.one (.dat (.val (.int .i64 (4)))))))), (1, 1, (.t 38)), (2, 1, (.c (.rv (.one (.dat (.val (.int .i64 (0)))))))), (3, 1, (.t 40))], none⟩,
    ⟨(some 42), .bsl 4 [(.dat (.val (.int .i64 (0)))), (.dat (.val (.int .i64 (0)))), (.dat (.val (.int .i64 (0)))), (.dat (.val (.int .i64 (0))))] 2 [(0, (.t 37)), (1, (.t 41))], none⟩,
    ⟨(some 43), .app 4 32 (.t 34) (.t 42), none⟩,
    ⟨(some 4), .mov (.t 43), none⟩])))) (.reg [
    ⟨(some 44), .bin .add (.t 21) (.c (.rv (.one (.dat (.val (.int .i64 (1))))))), none⟩,
    ⟨(some 21), .mov (.t 44), none⟩]))))))) (.seq (.reg [
    ⟨(some 45), .mov (.t 4), none⟩,
    ⟨(some 46), .build [(.dat (.val (.int .i64 (0)))), (.dat (.val (.int .i64 (0)))), (.dat (.val (.int .i64 (0)))), (.dat (.val (.int .i64 (0))))] [(0, 1, (.c (.rv (.one (.dat (.val (.int .i64 (6)))))))), (3, 1, (.c (.rv (.one (.dat (.val (.int .i64 (1))))))))], none⟩,
    ⟨(some 47), .build [(.dat (.val (.int .i64 (0)))), (.dat (.val (.int .i64 (0)))), (.dat (.val (.int .i64 (0)))), (.dat (.val (.int .i64 (0))))] [(0, 1, (.c (.rv (.one (.dat (.val (.int .i64 (6)))))))), (3, 1, (.c (.rv (.one (.dat (.val (.int .i64 (0))))))))], none⟩,
    ⟨(some 48), .bsl 4 [(.dat (.val (.int .i64 (0)))), (.dat (.val (.int .i64 (0)))), (.dat (.val (.int .i64 (0)))), (.dat (.val (.int .i64 (0))))] 2 [(0, (.t 46)), (1, (.t 47))], none⟩,
    ⟨(some 49), .app 4 32 (.t 45) (.t 48), none⟩,
    ⟨(some 2), .mov (.t 49), none⟩]) .ret)))))⟩
theorem dRowsG_append (a b : List (List Dt)) : dRows (a ++ b) = dRows a ++ dRows b := by simp [dRows]
theorem l30 : lowF Try.prog Try.f30 = some c30 := by kernel_rfl
theorem l17 : lowF Try.prog Try.f17 = some c17.er := by kernel_rfl
def insR' (l : List Ins) : RV := .one (.dat (insD l))
theorem leafM_at : ∀ (ms : List Msk) (k : Nat) (m : Msk), ms[k]? = some m → (leafM ms)[2 * k]? = some ⟨1, 0, 0, m.w⟩ ∧ (leafM ms)[2 * k + 1]? = some ⟨4, ((2 * (ms.length - k - 1) + 1 : Nat) : Int), 0, m.bits⟩
  | [], k, m, h => by simp at h
  | x :: r, 0, m, h => by
    simp at h
    subst h
    refine ⟨rfl, ?_⟩
    show some _ = some _
    rw [List.length_cons, show r.length + 1 - 0 - 1 = r.length by omega]
  | x :: r, k + 1, m, h => by
    have := leafM_at r k m (by simpa using h)
    rw [show 2 * (k + 1) = 2 * k + 1 + 1 by omega, List.length_cons, show r.length + 1 - (k + 1) - 1 = r.length - k - 1 by omega]
    simpa [leafM] using this
theorem leafM_one : ∀ ms : List Msk, (leafM ms)[2 * ms.length]? = some ⟨6, 0, 0, 1⟩
  | [] => rfl
  | m :: r => by
    have := leafM_one r
    rw [List.length_cons, show 2 * (r.length + 1) = 2 * r.length + 1 + 1 by omega]
    simpa [leafM] using this
theorem leaf_take {p : Pol} {k : Nat} {m : Msk} (h : p.masks[k]? = some m) : (leafS p).take (2 * (k + 1) + 1) = (leafS p).take (2 * k + 1) ++ [⟨1, 0, 0, m.w⟩, ⟨4, ((2 * (p.masks.length - k - 1) + 1 : Nat) : Int), 0, m.bits⟩] := by
  obtain ⟨h1, h2⟩ := leafM_at p.masks k m h
  have e1 : (leafS p)[2 * k + 1]? = some ⟨1, 0, 0, m.w⟩ := by simpa [leafS] using h1
  have e2 : (leafS p)[2 * k + 1 + 1]? = some ⟨4, ((2 * (p.masks.length - k - 1) + 1 : Nat) : Int), 0, m.bits⟩ := by simpa [leafS] using h2
  rw [show 2 * (k + 1) + 1 = 2 * k + 1 + 1 + 1 by omega, List.take_add_one, e2, List.take_add_one, e1]
  simp
theorem leaf_all (p : Pol) : leafS p = (leafS p).take (2 * p.masks.length + 1) ++ [⟨6, 0, 0, 1⟩, ⟨6, 0, 0, 0⟩] := by
  have h1 := leafM_one p.masks
  have h2 := leafM_last p.masks
  have e1 : (leafS p)[2 * p.masks.length + 1]? = some ⟨6, 0, 0, 1⟩ := by simpa [leafS] using h1
  have e2 : (leafS p)[2 * p.masks.length + 1 + 1]? = some ⟨6, 0, 0, 0⟩ := by simpa [leafS] using h2
  have hl : (leafS p).length = 2 * p.masks.length + 1 + 1 + 1 := by simp [leafS, leafM_len]
  have h3 : (leafS p).take (2 * p.masks.length + 1 + 1 + 1) = leafS p := List.take_of_length_le (by omega)
  rw [List.take_add_one, e2, List.take_add_one, e1, List.append_assoc] at h3
  exact h3.symm
set_option maxRecDepth 100000 in
set_option maxHeartbeats 8000000 in
theorem gleaf_body (p : Pol) (hm : p.masks.length ≤ 1000) : body Try.prog c30 [p.cv] [] (fun r m => FrzV m r (insV (leafS p))) := by
  have hn : IntKind.i64.wrap (IntKind.i64.wrap (2 * (((p.masks.map Msk.enc).length : Nat) : Int)) + 1) = ((2 * p.masks.length + 1 : Nat) : Int) := by
    rw [List.length_map, wrapI (n := 2 * (p.masks.length : Int)) (by omega) (by omega), wrapI (by omega) (by omega)]
    omega
  refine loop_keep (fun k => k ≤ p.masks.length) [1, 19] (fun k => [(4, .rv (.one (.row 1 4 0 none))), (20, vInt .i64 (p.masks.length : Nat)), (21, vInt .i64 (k : Nat))]) (fun k => [.var (p.enc.map .dat), .row 4 (dRows (((leafS p).take (2 * k + 1)).map Ins.enc))])
    (fun k => p.masks.length - k) 0 (Nat.zero_le _) ?_ (fun k hk => ?_)
  · refine View.of 2 [0, 1] [] rfl rfl rfl rfl rfl rfl ?_ ?_
    · repeat (first | exact .nil | refine .junk ?_ | refine .eq rfl ?_ | refine .put (.ren (by rw [List.length_map]; rfl)) ?_)
    · refine .put (notF rfl) rfl (.eq rfl (by simp)) (.put (notF rfl) rfl (.rowDE ?_) (.nil _))
      show [[CC.dat (.val (.int .i64 2)), .dat (.val (.int .i64 0)), .dat (.val (.int .i64 (IntKind.i64.wrap (IntKind.i64.wrap (2 * (((p.masks.map Msk.enc).length : Nat) : Int)) + 1)))), .dat (.val (.int .i64 p.call))]] = _
      rw [hn]
      rfl
  have hk : k ≤ p.masks.length := hk
  refine bB_dec (fun h => ?_) (fun h => ?_)
  · have hlt : k < p.masks.length := by
      have h : (k : Int) < (p.masks.length : Int) := h
      omega
    have hi := List.getElem?_eq_getElem hlt
    have hT := leaf_take hi
    have hg : getZ (p.masks.map Msk.enc) (k : Nat) = some [.val (.int .i64 p.masks[k].w), .val (.int .i64 p.masks[k].bits)] := by
      rw [getZ_nat, List.getElem?_map, hi]; rfl
    generalize p.masks[k] = mk at hT hg
    refine ok_some hg ?_
    have hw : IntKind.i64.wrap (IntKind.i64.wrap (2 * IntKind.i64.wrap (IntKind.i64.wrap ((((p.masks.map Msk.enc).length : Nat) : Int) - (k : Int)) - 1)) + 1) = ((2 * (p.masks.length - k - 1) + 1 : Nat) : Int) := by
      rw [List.length_map, wrapI (n := (p.masks.length : Int) - k) (by omega) (by omega), wrapI (n := (p.masks.length : Int) - k - 1) (by omega) (by omega), wrapI (n := 2 * ((p.masks.length : Int) - k - 1)) (by omega) (by omega), wrapI (by omega) (by omega)]
      omega
    refine ⟨?_, ?_⟩
    · show ((dRows (((leafS p).take (2 * k + 1)).map Ins.enc)).length + 2) * 32 ≤ _
      simp [dRows]
      omega
    refine ⟨k + 1, hlt, (show p.masks.length - (k + 1) < p.masks.length - k by omega), View.of 5 [0, 4] [] rfl rfl rfl rfl rfl rfl ?_ ?_⟩
    · repeat (first | exact .nil | refine .junk ?_ | refine .put (.ren (next_i64 (by omega)).symm) ?_ | refine .eq rfl ?_)
    · refine .put (notF rfl) rfl (.eq rfl (by simp)) (.put (notF rfl) rfl (.rowDE ?_) (.nil _))
      show dRows (((leafS p).take (2 * k + 1)).map Ins.enc) ++ [[CC.dat (.val (.int .i64 1)), .dat (.val (.int .i64 0)), .dat (.val (.int .i64 0)), .dat (.val (.int .i64 mk.w))], [.dat (.val (.int .i64 4)), .dat (.val (.int .i64 (IntKind.i64.wrap (IntKind.i64.wrap (2 * IntKind.i64.wrap (IntKind.i64.wrap ((((p.masks.map Msk.enc).length : Nat) : Int) - (k : Int)) - 1)) + 1)))), .dat (.val (.int .i64 0)), .dat (.val (.int .i64 mk.bits))]] = _
      rw [hw, hT, List.map_append, dRowsG_append]
      rfl
  · have hke : k = p.masks.length := by
      have h : ¬ (k : Int) < (p.masks.length : Int) := h
      omega
    subst hke
    refine ⟨?_, ?_⟩
    · show ((dRows (((leafS p).take (2 * p.masks.length + 1)).map Ins.enc)).length + 2) * 32 ≤ _
      simp [dRows]
      omega
    have hfin : some (Bk.row 4 (dRows (((leafS p).take (2 * p.masks.length + 1)).map Ins.enc) ++ [[CC.dat (.val (.int .i64 6)), .dat (.val (.int .i64 0)), .dat (.val (.int .i64 0)), .dat (.val (.int .i64 1))], [.dat (.val (.int .i64 6)), .dat (.val (.int .i64 0)), .dat (.val (.int .i64 0)), .dat (.val (.int .i64 0))]])) = some (Bk.row 4 (dRows ((leafS p).map Ins.enc))) := by
      conv => rhs; rw [leaf_all p, List.map_append, dRowsG_append]
      rfl
    exact .rv (.one (FrzC.rowD hfin 0 none))
set_option maxRecDepth 100000 in
theorem gleaf_ok (p : Pol) (hm : p.masks.length ≤ 1000) {m : Mem} {K : CV → Mem → Prop} (h : K (insV (leafS p)) m) : ACall Try.prog 30 [p.cv] m K :=
  acall_frame (acall_body Try.func30 l30 rfl (Nat.le_of_ble_eq_true rfl) (gleaf_body p hm)) (by simp [Pol.cv, CV.isD, CC.isD, RV.isD]) fun r m1 hf => ⟨_, hf, h⟩
theorem tree_len30 {n : Nat} {l : List Pol} (hg : ∀ p, p ∈ l → p.masks.length ≤ 3) (hl : l.length ≤ 30) (hn : l.length ≤ n) : (treeF n l).length ≤ 330 := by
  have h2 := treeF_len n l hg hn
  by_cases e : l = []
  · have := h2.1 e; omega
  · have := h2.2 e; omega
set_option maxRecDepth 100000 in
set_option maxHeartbeats 16000000 in
theorem tree_ok : ∀ (n : Nat) (l : List Pol), l.length ≤ n → l.length ≤ 30 → (∀ p, p ∈ l → p.masks.length ≤ 3) → ∀ {m : Mem} {K : CV → Mem → Prop}, K (insV (treeF n l)) m → ACall Try.prog 17 [polsV l] m K := by
  intro n
  induction n with
  | zero =>
    intro l hl _ _ m K h
    have : l = [] := List.eq_nil_of_length_eq_zero (by omega)
    subst this
    refine acall_frame (K0 := fun r m => FrzV m r (insV (treeF 0 []))) (acall_body_g Try.func17 l17 rfl (Nat.le_of_ble_eq_true rfl) ?_) (by simp [polsV, CV.isD, CC.isD]) fun r m1 hf => ⟨_, hf, h⟩
    exact .rv (.one (FrzC.rowD rfl 0 none))
  | succ n ih =>
    intro l hl hl30 hg m K h
    refine acall_frame (K0 := fun r m => FrzV m r (insV (treeF (n + 1) l))) (acall_body_g Try.func17 l17 rfl (Nat.le_of_ble_eq_true rfl) ?_) (by simp [polsV, CV.isD, CC.isD]) fun r m1 hf => ⟨_, hf, h⟩
    refine bB_beq (fun h0 => ?_) (fun h0 => ?_)
    · have h0 : l = [] := by
        have h0 : (((l.map Pol.enc).length : Nat) : Int) = 0 := h0
        rw [List.length_map] at h0
        exact List.eq_nil_of_length_eq_zero (by omega)
      subst h0
      exact .rv (.one (FrzC.rowD rfl 0 none))
    have h0 : l.length ≠ 0 := by
      have h0 : (((l.map Pol.enc).length : Nat) : Int) ≠ 0 := h0
      rw [List.length_map] at h0
      omega
    refine bB_beq (fun h1 => ?_) (fun h1 => ?_)
    · have h1 : l.length = 1 := by
        have h1 : (((l.map Pol.enc).length : Nat) : Int) = 1 := h1
        rw [List.length_map] at h1
        omega
      match l, h1 with
      | [p], _ =>
        refine gleaf_ok p (by have := hg p (by simp); omega) ?_
        exact FrzV.self rfl
    have h2 : 2 ≤ l.length := by
      have h1 : (((l.map Pol.enc).length : Nat) : Int) ≠ 1 := h1
      rw [List.length_map] at h1
      omega
    have hq : IntKind.i64.wrap ((((l.map Pol.enc).length : Nat) : Int).tdiv 2) = ((l.length / 2 : Nat) : Int) := by
      rw [List.length_map, show (2 : Int) = ((2 : Nat) : Int) from rfl, ← Int.ofNat_tdiv, wrapI (by omega) (by omega)]
    refine ghost_keep [0] [(3, vInt .i64 ((l.length / 2 : Nat) : Int))] [] (View.of 0 [] [] rfl rfl rfl rfl rfl rfl ?_ (.nil _)) ?_
    · repeat (first | exact .nil | refine .junk ?_ | refine .eq rfl ?_ | refine .put (.ren (congrArg (vInt .i64) hq).symm) ?_)
    have hk : l.length / 2 < l.length := by omega
    have b1 : (Nat.ble 0 (l.length / 2) && Nat.ble (l.length / 2) (l.map Pol.enc).length) = true := by
      rw [Bool.and_eq_true, Nat.ble_eq, Nat.ble_eq, List.length_map]; omega
    have b2 : (Nat.ble (l.length / 2) (l.map Pol.enc).length && Nat.ble (l.map Pol.enc).length (l.map Pol.enc).length) = true := by
      rw [Bool.and_eq_true, Nat.ble_eq, Nat.ble_eq, List.length_map]; omega
    have e1 : ((l.map Pol.enc).take (l.length / 2)).drop 0 = (l.take (l.length / 2)).map Pol.enc := by rw [List.drop_zero, List.map_take]
    have e2 : ((l.map Pol.enc).take (l.map Pol.enc).length).drop (l.length / 2) = (l.drop (l.length / 2)).map Pol.enc := by rw [List.take_length, List.map_drop]
    refine bB_yes b1 ?_
    refine bB_yes b2 ?_
    show ACall Try.prog 17 [.rv (.one (.dat (.sl 2 (((l.map Pol.enc).take (l.length / 2)).drop 0))))] _ _
    rw [e1]
    refine ih (l.take (l.length / 2)) (by rw [List.length_take]; omega) (by rw [List.length_take]; omega) (fun p hp => hg p (List.mem_of_mem_take hp)) ?_
    refine ⟨⟨bB_yes b2 rfl, trivial⟩, ?_⟩
    show ACall Try.prog 17 [.rv (.one (.dat (.sl 2 (((l.map Pol.enc).take (l.map Pol.enc).length).drop (l.length / 2)))))] _ _
    rw [e2]
    refine ih (l.drop (l.length / 2)) (by rw [List.length_drop]; omega) (by rw [List.length_drop]; omega) (fun p hp => hg p (List.mem_of_mem_drop hp)) ?_
    refine ⟨trivial, ?_⟩
    have hgt : getZ (l.map Pol.enc) ((l.length / 2 : Nat) : Int) = some (l[l.length / 2].enc) := by
      rw [getZ_nat, List.getElem?_map, List.getElem?_eq_getElem hk]; rfl
    have hmid : midC l = (l[l.length / 2]).call := by rw [midC, List.getElem?_eq_getElem hk]
    refine ok_some hgt ?_
    have t1 := tree_len30 (n := n) (l := l.take (l.length / 2)) (fun p hp => hg p (List.mem_of_mem_take hp)) (by rw [List.length_take]; omega) (by rw [List.length_take]; omega)
    have t2 := tree_len30 (n := n) (l := l.drop (l.length / 2)) (fun p hp => hg p (List.mem_of_mem_drop hp)) (by rw [List.length_drop]; omega) (by rw [List.length_drop]; omega)
    have htr := treeF_two (n := n) h2
    generalize treeF n (l.take (l.length / 2)) = lo at t1 htr
    generalize treeF n (l.drop (l.length / 2)) = hi at t2 htr
    refine ⟨?_, ?_⟩
    · show (2 + ((lo.map Ins.enc).map fun ds => ds.map CC.dat).length) * 32 ≤ _
      simp; omega
    refine ⟨?_, ?_⟩
    · show (([[CC.dat (.val (.int .i64 3)), .dat (.val (.int .i64 0)), .dat (.val (.int .i64 1)), .dat (.val (.int .i64 (l[l.length / 2]).call))], [.dat (.val (.int .i64 5)), .dat (.val (.int .i64 0)), .dat (.val (.int .i64 0)), .dat (.val (.int .i64 (((lo.map Ins.enc).length : Nat) : Int)))]] ++ ((lo.map Ins.enc).map fun ds => ds.map CC.dat)).length + ((hi.map Ins.enc).map fun ds => ds.map CC.dat).length) * 32 ≤ _
      simp; omega
    have hfin : some (Bk.row 4 (([[CC.dat (.val (.int .i64 3)), .dat (.val (.int .i64 0)), .dat (.val (.int .i64 1)), .dat (.val (.int .i64 (l[l.length / 2]).call))], [.dat (.val (.int .i64 5)), .dat (.val (.int .i64 0)), .dat (.val (.int .i64 0)), .dat (.val (.int .i64 (((lo.map Ins.enc).length : Nat) : Int)))]] ++ ((lo.map Ins.enc).map fun ds => ds.map CC.dat)) ++ ((hi.map Ins.enc).map fun ds => ds.map CC.dat))) = some (Bk.row 4 (((treeF (n + 1) l).map Ins.enc).map fun ds => ds.map CC.dat)) := by
      rw [htr, List.length_map, hmid]
      simp [Ins.enc]
    exact .rv (.one (FrzC.rowD hfin 0 none))


end Go.Proofs.Ytjllbjbpdnhceaa
