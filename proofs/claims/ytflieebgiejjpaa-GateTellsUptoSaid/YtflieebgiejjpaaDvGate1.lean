import Derived.Test.YtflieebgiejjpaaAmZ2
import Derived.Test.YtflieebgiejjpaaDvBpf4
import Derived.Test.YtflieebgiejjpaaAmY
set_option linter.unusedVariables false
set_option linter.unusedSimpArgs false
namespace Go.Proofs.Ytflieebgiejjpaa
open Go.AM Go.ChangeShapes Go.WideShapes Go.ChangeAt Go.RowKit
def c62 : LF := ⟨9, [.tmp 4], (.seq (.reg [
    ⟨(some 4), .mov (.c (.rv (.one (.dat (.val (.bool false)))))), none⟩]) (.seq (.reg [
    ⟨(some 5), .mov (.t 0), none⟩,
    ⟨(some 6), .mov (.t 1), none⟩,
    ⟨(some 7), .call (.c (.rv (.one (.fn 67 [])))) [(.t 5), (.t 6)], none⟩,
    ⟨(some 8), .bin .geq (.t 7) (.c (.rv (.one (.dat (.val (.int .i64 (0))))))), none⟩,
    ⟨(some 4), .mov (.t 8), none⟩]) .ret))⟩
def c63 : LF := ⟨9, [.tmp 3], (.seq (.reg [
    ⟨(some 2), .box (.t 0), none⟩,
    ⟨(some 3), .mov (.c (.rv (.one (.dat (.val (.bool false)))))), none⟩]) (.seq (.reg [
    ⟨(some 4), .fadr 0 (.t 2), none⟩,
    ⟨(some 5), .load false 1 (.t 4), none⟩,
    ⟨(some 6), .fadr 0 (.t 1), none⟩,
    ⟨(some 7), .load false 1 (.t 6), none⟩,
    ⟨(some 8), .bin .eql (.t 5) (.t 7), none⟩,
    ⟨(some 3), .mov (.t 8), none⟩]) .ret))⟩
def c64 : LF := ⟨9, [.tmp 4], (.seq (.reg [
    ⟨(some 4), .mov (.c (.rv (.one (.dat (.val (.bool false)))))), none⟩]) (.seq (.reg [
    ⟨(some 5), .mov (.t 0), none⟩,
    ⟨(some 6), .mov (.t 1), none⟩,
    ⟨(some 7), .call (.c (.rv (.one (.fn 106 [])))) [(.t 5), (.t 6)], none⟩,
    ⟨(some 8), .bin .geq (.t 7) (.c (.rv (.one (.dat (.val (.int .i64 (0))))))), none⟩,
    ⟨(some 4), .mov (.t 8), none⟩]) .ret))⟩
def c65 : LF := ⟨21, [.tmp 2], (.seq (.reg [
    ⟨(some 1), .box (.t 0), none⟩,
    ⟨(some 2), .mov (.c (.rv (.one (.dat (.val (.bool false)))))), none⟩]) (.seq (.reg [
    ⟨(some 3), .fadr 0 (.t 1), none⟩,
    ⟨(some 4), .load false 1 (.t 3), none⟩,
    ⟨(some 5), .bin .lss (.t 4) (.c (.rv (.one (.dat (.val (.int .i64 (1))))))), none⟩,
    ⟨(some 6), .mov (.t 5), none⟩,
    ⟨(some 7), .fadr 0 (.t 1), (some (6, false))⟩,
    ⟨(some 8), .load false 1 (.t 7), (some (6, false))⟩,
    ⟨(some 9), .bin .geq (.t 8) (.c (.rv (.one (.dat (.val (.int .i64 (6))))))), (some (6, false))⟩,
    ⟨(some 10), .pick (.t 6) (.c (.rv (.one (.dat (.val (.bool true)))))) (.t 9), none⟩,
    ⟨(some 11), .mov (.t 10), none⟩,
    ⟨(some 12), .fadr 1 (.t 1), (some (11, false))⟩,
    ⟨(some 13), .load false 1 (.t 12), (some (11, false))⟩,
    ⟨(some 14), .bin .lss (.t 13) (.c (.rv (.one (.dat (.val (.int .i64 (1))))))), (some (11, false))⟩,
    ⟨(some 15), .pick (.t 11) (.c (.rv (.one (.dat (.val (.bool true)))))) (.t 14), none⟩,
    ⟨(some 16), .mov (.t 15), none⟩,
    ⟨(some 17), .fadr 1 (.t 1), (some (16, false))⟩,
    ⟨(some 18), .load false 1 (.t 17), (some (16, false))⟩,
    ⟨(some 19), .bin .geq (.t 18) (.c (.rv (.one (.dat (.val (.int .i64 (2147483648))))))), (some (16, false))⟩,
    ⟨(some 20), .pick (.t 16) (.c (.rv (.one (.dat (.val (.bool true)))))) (.t 19), none⟩,
    ⟨(some 2), .mov (.t 20), none⟩]) .ret))⟩
def c66 : LF := ⟨7, [.cell true 2 3], (.seq (.reg [
    ⟨(some 3), .alloc [(.dat (.val (.int .i64 (0)))), (.dat (.val (.int .i64 (0))))], none⟩]) (.seq (.reg [
    ⟨(some 4), .mov (.t 0), none⟩,
    ⟨(some 5), .load false 1 (.t 1), none⟩,
    ⟨(some 6), .build [(.dat (.val (.int .i64 (0)))), (.dat (.val (.int .i64 (0))))] [(0, 1, (.t 4)), (1, 1, (.t 5))], none⟩,
    ⟨none, .store 2 (.t 3) (.t 6), none⟩]) .ret))⟩
def c67 : LF := ⟨19, [.tmp 4], (.seq (.reg [
    ⟨(some 4), .mov (.c (.rv (.one (.dat (.val (.int .i64 (0))))))), none⟩]) (.seq (.seq (.reg [
    ⟨(some 6), .mov (.t 0), none⟩,
    ⟨(some 7), .len 1 (.t 6), none⟩,
    ⟨(some 8), .mov (.c (.rv (.one (.dat (.val (.int .i64 (0))))))), none⟩]) (.block 0 (.loop (.seq (.reg [
    ⟨(some 9), .bin .lss (.t 8) (.t 7), none⟩]) (.seq (.cond (.t 9) .skip (.exit 0)) (.seq (.block 1 (.seq (.reg [
    ⟨(some 10), .mov (.t 8), none⟩,
    ⟨(some 5), .mov (.t 10), none⟩]) (.seq (.reg [
    ⟨(some 11), .mov (.t 1), none⟩,
    ⟨(some 12), .mov (.t 0), none⟩,
    ⟨(some 13), .mov (.t 5), none⟩,
    ⟨(some 14), .idx 2 (.t 12) (.t 13), none⟩,
    ⟨(some 15), .load true 2 (.t 14), none⟩,
    ⟨(some 16), .call (.t 11) [(.t 15)], none⟩]) (.cond (.t 16) (.seq (.reg [
    ⟨(some 17), .mov (.t 5), none⟩,
    ⟨(some 4), .mov (.t 17), none⟩]) .ret) .skip)))) (.reg [
    ⟨(some 18), .bin .add (.t 8) (.c (.rv (.one (.dat (.val (.int .i64 (1))))))), none⟩,
    ⟨(some 8), .mov (.t 18), none⟩]))))))) (.seq (.reg [
    ⟨(some 4), .mov (.c (.rv (.one (.dat (.val (.int .i64 (-1))))))), none⟩]) .ret)))⟩
def c68 : LF := ⟨9, [.tmp 3], (.seq (.reg [
    ⟨(some 2), .box (.t 0), none⟩,
    ⟨(some 3), .mov (.c (.rv (.one (.dat (.val (.bool false)))))), none⟩]) (.seq (.reg [
    ⟨(some 4), .fadr 0 (.t 2), none⟩,
    ⟨(some 5), .load false 1 (.t 4), none⟩,
    ⟨(some 6), .idxa 6 1 (.t 1) (.c (.rv (.one (.dat (.val (.int .i64 (0))))))), none⟩,
    ⟨(some 7), .load false 1 (.t 6), none⟩,
    ⟨(some 8), .bin .eql (.t 5) (.t 7), none⟩,
    ⟨(some 3), .mov (.t 8), none⟩]) .ret))⟩
def c69 : LF := ⟨12, [.tmp 3], (.seq (.reg [
    ⟨(some 2), .box (.t 0), none⟩,
    ⟨(some 3), .mov (.c (.rv (.one (.dat (.val (.bool false)))))), none⟩]) (.seq (.draw [
    ⟨(some 4), .fadr 0 (.t 2), none⟩,
    ⟨(some 5), .load false 1 (.t 4), none⟩,
    ⟨(some 6), .idxa 6 1 (.t 1) (.t 5), none⟩,
    ⟨(some 7), .load false 1 (.t 6), none⟩,
    ⟨(some 8), .fadr 1 (.t 2), none⟩,
    ⟨(some 9), .load false 1 (.t 8), none⟩,
    ⟨(some 10), .bin .and (.t 7) (.t 9), none⟩,
    ⟨(some 11), .bin .neq (.t 10) (.c (.rv (.one (.dat (.val (.int .i64 (0))))))), none⟩,
    ⟨(some 3), .mov (.t 11), none⟩]
    [[(0, none), (1, none), (2, none), (3, none), (4, none), (5, none), (6, none), (7, none), (8, none)]]) .ret))⟩
def c106 : LF := ⟨19, [.tmp 4], (.seq (.reg [
    ⟨(some 4), .mov (.c (.rv (.one (.dat (.val (.int .i64 (0))))))), none⟩]) (.seq (.seq (.reg [
    ⟨(some 6), .mov (.t 0), none⟩,
    ⟨(some 7), .len 1 (.t 6), none⟩,
    ⟨(some 8), .mov (.c (.rv (.one (.dat (.val (.int .i64 (0))))))), none⟩]) (.block 0 (.loop (.seq (.reg [
    ⟨(some 9), .bin .lss (.t 8) (.t 7), none⟩]) (.seq (.cond (.t 9) .skip (.exit 0)) (.seq (.block 1 (.seq (.reg [
    ⟨(some 10), .mov (.t 8), none⟩,
    ⟨(some 5), .mov (.t 10), none⟩]) (.seq (.reg [
    ⟨(some 11), .mov (.t 1), none⟩,
    ⟨(some 12), .mov (.t 0), none⟩,
    ⟨(some 13), .mov (.t 5), none⟩,
    ⟨(some 14), .idx 2 (.t 12) (.t 13), none⟩,
    ⟨(some 15), .load true 2 (.t 14), none⟩,
    ⟨(some 16), .call (.t 11) [(.t 15)], none⟩]) (.cond (.t 16) (.seq (.reg [
    ⟨(some 17), .mov (.t 5), none⟩,
    ⟨(some 4), .mov (.t 17), none⟩]) .ret) .skip)))) (.reg [
    ⟨(some 18), .bin .add (.t 8) (.c (.rv (.one (.dat (.val (.int .i64 (1))))))), none⟩,
    ⟨(some 8), .mov (.t 18), none⟩]))))))) (.seq (.reg [
    ⟨(some 4), .mov (.c (.rv (.one (.dat (.val (.int .i64 (-1))))))), none⟩]) .ret)))⟩
structure Msk where
  w : Int
  bits : Int
def Msk.enc (m : Msk) : List Dt := [.val (.int .i64 m.w), .val (.int .i64 m.bits)]
def Msk.cv (m : Msk) : CV := .rv (.agg (m.enc.map .dat))
structure Pol where
  call : Int
  masks : List Msk
def Pol.enc (p : Pol) : List Dt := [.val (.int .i64 p.call), .sl 2 (p.masks.map Msk.enc)]
def Pol.cv (p : Pol) : CV := .rv (.agg (p.enc.map .dat))
def msksV (l : List Msk) : CV := .rv (.one (.dat (.sl 2 (l.map Msk.enc))))
def polsV (l : List Pol) : CV := .rv (.one (.dat (.sl 2 (l.map Pol.enc))))
def ptr0 : CV := .rv (.one (.ptr 0 0))
def idxG {α : Type} (q : α → Bool) (l : List α) : Int := match l.findIdx? q with | some k => (k : Int) | none => -1
theorem idxG_found {α : Type} {q : α → Bool} {l : List α} {k : Nat} (h : k < l.length) (hq : q l[k] = true) (hb : ∀ (j : Nat) s, j < k → l[j]? = some s → q s = false) : idxG q l = k := by
  have : l.findIdx? q = some k := by
    rw [List.findIdx?_eq_some_iff_getElem]
    exact ⟨h, hq, fun j hj => by simpa using hb j _ hj (List.getElem?_eq_getElem (by omega))⟩
  rw [idxG, this]
theorem idxG_none {α : Type} {q : α → Bool} {l : List α} (hb : ∀ (j : Nat) s, l[j]? = some s → q s = false) : idxG q l = -1 := by
  have : l.findIdx? q = none := by
    rw [List.findIdx?_eq_none_iff]
    intro s hs
    obtain ⟨i, hi⟩ := List.getElem?_of_mem hs
    simpa using hb i s hi
  rw [idxG, this]
theorem idxG_any {α : Type} (q : α → Bool) (l : List α) : decide (idxG q l ≥ 0) = l.any q := by
  unfold idxG
  cases h : l.findIdx? q with
  | none =>
    rw [List.findIdx?_eq_none_iff] at h
    have : l.any q = false := by simpa using h
    rw [this]; rfl
  | some k =>
    obtain ⟨h1, h2, _⟩ := List.findIdx?_eq_some_iff_getElem.1 h
    have : l.any q = true := List.any_eq_true.2 ⟨_, List.getElem_mem h1, h2⟩
    rw [this]
    exact decide_eq_true (by simp)
theorem l62 : lowF Try.prog Try.f62 = some c62 := by kernel_rfl
theorem l63 : lowF Try.prog Try.f63 = some c63 := by kernel_rfl
theorem l64 : lowF Try.prog Try.f64 = some c64 := by kernel_rfl
theorem l65 : lowF Try.prog Try.f65 = some c65 := by kernel_rfl
theorem l66 : lowF Try.prog Try.f66 = some c66 := by kernel_rfl
theorem l67 : lowF Try.prog Try.f67 = some c67 := by kernel_rfl
theorem l68 : lowF Try.prog Try.f68 = some c68 := by kernel_rfl
theorem l69 : lowF Try.prog Try.f69 = some c69 := by kernel_rfl
theorem l106 : lowF Try.prog Try.f106 = some c106 := by kernel_rfl
set_option maxRecDepth 100000 in
set_option maxHeartbeats 4000000 in
theorem idx67B_body (l : List Pol) (hb : l.length ≤ 4194304) (F : Nat) (cs : List Dt) (q : Pol → Bool) (hF : ∀ s, s ∈ l → ∀ K : CV → Mem → Prop, K (vBool (q s)) [.var (cs.map .dat)] → ACall Try.prog F [s.cv, ptr0] [.var (cs.map .dat)] K) : body Try.prog c67 [polsV l, (.rv (.one (.fn F [0])))] [.var (cs.map .dat)] (fun r m => r = vInt .i64 (idxG q l) ∧ ∃ ex, m = .var (cs.map .dat) :: ex) := by
  refine loop_keep (fun k => k ≤ l.length ∧ ∀ (j : Nat) s, j < k → l[j]? = some s → q s = false) [0, 1, 7] (fun k => [(8, vInt .i64 (k : Nat))]) (fun _ => [.var (cs.map .dat)]) (fun k => l.length - k) 0 ⟨Nat.zero_le _, fun j s h => absurd h (Nat.not_lt_zero j)⟩ ?_ (fun k hk => ?_)
  · refine View.of 1 [0] [] rfl rfl rfl rfl rfl rfl ?_ ?_
    · repeat (first | exact .nil | refine .junk ?_ | refine .eq rfl ?_)
    · exact .put (by simp [memN]) rfl (.varDE rfl) (.nil _)
  · refine bB_dec (fun h => ?_) (fun h => ?_)
    · have hlt : k < l.length := by
        have h : (k : Int) < ((l.map Pol.enc).length : Int) := h
        rw [List.length_map] at h
        omega
      have hg : getZ (l.map Pol.enc) (k : Nat) = some (l[k].enc) := by
        rw [getZ_nat, List.getElem?_map, List.getElem?_eq_getElem hlt]; rfl
      refine ok_some hg ?_
      refine hF l[k] (List.getElem_mem hlt) _ ?_
      refine bB_split (fun h => ?_) (fun h => ?_)
      · rw [idxG_found hlt h hk.2]
        exact ⟨rfl, [], rfl⟩
      · refine ⟨k + 1, ⟨hlt, fun j s hj hs => ?_⟩, (show l.length - (k + 1) < l.length - k by omega), View.of 1 [0] [] rfl rfl rfl rfl rfl rfl ?_ ?_⟩
        · rcases Nat.lt_or_ge j k with h5 | h5
          · exact hk.2 j s h5 hs
          · have : j = k := by omega
            subst this
            rw [List.getElem?_eq_getElem hlt] at hs
            cases hs
            exact h
        · repeat (first | exact .nil | refine .junk ?_ | refine .put (.ren (next_i64 (by omega)).symm) ?_ | refine .eq rfl ?_)
        · exact .put (by simp [memN]) rfl (.varDE rfl) (.nil _)
    · have hge : ¬ (k : Int) < ((l.map Pol.enc).length : Int) := h
      rw [List.length_map] at hge
      rw [idxG_none fun j s hs => hk.2 j s (by have := (List.getElem?_eq_some_iff.1 hs).1; omega) hs]
      exact ⟨rfl, [], rfl⟩
set_option maxRecDepth 100000 in
theorem idx67B_ok (l : List Pol) (hb : l.length ≤ 4194304) (F : Nat) (cs : List Dt) (q : Pol → Bool) (hF : ∀ s, s ∈ l → ∀ K : CV → Mem → Prop, K (vBool (q s)) [.var (cs.map .dat)] → ACall Try.prog F [s.cv, ptr0] [.var (cs.map .dat)] K) {K : CV → Mem → Prop} (h : K (vInt .i64 (idxG q l)) [.var (cs.map .dat)]) : ACall Try.prog 67 [polsV l, (.rv (.one (.fn F [0])))] [.var (cs.map .dat)] K :=
  acall_trim rfl (acall_body Try.func67 l67 rfl (Nat.le_of_ble_eq_true rfl) (idx67B_body l hb F cs q hF)) h
set_option maxRecDepth 100000 in
theorem any62B_ok (l : List Pol) (hb : l.length ≤ 4194304) (F : Nat) (cs : List Dt) (q : Pol → Bool) (hF : ∀ s, s ∈ l → ∀ K : CV → Mem → Prop, K (vBool (q s)) [.var (cs.map .dat)] → ACall Try.prog F [s.cv, ptr0] [.var (cs.map .dat)] K) (K : CV → Mem → Prop) (h : K (vBool (l.any q)) [.var (cs.map .dat)]) : ACall Try.prog 62 [polsV l, (.rv (.one (.fn F [0])))] [.var (cs.map .dat)] K := by
  refine acall_trim rfl (acall_body Try.func62 l62 rfl (Nat.le_of_ble_eq_true rfl) (show body Try.prog c62 [polsV l, (.rv (.one (.fn F [0])))] [.var (cs.map .dat)] (fun r m => r = vBool (l.any q) ∧ ∃ ex, m = .var (cs.map .dat) :: ex) from ?_)) h
  refine idx67B_ok l hb F cs q hF ?_
  rw [← idxG_any]
  exact ⟨rfl, [], rfl⟩
set_option maxRecDepth 100000 in
set_option maxHeartbeats 4000000 in
theorem idx106A_body (l : List Msk) (hb : l.length ≤ 4194304) (F : Nat) (q : Msk → Bool) (hF : ∀ s, s ∈ l → ∀ K : CV → Mem → Prop, K (vBool (q s)) [] → ACall Try.prog F [s.cv] [] K) : body Try.prog c106 [msksV l, (.rv (.one (.fn F [])))] [] (fun r m => r = vInt .i64 (idxG q l)) := by
  refine loop_keep (fun k => k ≤ l.length ∧ ∀ (j : Nat) s, j < k → l[j]? = some s → q s = false) [0, 1, 7] (fun k => [(8, vInt .i64 (k : Nat))]) (fun _ => []) (fun k => l.length - k) 0 ⟨Nat.zero_le _, fun j s h => absurd h (Nat.not_lt_zero j)⟩ ?_ (fun k hk => ?_)
  · refine View.of 0 [] [] rfl rfl rfl rfl rfl rfl ?_ ?_
    · repeat (first | exact .nil | refine .junk ?_ | refine .eq rfl ?_)
    · exact .nil _
  · refine bB_dec (fun h => ?_) (fun h => ?_)
    · have hlt : k < l.length := by
        have h : (k : Int) < ((l.map Msk.enc).length : Int) := h
        rw [List.length_map] at h
        omega
      have hg : getZ (l.map Msk.enc) (k : Nat) = some (l[k].enc) := by
        rw [getZ_nat, List.getElem?_map, List.getElem?_eq_getElem hlt]; rfl
      refine ok_some hg ?_
      refine hF l[k] (List.getElem_mem hlt) _ ?_
      refine bB_split (fun h => ?_) (fun h => ?_)
      · rw [idxG_found hlt h hk.2]
        exact rfl
      · refine ⟨k + 1, ⟨hlt, fun j s hj hs => ?_⟩, (show l.length - (k + 1) < l.length - k by omega), View.of 0 [] [] rfl rfl rfl rfl rfl rfl ?_ ?_⟩
        · rcases Nat.lt_or_ge j k with h5 | h5
          · exact hk.2 j s h5 hs
          · have : j = k := by omega
            subst this
            rw [List.getElem?_eq_getElem hlt] at hs
            cases hs
            exact h
        · repeat (first | exact .nil | refine .junk ?_ | refine .put (.ren (next_i64 (by omega)).symm) ?_ | refine .eq rfl ?_)
        · exact .nil _
    · have hge : ¬ (k : Int) < ((l.map Msk.enc).length : Int) := h
      rw [List.length_map] at hge
      rw [idxG_none fun j s hs => hk.2 j s (by have := (List.getElem?_eq_some_iff.1 hs).1; omega) hs]
      exact rfl
set_option maxRecDepth 100000 in
theorem idx106A_ok (l : List Msk) (hb : l.length ≤ 4194304) (F : Nat) (q : Msk → Bool) (hF : ∀ s, s ∈ l → ∀ K : CV → Mem → Prop, K (vBool (q s)) [] → ACall Try.prog F [s.cv] [] K) {m : Mem} {K : CV → Mem → Prop} (h : K (vInt .i64 (idxG q l)) m) : ACall Try.prog 106 [msksV l, (.rv (.one (.fn F [])))] m K :=
  acall_val Try.func106 l106 rfl (Nat.le_of_ble_eq_true rfl) (idx106A_body l hb F q hF) rfl rfl h
set_option maxRecDepth 100000 in
theorem any64A_ok (l : List Msk) (hb : l.length ≤ 4194304) (F : Nat) (q : Msk → Bool) (hF : ∀ s, s ∈ l → ∀ K : CV → Mem → Prop, K (vBool (q s)) [] → ACall Try.prog F [s.cv] [] K) {m : Mem} {K : CV → Mem → Prop} (h : K (vBool (l.any q)) m) : ACall Try.prog 64 [msksV l, (.rv (.one (.fn F [])))] m K := by
  refine acall_val Try.func64 l64 rfl (Nat.le_of_ble_eq_true rfl) (show body Try.prog c64 [msksV l, (.rv (.one (.fn F [])))] [] (fun r m => r = vBool (l.any q)) from ?_) rfl rfl h
  refine idx106A_ok l hb F q hF ?_
  rw [← idxG_any]
  exact rfl
set_option maxRecDepth 100000 in
set_option maxHeartbeats 4000000 in
theorem idx106B_body (l : List Msk) (hb : l.length ≤ 4194304) (F : Nat) (cs : List Dt) (q : Msk → Bool) (hF : ∀ s, s ∈ l → ∀ K : CV → Mem → Prop, K (vBool (q s)) [.var (cs.map .dat)] → ACall Try.prog F [s.cv, ptr0] [.var (cs.map .dat)] K) : body Try.prog c106 [msksV l, (.rv (.one (.fn F [0])))] [.var (cs.map .dat)] (fun r m => r = vInt .i64 (idxG q l) ∧ ∃ ex, m = .var (cs.map .dat) :: ex) := by
  refine loop_keep (fun k => k ≤ l.length ∧ ∀ (j : Nat) s, j < k → l[j]? = some s → q s = false) [0, 1, 7] (fun k => [(8, vInt .i64 (k : Nat))]) (fun _ => [.var (cs.map .dat)]) (fun k => l.length - k) 0 ⟨Nat.zero_le _, fun j s h => absurd h (Nat.not_lt_zero j)⟩ ?_ (fun k hk => ?_)
  · refine View.of 1 [0] [] rfl rfl rfl rfl rfl rfl ?_ ?_
    · repeat (first | exact .nil | refine .junk ?_ | refine .eq rfl ?_)
    · exact .put (by simp [memN]) rfl (.varDE rfl) (.nil _)
  · refine bB_dec (fun h => ?_) (fun h => ?_)
    · have hlt : k < l.length := by
        have h : (k : Int) < ((l.map Msk.enc).length : Int) := h
        rw [List.length_map] at h
        omega
      have hg : getZ (l.map Msk.enc) (k : Nat) = some (l[k].enc) := by
        rw [getZ_nat, List.getElem?_map, List.getElem?_eq_getElem hlt]; rfl
      refine ok_some hg ?_
      refine hF l[k] (List.getElem_mem hlt) _ ?_
      refine bB_split (fun h => ?_) (fun h => ?_)
      · rw [idxG_found hlt h hk.2]
        exact ⟨rfl, [], rfl⟩
      · refine ⟨k + 1, ⟨hlt, fun j s hj hs => ?_⟩, (show l.length - (k + 1) < l.length - k by omega), View.of 1 [0] [] rfl rfl rfl rfl rfl rfl ?_ ?_⟩
        · rcases Nat.lt_or_ge j k with h5 | h5
          · exact hk.2 j s h5 hs
          · have : j = k := by omega
            subst this
            rw [List.getElem?_eq_getElem hlt] at hs
            cases hs
            exact h
        · repeat (first | exact .nil | refine .junk ?_ | refine .put (.ren (next_i64 (by omega)).symm) ?_ | refine .eq rfl ?_)
        · exact .put (by simp [memN]) rfl (.varDE rfl) (.nil _)
    · have hge : ¬ (k : Int) < ((l.map Msk.enc).length : Int) := h
      rw [List.length_map] at hge
      rw [idxG_none fun j s hs => hk.2 j s (by have := (List.getElem?_eq_some_iff.1 hs).1; omega) hs]
      exact ⟨rfl, [], rfl⟩
set_option maxRecDepth 100000 in
theorem idx106B_ok (l : List Msk) (hb : l.length ≤ 4194304) (F : Nat) (cs : List Dt) (q : Msk → Bool) (hF : ∀ s, s ∈ l → ∀ K : CV → Mem → Prop, K (vBool (q s)) [.var (cs.map .dat)] → ACall Try.prog F [s.cv, ptr0] [.var (cs.map .dat)] K) {K : CV → Mem → Prop} (h : K (vInt .i64 (idxG q l)) [.var (cs.map .dat)]) : ACall Try.prog 106 [msksV l, (.rv (.one (.fn F [0])))] [.var (cs.map .dat)] K :=
  acall_trim rfl (acall_body Try.func106 l106 rfl (Nat.le_of_ble_eq_true rfl) (idx106B_body l hb F cs q hF)) h
set_option maxRecDepth 100000 in
theorem any64B_ok (l : List Msk) (hb : l.length ≤ 4194304) (F : Nat) (cs : List Dt) (q : Msk → Bool) (hF : ∀ s, s ∈ l → ∀ K : CV → Mem → Prop, K (vBool (q s)) [.var (cs.map .dat)] → ACall Try.prog F [s.cv, ptr0] [.var (cs.map .dat)] K) (K : CV → Mem → Prop) (h : K (vBool (l.any q)) [.var (cs.map .dat)]) : ACall Try.prog 64 [msksV l, (.rv (.one (.fn F [0])))] [.var (cs.map .dat)] K := by
  refine acall_trim rfl (acall_body Try.func64 l64 rfl (Nat.le_of_ble_eq_true rfl) (show body Try.prog c64 [msksV l, (.rv (.one (.fn F [0])))] [.var (cs.map .dat)] (fun r m => r = vBool (l.any q) ∧ ∃ ex, m = .var (cs.map .dat) :: ex) from ?_)) h
  refine idx106B_ok l hb F cs q hF ?_
  rw [← idxG_any]
  exact ⟨rfl, [], rfl⟩
/-! the closures -/
def badM (m : Msk) : Bool := decide (m.w < 1) || decide (m.w ≥ 6) || decide (m.bits < 1) || decide (m.bits ≥ 2147483648)
set_option maxRecDepth 100000 in
theorem clo63 (p s : Pol) (K : CV → Mem → Prop) (h : K (vBool (s.call == p.call)) [.var (p.enc.map .dat)]) : ACall Try.prog 63 [s.cv, ptr0] [.var (p.enc.map .dat)] K :=
  acall_trim rfl (acall_body Try.func63 l63 rfl (Nat.le_of_ble_eq_true rfl) (show body Try.prog c63 [s.cv, ptr0] [.var (p.enc.map .dat)] (fun r m => r = vBool (s.call == p.call) ∧ ∃ ex, m = .var (p.enc.map .dat) :: ex) from ⟨rfl, _, rfl⟩)) h
set_option maxRecDepth 100000 in
theorem body65 (s : Msk) : body Try.prog c65 [s.cv] [] (fun r m => r = vBool (badM s)) := by
  refine bB_split (fun h => ?_) (fun h => ?_)
  · rw [badM, h]; exact rfl
  refine bB_split (fun h2 => ?_) (fun h2 => ?_)
  · rw [badM, h, h2]; exact rfl
  refine bB_split (fun h3 => ?_) (fun h3 => ?_)
  · rw [badM, h, h2, h3]; exact rfl
  · rw [badM, h, h2, h3]; exact rfl
set_option maxRecDepth 100000 in
theorem clo65 (s : Msk) (K : CV → Mem → Prop) (h : K (vBool (badM s)) []) : ACall Try.prog 65 [s.cv] [] K :=
  acall_val Try.func65 l65 rfl (Nat.le_of_ble_eq_true rfl) (body65 s) rfl rfl h
set_option maxRecDepth 100000 in
theorem clo66 (e k : Int) (K : CV → Mem → Prop) (h : K (fltV (e, k)) [.var ([Dt.val (.int .i64 k)].map .dat)]) : ACall Try.prog 66 [vInt .i64 e, ptr0] [.var ([Dt.val (.int .i64 k)].map .dat)] K :=
  acall_trim rfl (acall_body Try.func66 l66 rfl (Nat.le_of_ble_eq_true rfl) (show body Try.prog c66 [vInt .i64 e, ptr0] [.var ([Dt.val (.int .i64 k)].map .dat)] (fun r m => r = fltV (e, k) ∧ ∃ ex, m = .var ([Dt.val (.int .i64 k)].map .dat) :: ex) from ⟨rfl, _, rfl⟩)) h
set_option maxRecDepth 100000 in
theorem clo68 (r : Rec) (s : Pol) (K : CV → Mem → Prop) (h : K (vBool (s.call == r.r0)) [.var (r.enc.map .dat)]) : ACall Try.prog 68 [s.cv, ptr0] [.var (r.enc.map .dat)] K :=
  acall_trim rfl (acall_body Try.func68 l68 rfl (Nat.le_of_ble_eq_true rfl) (show body Try.prog c68 [s.cv, ptr0] [.var (r.enc.map .dat)] (fun x m => x = vBool (s.call == r.r0) ∧ ∃ ex, m = .var (r.enc.map .dat) :: ex) from ⟨rfl, _, rfl⟩)) h
def hit (r : Rec) (m : Msk) : Bool := andV (r.get m.w.toNat) m.bits != 0
set_option maxRecDepth 100000 in
theorem body69 (r : Rec) (k : Nat) (hk : k < 6) (bits : Int) : body Try.prog c69 [Msk.cv ⟨k, bits⟩, ptr0] [.var (r.enc.map .dat)] (fun x m => x = vBool (hit r ⟨k, bits⟩) ∧ ∃ ex, m = .var (r.enc.map .dat) :: ex) := by
  refine ok_some (idxZ_nat hk) ?_
  refine ok_some (r.read hk) ?_
  exact ⟨rfl, _, rfl⟩
set_option maxRecDepth 100000 in
theorem clo69 (r : Rec) (s : Msk) (h0 : 0 ≤ s.w) (h1 : s.w < 6) (K : CV → Mem → Prop) (h : K (vBool (hit r s)) [.var (r.enc.map .dat)]) : ACall Try.prog 69 [s.cv, ptr0] [.var (r.enc.map .dat)] K := by
  obtain ⟨w, bits⟩ := s
  obtain ⟨k, rfl⟩ : ∃ n : Nat, w = n := ⟨w.toNat, by simp at h0; omega⟩
  exact acall_trim rfl (acall_body Try.func69 l69 rfl (Nat.le_of_ble_eq_true rfl) (body69 r k (by simp at h1; omega) bits)) h
end Go.Proofs.Ytflieebgiejjpaa
