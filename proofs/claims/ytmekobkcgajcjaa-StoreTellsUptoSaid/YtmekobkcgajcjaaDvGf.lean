import Derived.Test.YtmekobkcgajcjaaAmZ2
import Derived.Test.YtmekobkcgajcjaaDvGa
import Derived.Test.YtmekobkcgajcjaaAmY
set_option linter.unusedVariables false
set_option linter.unusedSimpArgs false
namespace Go.Proofs.Ytmekobkcgajcjaa
open Go.AM Go.ChangeShapes Go.WideShapes Go.ChangeAt Go.RowKit
def c37 : LF := ⟨52, [.tmp 2], (.seq (.reg [
    ⟨(some 2), .mov (.c (.rv (.one (.dat (.val (.bool false)))))), none⟩]) (.seq (.seq (.reg [
    ⟨(some 5), .mov (.t 0), none⟩,
    ⟨(some 6), .len 0 (.t 5), none⟩,
    ⟨(some 7), .bin .lss (.t 6) (.c (.rv (.one (.dat (.val (.int .i64 (1))))))), none⟩,
    ⟨(some 8), .mov (.t 7), none⟩,
    ⟨(some 9), .mov (.t 0), (some (8, false))⟩,
    ⟨(some 10), .len 0 (.t 9), (some (8, false))⟩,
    ⟨(some 11), .bin .gtr (.t 10) (.c (.rv (.one (.dat (.val (.int .i64 (12))))))), (some (8, false))⟩,
    ⟨(some 12), .pick (.t 8) (.c (.rv (.one (.dat (.val (.bool true)))))) (.t 11), none⟩,
    ⟨(some 13), .mov (.t 12), none⟩,
    ⟨(some 14), .mov (.t 0), (some (13, false))⟩,
    ⟨(some 15), .bin .eql (.t 14) (.c (.rv (.one (.dat (.val (.string ⟨#[46]⟩)))))), (some (13, false))⟩,
    ⟨(some 16), .pick (.t 13) (.c (.rv (.one (.dat (.val (.bool true)))))) (.t 15), none⟩,
    ⟨(some 17), .mov (.t 16), none⟩,
    ⟨(some 18), .mov (.t 0), (some (17, false))⟩,
    ⟨(some 19), .bin .eql (.t 18) (.c (.rv (.one (.dat (.val (.string ⟨#[46, 46]⟩)))))), (some (17, false))⟩,
    ⟨(some 20), .pick (.t 17) (.c (.rv (.one (.dat (.val (.bool true)))))) (.t 19), none⟩]) (.cond (.t 20) (.seq (.reg [
    ⟨(some 2), .mov (.c (.rv (.one (.dat (.val (.bool false)))))), none⟩]) .ret) .skip)) (.seq (.seq (.reg [
    ⟨(some 21), .mov (.t 0), none⟩,
    ⟨(some 22), .len 0 (.t 21), none⟩,
    ⟨(some 23), .mov (.c (.rv (.one (.dat (.val (.int .i64 (0))))))), none⟩]) (.block 0 (.loop (.seq (.reg [
    ⟨(some 24), .bin .lss (.t 23) (.t 22), none⟩]) (.seq (.cond (.t 24) .skip (.exit 0)) (.seq (.block 1 (.seq (.reg [
    ⟨(some 25), .mov (.t 23), none⟩,
    ⟨(some 3), .mov (.t 25), none⟩]) (.seq (.reg [
    ⟨(some 26), .mov (.t 0), none⟩,
    ⟨(some 27), .mov (.t 3), none⟩,
    ⟨(some 28), .sidx (.t 26) (.t 27), none⟩,
    ⟨(some 4), .mov (.t 28), none⟩]) (.seq (.reg [
    ⟨(some 29), .mov (.t 4), none⟩,
    ⟨(some 30), .bin .lss (.t 29) (.c (.rv (.one (.dat (.val (.int .u8 (97))))))), none⟩,
    ⟨(some 31), .mov (.t 30), none⟩,
    ⟨(some 32), .mov (.t 4), (some (31, false))⟩,
    ⟨(some 33), .bin .gtr (.t 32) (.c (.rv (.one (.dat (.val (.int .u8 (122))))))), (some (31, false))⟩,
    ⟨(some 34), .pick (.t 31) (.c (.rv (.one (.dat (.val (.bool true)))))) (.t 33), none⟩,
    ⟨(some 35), .mov (.t 34), none⟩,
    ⟨(some 36), .mov (.t 4), (some (35, true))⟩,
    ⟨(some 37), .bin .lss (.t 36) (.c (.rv (.one (.dat (.val (.int .u8 (48))))))), (some (35, true))⟩,
    ⟨(some 38), .mov (.t 37), (some (35, true))⟩,
    ⟨(some 39), .mov (.t 4), (some (38, false))⟩,
    ⟨(some 40), .bin .gtr (.t 39) (.c (.rv (.one (.dat (.val (.int .u8 (57))))))), (some (38, false))⟩,
    ⟨(some 41), .pick (.t 38) (.c (.rv (.one (.dat (.val (.bool true)))))) (.t 40), (some (35, true))⟩,
    ⟨(some 42), .pick (.t 35) (.t 41) (.c (.rv (.one (.dat (.val (.bool false)))))), none⟩,
    ⟨(some 43), .mov (.t 42), none⟩,
    ⟨(some 44), .mov (.t 4), (some (43, true))⟩,
    ⟨(some 45), .bin .neq (.t 44) (.c (.rv (.one (.dat (.val (.int .u8 (46))))))), (some (43, true))⟩,
    ⟨(some 46), .pick (.t 43) (.t 45) (.c (.rv (.one (.dat (.val (.bool false)))))), none⟩,
    ⟨(some 47), .mov (.t 46), none⟩,
    ⟨(some 48), .mov (.t 4), (some (47, true))⟩,
    ⟨(some 49), .bin .neq (.t 48) (.c (.rv (.one (.dat (.val (.int .u8 (95))))))), (some (47, true))⟩,
    ⟨(some 50), .pick (.t 47) (.t 49) (.c (.rv (.one (.dat (.val (.bool false)))))), none⟩]) (.cond (.t 50) (.seq (.reg [
    ⟨(some 2), .mov (.c (.rv (.one (.dat (.val (.bool false)))))), none⟩]) .ret) .skip))))) (.reg [
    ⟨(some 51), .bin .add (.t 23) (.c (.rv (.one (.dat (.val (.int .i64 (1))))))), none⟩,
    ⟨(some 23), .mov (.t 51), none⟩]))))))) (.seq (.reg [
    ⟨(some 2), .mov (.c (.rv (.one (.dat (.val (.bool true)))))), none⟩]) .ret))))⟩
namespace Pth
def bysL (l : List UInt8) : ByteArray := ⟨l.toArray⟩
@[simp] theorem bysL_data (r : List UInt8) : (bysL r).data.toList = r := rfl
@[simp] theorem bysL_size (r : List UInt8) : (bysL r).size = r.length := by simp [bysL, ByteArray.size]
abbrev Txt := List UInt8
def vT (t : Txt) : CV := vStr (bysL t)
theorem bysL_of (s : ByteArray) : ∃ t : Txt, s = bysL t := ⟨s.data.toList, rfl⟩
theorem bysL_toList (t : Txt) : (bysL t).toList = t := ByteArray.toList_mk t
theorem bysL_inj {a b : Txt} (h : bysL a = bysL b) : a = b := by rw [← bysL_toList a, ← bysL_toList b, h]
theorem bysL_add (a b : Txt) : bysL a ++ bysL b = bysL (a ++ b) := by
  apply ByteArray.ext
  simp [bysL]
theorem bB_str {a b : Txt} {A B : Prop} (ha : a = b → A) (hb : a ≠ b → B) : @Bool.rec (fun _ => Prop) B A ((bysL a).toList == (bysL b).toList) := by
  rw [bysL_toList, bysL_toList]
  cases h : (a == b)
  · exact hb (by simpa using h)
  · exact ha (by simpa using h)
def okN (n : Nat) : Bool := (decide (97 ≤ n) && decide (n ≤ 122)) || (decide (48 ≤ n) && decide (n ≤ 57)) || decide (n = 46) || decide (n = 95)
/-- may a text be a name? -/
def nameOk (t : Txt) : Bool := decide (1 ≤ t.length) && decide (t.length ≤ 12) && decide (t ≠ [46]) && decide (t ≠ [46, 46]) && t.all fun c => okN c.toNat
theorem nameOk_bad {t : Txt} {k : Nat} (hk : k < t.length) (h : okN t[k].toNat = false) : nameOk t = false := by
  have : (t.all fun c => okN c.toNat) = false := by
    rw [List.all_eq_false]
    exact ⟨t[k], List.getElem_mem hk, by simp [h]⟩
  simp [nameOk, this]
theorem nameOk_all {t : Txt} (h1 : 1 ≤ t.length) (h2 : t.length ≤ 12) (h3 : t ≠ [46]) (h4 : t ≠ [46, 46]) (h : ∀ k (hk : k < t.length), okN t[k].toNat = true) : nameOk t = true := by
  have : (t.all fun c => okN c.toNat) = true := by
    rw [List.all_eq_true]
    intro c hc
    obtain ⟨k, hk, rfl⟩ := List.mem_iff_getElem.1 hc
    exact h k hk
  simp [nameOk, this, h1, h2, h3, h4]
theorem okN_f {n : Nat} (h1 : ¬ (97 ≤ n ∧ n ≤ 122)) (h2 : ¬ (48 ≤ n ∧ n ≤ 57)) (h3 : n ≠ 46) (h4 : n ≠ 95) : okN n = false := by
  have a : ¬ (97 ≤ n) ∨ ¬ (n ≤ 122) := by omega
  have b : ¬ (48 ≤ n) ∨ ¬ (n ≤ 57) := by omega
  unfold okN
  rcases a with a | a <;> rcases b with b | b <;> simp [a, b, h3, h4]
theorem okN_t {n : Nat} (h : (97 ≤ n ∧ n ≤ 122) ∨ (48 ≤ n ∧ n ≤ 57) ∨ n = 46 ∨ n = 95) : okN n = true := by
  unfold okN
  rcases h with ⟨a, b⟩ | ⟨a, b⟩ | h | h <;> simp_all
theorem l37 : lowF Try.prog Try.f37 = some c37 := by kernel_rfl
theorem getT {t : Txt} {k : Nat} (hk : k < t.length) : getZ (bysL t).data.toList (k : Nat) = some t[k] := by
  rw [getZ_nat, bysL_data, List.getElem?_eq_getElem hk]
theorem bysL_sizeI (t : Txt) : (((bysL t).size : Nat) : Int) = t.length := by rw [bysL_size]
set_option maxRecDepth 100000 in
set_option maxHeartbeats 8000000 in
theorem name_body (t : Txt) : body Try.prog c37 [vT t] [] (fun r m => r = vBool (nameOk t)) := by
  refine bB_dec (fun h => ?_) (fun h => ?_)
  · rw [bysL_sizeI] at h
    have : nameOk t = false := by simp [nameOk]; omega
    rw [this]; rfl
  rw [bysL_sizeI] at h
  refine bB_dec (fun h2 => ?_) (fun h2 => ?_)
  · rw [bysL_sizeI] at h2
    have : nameOk t = false := by simp [nameOk]; omega
    rw [this]; rfl
  rw [bysL_sizeI] at h2
  refine bB_str (b := [46]) (fun h3 => ?_) (fun h3 => ?_)
  · subst h3; rfl
  refine bB_str (b := [46, 46]) (fun h4 => ?_) (fun h4 => ?_)
  · subst h4; rfl
  refine loop_keep (fun k => k ≤ t.length ∧ ∀ j (hj : j < t.length), j < k → okN t[j].toNat = true) [0] (fun k => [(22, vInt .i64 (t.length : Nat)), (23, vInt .i64 (k : Nat))]) (fun _ => []) (fun k => t.length - k) 0 ⟨Nat.zero_le _, fun j _ h => absurd h (Nat.not_lt_zero _)⟩ ?_ (fun k hk => ?_)
  · refine View.of 0 [] [] rfl rfl rfl rfl rfl rfl ?_ (.nil _)
    repeat (first | exact .nil | refine .junk ?_ | refine .eq rfl ?_ | refine .put (.ren (by rw [bysL_sizeI]; rfl)) ?_)
  obtain ⟨hk, hall⟩ : k ≤ t.length ∧ ∀ j (hj : j < t.length), j < k → okN t[j].toNat = true := hk
  refine bB_dec (fun h5 => ?_) (fun h5 => ?_)
  · have hlt : k < t.length := by
      have h5 : (k : Int) < (t.length : Int) := h5
      omega
    refine ok_some (getT hlt) ?_
    repeat' first | refine bB_dec (fun _ => ?_) (fun _ => ?_) | refine bB_bne (fun _ => ?_) (fun _ => ?_)
    all_goals first
      | (show vBool false = vBool (nameOk t)
         rw [nameOk_bad hlt (okN_f (by omega) (by omega) (by omega) (by omega))])
      | (refine ⟨k + 1, ⟨hlt, fun j hj hjk => ?_⟩, (show t.length - (k + 1) < t.length - k by omega), View.of 0 [] [] rfl rfl rfl rfl rfl rfl ?_ (.nil _)⟩
         · rcases Nat.lt_or_ge j k with h | h
           · exact hall j hj h
           · have : j = k := by omega
             subst this
             exact okN_t (by omega)
         · repeat (first | exact .nil | refine .junk ?_ | refine .put (.ren (next_i64 (by omega)).symm) ?_ | refine .eq rfl ?_))
  · show vBool true = vBool (nameOk t)
    have h5 : ¬ (k : Int) < (t.length : Int) := h5
    rw [nameOk_all (by omega) (by omega) h3 h4 fun j hj => hall j hj (by omega)]
theorem name_ok (t : Txt) {m : Mem} {K : CV → Mem → Prop} (h : K (vBool (nameOk t)) m) : ACall Try.prog 37 [vT t] m K :=
  acall_val Try.func37 l37 rfl (Nat.le_of_ble_eq_true rfl) (name_body t) rfl rfl h
theorem bB_ndec {p : Prop} [Decidable p] {A B : Prop} (ha : ¬ p → A) (hb : p → B) : @Bool.rec (fun _ => Prop) B A (!decide p) := by
  by_cases h : p
  · simp only [h, decide_true, Bool.not_true]; exact hb h
  · simp only [h, decide_false, Bool.not_false]; exact ha h
theorem bB_nstr {a b : Txt} {A B : Prop} (ha : a ≠ b → A) (hb : a = b → B) : @Bool.rec (fun _ => Prop) B A (!((bysL a).toList == (bysL b).toList)) := by
  rw [bysL_toList, bysL_toList]
  by_cases h : a = b
  · subst h; simpa using hb rfl
  · have : (a == b) = false := by simpa using h
    rw [this]; exact ha h
theorem strB {a b : Txt} : ((bysL a).toList == (bysL b).toList) = decide (a = b) := by
  rw [bysL_toList, bysL_toList]
  by_cases h : a = b <;> simp [h]
theorem l40 : lowF Try.prog Try.f40 = some c40 := by kernel_rfl
set_option maxRecDepth 100000 in
set_option maxHeartbeats 8000000 in
theorem rname_body (t : Txt) (ht : t.length ≤ 4194304) : body Try.prog c40 [vT t] [] (fun r m => r = vBool (nameOk t)) := by
  refine loop_keep (fun k => k ≤ t.length ∧ ∀ j (hj : j < t.length), j < k → okN t[j].toNat = true) [0] (fun k => [(6, vInt .i64 (t.length : Nat)), (7, vInt .i64 (k : Nat))]) (fun _ => []) (fun k => t.length - k) 0 ⟨Nat.zero_le _, fun j _ h => absurd h (Nat.not_lt_zero _)⟩ ?_ (fun k hk => ?_)
  · refine View.of 0 [] [] rfl rfl rfl rfl rfl rfl ?_ (.nil _)
    repeat (first | exact .nil | refine .junk ?_ | refine .eq rfl ?_ | refine .put (.ren (by rw [bysL_sizeI]; rfl)) ?_)
  obtain ⟨hk, hall⟩ : k ≤ t.length ∧ ∀ j (hj : j < t.length), j < k → okN t[j].toNat = true := hk
  refine bB_dec (fun h5 => ?_) (fun h5 => ?_)
  · have hlt : k < t.length := by
      have h5 : (k : Int) < (t.length : Int) := h5
      omega
    refine ok_some (getT hlt) ?_
    repeat' first | refine bB_dec (fun _ => ?_) (fun _ => ?_) | refine bB_bne (fun _ => ?_) (fun _ => ?_) | refine bB_ndec (fun _ => ?_) (fun _ => ?_)
    all_goals first
      | (show vBool false = vBool (nameOk t)
         rw [nameOk_bad hlt (okN_f (by omega) (by omega) (by omega) (by omega))])
      | (refine ⟨k + 1, ⟨hlt, fun j hj hjk => ?_⟩, (show t.length - (k + 1) < t.length - k by omega), View.of 0 [] [] rfl rfl rfl rfl rfl rfl ?_ (.nil _)⟩
         · rcases Nat.lt_or_ge j k with h | h
           · exact hall j hj h
           · have : j = k := by omega
             subst this
             exact okN_t (by omega)
         · repeat (first | exact .nil | refine .junk ?_ | refine .put (.ren (next_i64 (by omega)).symm) ?_ | refine .eq rfl ?_))
  · have h5 : ¬ (k : Int) < (t.length : Int) := h5
    have hall' : (t.all fun c => okN c.toNat) = true := by
      rw [List.all_eq_true]
      intro c hc
      obtain ⟨j, hj, rfl⟩ := List.mem_iff_getElem.1 hc
      exact hall j hj (by omega)
    refine bB_dec (fun h1 => ?_) (fun h1 => ?_)
    · rw [bysL_sizeI] at h1
      refine bB_dec (fun h2 => ?_) (fun h2 => ?_)
      · rw [bysL_sizeI] at h2
        refine bB_nstr (b := [46]) (fun h3 => ?_) (fun h3 => ?_)
        · show vBool (!((bysL t).toList == (bysL [46, 46]).toList)) = _
          rw [strB]
          have a1 : 1 ≤ t.length := by omega
          have a2 : t.length ≤ 12 := by omega
          simp [nameOk, hall', a1, a2, h3, vBool]
        · subst h3; rfl
      · rw [bysL_sizeI] at h2
        have : nameOk t = false := by simp [nameOk]; omega
        rw [this]; rfl
    · rw [bysL_sizeI] at h1
      have : nameOk t = false := by simp [nameOk]; omega
      rw [this]; rfl
theorem rname_ok (t : Txt) (ht : t.length ≤ 4194304) {m : Mem} {K : CV → Mem → Prop} (h : K (vBool (nameOk t)) m) : ACall Try.prog 40 [vT t] m K :=
  acall_val Try.func40 l40 rfl (Nat.le_of_ble_eq_true rfl) (rname_body t ht) rfl rfl h
end Pth

/-! store.Own of one object, its bytes a block of its own -/
set_option maxRecDepth 100000 in
theorem bcloneR_body (d : List (List Dt)) (hb : d.length ≤ 4194304) : body Try.prog c29 [slV 1 d] [] (fun r m => ∃ r' m', View 0 ⟨[r], m⟩ ⟨[r'], m'⟩ ∧ r' = .rv (.one (.row 0 1 0 none)) ∧ m' = [.row 1 (dRows d)]) := by
  have big : ((([] : List (List CC)).length + (d.map fun ds => ds.map CC.dat).length) * 1) ≤ 140737488355328 := by simp; omega
  have fin : ∃ r' m', View 0 ⟨[CV.rv (.one (.row 1 1 0 none))], [.dead, .row 1 (subL ([] : List (List CC)) 0 none ++ d.map fun ds => ds.map CC.dat)]⟩ ⟨[r'], m'⟩ ∧ r' = CV.rv (.one (.row 0 1 0 none)) ∧ m' = [Bk.row 1 (dRows d)] :=
    ⟨_, _, View.of 2 [1] [] rfl rfl rfl rfl rfl rfl (.eq rfl .nil) (.put (notF rfl) rfl (.rowDE rfl) (.nil _)), rfl, rfl⟩
  refine bB_split (fun h => ?_) (fun h => ?_)
  · have hd : d = [] := List.eq_nil_of_length_eq_zero (by simpa using Nat.eq_of_beq_eq_true h)
    refine ⟨?_, big, fin⟩
    subst hd
    exact ⟨_, _, View.esl 0 1 0 rfl rfl rfl, rfl, rfl⟩
  · exact ⟨big, fin⟩
theorem dRows_ren1 (σ : Nat → Nat) (ds : List (List Dt)) : (dRows ds).map (fun cs => cs.map (CC.ren σ)) = dRows ds := by
  simp [dRows, Function.comp_def, CC.ren]
set_option maxRecDepth 100000 in
theorem bcloneR_ok (d : List (List Dt)) (hb : d.length ≤ 4194304) {m : Mem} {K : CV → Mem → Prop} (h : K (.rv (.one (.row m.length 1 0 none))) (m ++ [.row 1 (dRows d)])) : ACall Try.prog 29 [slV 1 d] m K := by
  refine acall_borrow [] m.length rfl rfl rfl rfl (args0 := [slV 1 d]) rfl (fun i b' hi => by simp at hi) (K0 := fun r m => r = .rv (.one (.row 0 1 0 none)) ∧ m = [.row 1 (dRows d)]) (acall_view (acall_body Try.func29 l29 rfl (Nat.le_of_ble_eq_true rfl) (bcloneR_body d hb)) fun r m1 h => h) (fun r m1 hr => ?_)
  obtain ⟨rfl, rfl⟩ := hr
  refine ⟨Nat.zero_le _, ?_⟩
  show K (.rv (.one (.row (m.length + (0 - 0)) 1 0 none))) (app2 m [.row 1 ((dRows d).map (fun cs => cs.map (CC.ren (sg [] m.length))))])
  rw [dRows_ren1, app2_eq]
  exact h
/-- an object, its bytes a block -/
def rowF (Q : Nat) (o : Obj) : List CC := [.dat (.val (.int .i64 o.kind)), .row Q 1 0 none, .dat (.sl 2 o.entries), .dat (.val (.string o.target)), .dat (.val (.int .i64 o.peer)),
  .dat (.sl 4 (o.queue.map Msg.enc)), .dat (.val (.int .i64 o.proc)), .dat (.val (.int .i64 o.links)), .dat (.val (.int .i64 o.up))]
def memF (o : Obj) : Nat → Mem
  | 0 => [.row 9 [], .dead]
  | _ + 1 => [.row 9 [rowF 1 o], .row 1 (dRows o.data)]
set_option maxRecDepth 100000 in
set_option maxHeartbeats 8000000 in
theorem own1_body (o : Obj) (hf : o.fit) : body Try.prog c8 [objsV [o]] [] (fun r m => r = .rv (.one (.row 0 9 0 none)) ∧ m = [.row 9 [rowF 1 o], .row 1 (dRows o.data)]) := by
  obtain ⟨kind, data, entries, target, peer, queue, proc, links, up⟩ := o
  obtain ⟨hf1, hf2, hf3, hf4⟩ := hf
  have hf1 : data.length ≤ 4194304 := hf1
  have hf2 : entries.length ≤ 4194304 := hf2
  have hf3 : queue.length ≤ 4194304 := hf3
  have hf4 : ∀ q, q ∈ queue → q.data.length ≤ 4194304 := hf4
  refine loop_keep (fun k => k ≤ 1) [0, 9, 10] (fun k => [(11, vInt .i64 (k : Nat)), (3, .rv (.one (.row 0 9 0 none)))]) (memF ⟨kind, data, entries, target, peer, queue, proc, links, up⟩) (fun k => 1 - k) 0 (Nat.zero_le _) ?_ (fun k hk => ?_)
  · refine View.trans (View.esl 2 4 0 rfl rfl rfl) (View.trans (View.esl 3 9 1 rfl rfl rfl) (View.of 2 [1, 0] [] rfl rfl rfl rfl rfl rfl ?_ ?_))
    · repeat (first | exact .nil | refine .junk ?_ | refine .eq rfl ?_)
    · exact .put (by simp [memN]) rfl (.eq rfl (by simp)) (.dead (.nil _))
  have hk : k ≤ 1 := hk
  match k, hk with
  | 0, _ =>
    refine bcloneR_ok data hf1 ?_
    refine ⟨⟨rfl, trivial⟩, ?_⟩
    refine eclone_ok entries hf2 ?_
    refine ⟨trivial, ?_⟩
    refine ⟨trivial, ?_⟩
    refine ⟨trivial, ?_⟩
    refine loop_keep (fun j => j ≤ queue.length) [0, 3, 5, 9, 10, 11, 24, 25] (fun j => [(26, vInt .i64 (j : Nat)), (6, .rv (.one (.row 4 4 0 none)))])
        (fun j => [.row 9 [], .dead, .var (rowF 3 ⟨kind, data, entries, target, peer, queue, proc, links, up⟩), .row 1 (dRows data), .row 4 (dRows ((queue.take j).map Msg.enc))]) (fun j => queue.length - j) 0 (Nat.zero_le _) ?_ (fun j hj => ?_)
    · refine View.trans (View.esl 6 4 4 rfl rfl rfl) (View.of 5 [0, 1, 2, 3, 4] [] rfl rfl rfl rfl rfl rfl ?_ ?_)
      · repeat (first | exact .nil | refine .junk ?_ | refine .eq rfl ?_)
      · exact .put (notF rfl) rfl (.eq rfl (by simp)) (.dead (.put (notF rfl) rfl (.eq rfl (by simp)) (.put (notF rfl) rfl (.rowDE rfl) (.put (notF rfl) rfl (.rowDE rfl) (.nil _)))))
    have hj : j ≤ queue.length := hj
    refine bB_dec (fun h => ?_) (fun h => ?_)
    · have hjlt : j < queue.length := by
        have h : (j : Int) < ((queue.map Msg.enc).length : Int) := h
        rw [List.length_map] at h
        omega
      have hqi := List.getElem?_eq_getElem hjlt
      have hqf := hf4 _ (List.getElem_mem hjlt)
      generalize queue[j] = q at hqi hqf
      obtain ⟨qd, qh, qo, qr⟩ := q
      have hg2 : getZ (queue.map Msg.enc) (j : Nat) = some [.sl 1 qd, .val (.bool qh), .val (.int .i64 qo), .val (.int .i64 qr)] := by
        rw [getZ_nat, List.getElem?_map, hqi]; rfl
      refine ok_some hg2 ?_
      refine bclone_ok qd hqf ?_
      refine ⟨?_, ?_⟩
      · show ((dRows ((queue.take j).map Msg.enc)).length + 1) * 48 ≤ _
        simp [dRows]; omega
      refine ⟨j + 1, hjlt, (show queue.length - (j + 1) < queue.length - j by omega), View.of 8 [0, 1, 2, 3, 7] [] rfl rfl rfl rfl rfl rfl ?_ ?_⟩
      · repeat (first | exact .nil | refine .junk ?_ | refine .put (.ren (next_i64 (by omega)).symm) ?_ | refine .eq rfl ?_)
      · refine .put (notF rfl) rfl (.eq rfl (by simp)) (.dead (.put (notF rfl) rfl (.eq rfl (by simp)) (.put (notF rfl) rfl (.rowDE rfl) (.put (notF rfl) rfl (.rowDE ?_) (.nil _)))))
        rw [takeO hqi, List.map_append, dRows_append]
        rfl
    · have hge : ¬ (j : Int) < ((queue.map Msg.enc).length : Int) := h
      rw [List.length_map] at hge
      have hq : queue.take j = queue := List.take_of_length_le (by omega)
      refine ⟨by show (0 + 1) * 128 ≤ 140737488355328; omega, ?_⟩
      refine ⟨1, Nat.le_refl 1, (show 1 - 1 < 1 - 0 by omega), View.of 7 [6, 3] [4] rfl rfl rfl rfl rfl rfl ?_ ?_⟩
      · repeat (first | exact .nil | refine .junk ?_ | refine .put (.ren (next_i64 (by omega)).symm) ?_ | refine .eq rfl ?_)
      · refine .put (notF rfl) rfl (VwB.snoc (R := []) (R' := []) rfl rfl ?_) (.put (notF rfl) rfl (.rowDE rfl) (.nil _))
        intro j' c c' h1 h2
        have e5 : rowF 1 ⟨kind, data, entries, target, peer, queue, proc, links, up⟩ = [.dat (.val (.int .i64 kind)), .row 1 1 0 none, .dat (.sl 2 entries), .dat (.val (.string target)), .dat (.val (.int .i64 peer)), .dat (.sl 4 ((queue.take j).map Msg.enc)), .dat (.val (.int .i64 proc)), .dat (.val (.int .i64 links)), .dat (.val (.int .i64 up))] := by
          simp [rowF, hq]
        rw [e5] at h2
        match j', h1, h2 with
        | 0, h1, h2 => cases h1; cases h2; exact .ren (.dat _)
        | 1, h1, h2 => cases h1; cases h2; exact .ren (.row 1 1 0 none)
        | 2, h1, h2 => cases h1; cases h2; exact .ren (.dat _)
        | 3, h1, h2 => cases h1; cases h2; exact .ren (.dat _)
        | 4, h1, h2 => cases h1; cases h2; exact .ren (.dat _)
        | 5, h1, h2 => cases h1; cases h2; exact .frz (FrzD.rowD (Z := fun k => memN [4] k = true) rfl (by rw [← nth_eq]; rfl) 0 none)
        | 6, h1, h2 => cases h1; cases h2; exact .ren (.dat _)
        | 7, h1, h2 => cases h1; cases h2; exact .ren (.dat _)
        | 8, h1, h2 => cases h1; cases h2; exact .ren (.dat _)
        | n + 9, h1, h2 => simp at h1
  | 1, _ => exact ⟨rfl, rfl⟩
theorem rowF_ren {σ : Nat → Nat} (Q : Nat) (o : Obj) : (rowF Q o).map (CC.ren σ) = rowF (σ Q) o := by simp [rowF, CC.ren]
set_option maxRecDepth 100000 in
theorem own1_ok (o : Obj) (hf : o.fit) {m : Mem} {K : CV → Mem → Prop} (h : K (.rv (.one (.row m.length 9 0 none))) (m ++ [.row 9 [rowF (m.length + 1) o], .row 1 (dRows o.data)])) : ACall Try.prog 8 [objsV [o]] m K := by
  refine acall_borrow [] m.length rfl rfl rfl rfl rfl (fun i b' hi => by simp at hi) (acall_body Try.func8 l8 rfl (Nat.le_of_ble_eq_true rfl) (own1_body o hf)) (fun r m1 hr => ?_)
  obtain ⟨rfl, rfl⟩ := hr
  refine ⟨Nat.zero_le _, ?_⟩
  show K (.rv (.one (.row (m.length + (0 - 0)) 9 0 none))) (app2 m [.row 9 [(rowF 1 o).map (CC.ren (sg [] m.length))], .row 1 ((dRows o.data).map (fun cs => cs.map (CC.ren (sg [] m.length))))])
  rw [rowF_ren, dRows_ren1, app2_eq]
  exact h

def c18 : LF := ⟨43, [.tmp 6, .tmp 7], (.seq (.reg [
    ⟨(some 3), .box (.t 0), none⟩,
    ⟨(some 6), .mov (.c (.rv (.one .esl))), none⟩,
    ⟨(some 7), .mov (.c (.rv (.one (.dat (.val (.int .i64 (0))))))), none⟩]) (.seq (.block 0 (.seq (.reg [
    ⟨(some 10), .fadr 0 (.t 3), none⟩,
    ⟨(some 11), .load false 1 (.t 10), none⟩,
    ⟨(some 12), .bin .eql (.t 11) (.c (.rv (.one (.dat (.val (.int .i64 (2))))))), none⟩,
    ⟨(some 9), .mov (.t 12), none⟩]) (.cond (.t 9) (.seq (.reg [
    ⟨(some 6), .mov (.c (.rv (.one .esl))), none⟩,
    ⟨(some 7), .mov (.c (.rv (.one (.dat (.val (.int .i64 (12))))))), none⟩]) .ret) (.seq (.reg [
    ⟨(some 14), .fadr 0 (.t 3), none⟩,
    ⟨(some 15), .load false 1 (.t 14), none⟩,
    ⟨(some 16), .bin .neq (.t 15) (.c (.rv (.one (.dat (.val (.int .i64 (1))))))), none⟩,
    ⟨(some 13), .mov (.t 16), none⟩]) (.cond (.t 13) (.seq (.reg [
    ⟨(some 6), .mov (.c (.rv (.one .esl))), none⟩,
    ⟨(some 7), .mov (.c (.rv (.one (.dat (.val (.int .i64 (8))))))), none⟩]) .ret) (.seq (.reg [
    ⟨(some 18), .mov (.t 1), none⟩,
    ⟨(some 19), .bin .lss (.t 18) (.c (.rv (.one (.dat (.val (.int .i64 (0))))))), none⟩,
    ⟨(some 20), .mov (.t 19), none⟩,
    ⟨(some 21), .mov (.t 2), (some (20, false))⟩,
    ⟨(some 22), .bin .lss (.t 21) (.c (.rv (.one (.dat (.val (.int .i64 (0))))))), (some (20, false))⟩,
    ⟨(some 23), .pick (.t 20) (.c (.rv (.one (.dat (.val (.bool true)))))) (.t 22), none⟩,
    ⟨(some 17), .mov (.t 23), none⟩]) (.cond (.t 17) (.seq (.reg [
    ⟨(some 6), .mov (.c (.rv (.one .esl))), none⟩,
    ⟨(some 7), .mov (.c (.rv (.one (.dat (.val (.int .i64 (3))))))), none⟩]) .ret) .skip))))))) (.seq (.reg [
    ⟨(some 24), .mov (.t 1), none⟩,
    ⟨(some 25), .fadr 1 (.t 3), none⟩,
    ⟨(some 26), .load false 1 (.t 25), none⟩,
    ⟨(some 27), .len 1 (.t 26), none⟩,
    ⟨(some 28), .minmax false [(.t 24), (.t 27)], none⟩,
    ⟨(some 8), .mov (.t 28), none⟩]) (.seq (.reg [
    ⟨(some 29), .fadr 1 (.t 3), none⟩,
    ⟨(some 30), .load false 1 (.t 29), none⟩,
    ⟨(some 31), .mov (.t 8), none⟩,
    ⟨(some 32), .mov (.t 8), none⟩,
    ⟨(some 33), .mov (.t 2), none⟩,
    ⟨(some 34), .fadr 1 (.t 3), none⟩,
    ⟨(some 35), .load false 1 (.t 34), none⟩,
    ⟨(some 36), .len 1 (.t 35), none⟩,
    ⟨(some 37), .mov (.t 8), none⟩,
    ⟨(some 38), .bin .sub (.t 36) (.t 37), none⟩,
    ⟨(some 39), .minmax false [(.t 33), (.t 38)], none⟩,
    ⟨(some 40), .bin .add (.t 32) (.t 39), none⟩,
    ⟨(some 41), .slc 1 (.t 30) (some (.t 31)) (some (.t 40)) none, none⟩,
    ⟨(some 42), .call (.c (.rv (.one (.fn 29 [])))) [(.t 41)], none⟩,
    ⟨(some 6), .mov (.t 42), none⟩,
    ⟨(some 7), .mov (.c (.rv (.one (.dat (.val (.int .i64 (0))))))), none⟩]) .ret))))⟩
/-! store.Read -/
theorem l18 : lowF Try.prog Try.f18 = some c18 := by kernel_rfl
def minN (a b : Nat) : Nat := if b < a then b else a
theorem minN_int (a b : Nat) : (if (b : Int) < (a : Int) then (b : Int) else (a : Int)) = ((minN a b : Nat) : Int) := by unfold minN; split <;> split <;> omega
theorem minN_le (a b : Nat) : minN a b ≤ a ∧ minN a b ≤ b := by unfold minN; split <;> omega
/-- so many bytes from one on -/
def cutD (d : List (List Dt)) (at' n : Nat) : List (List Dt) := (d.take (minN at' d.length + minN n (d.length - minN at' d.length))).drop (minN at' d.length)
def readS (kind : Int) (d : List (List Dt)) (at' n : Int) : List (List Dt) × Int :=
  if kind = 2 then ([], 12) else if kind ≠ 1 then ([], 8) else if at' < 0 ∨ n < 0 then ([], 3) else (cutD d at'.toNat n.toNat, 0)
def byR (d : List (List Dt)) : RV := .one (.dat (.sl 1 d))
set_option maxRecDepth 100000 in
set_option maxHeartbeats 8000000 in
theorem read_body (o : Obj) (hf : o.data.length ≤ 4194304) (at' n : Int) (ha : at' ≤ 140737488355328) (hn : n ≤ 140737488355328) : body Try.prog c18 [o.cv, vInt .i64 at', vInt .i64 n] [] (fun r m => FrzV m r (.tup [byR (readS o.kind o.data at' n).1, iRV (readS o.kind o.data at' n).2])) := by
  obtain ⟨kind, data, entries, target, peer, queue, proc, links, up⟩ := o
  have hf : data.length ≤ 4194304 := hf
  show body Try.prog c18 _ [] (fun r m => FrzV m r (.tup [byR (readS kind data at' n).1, iRV (readS kind data at' n).2]))
  refine bB_beq (fun h1 => ?_) (fun h1 => ?_)
  · rw [readS, if_pos h1]
    exact frz2 (.one (.esl 1))
  refine bB_bne (fun h2 => ?_) (fun h2 => ?_)
  · rw [readS, if_neg h1, if_pos h2]
    exact frz2 (.one (.esl 1))
  have hk : kind = 1 := by simpa using h2
  refine bB_dec (fun h3 => ?_) (fun h3 => ?_)
  · rw [readS, if_neg h1, if_neg (by simpa using hk), if_pos (.inl h3)]
    exact frz2 (.one (.esl 1))
  refine bB_dec (fun h4 => ?_) (fun h4 => ?_)
  · rw [readS, if_neg h1, if_neg (by simpa using hk), if_pos (.inr h4)]
    exact frz2 (.one (.esl 1))
  rw [readS, if_neg h1, if_neg (by simpa using hk), if_neg (fun h => h.elim h3 h4)]
  have h3 : ¬ at' < 0 := h3
  have h4 : ¬ n < 0 := h4
  obtain ⟨A, rfl⟩ : ∃ A : Nat, at' = A := ⟨at'.toNat, by omega⟩
  obtain ⟨N, rfl⟩ : ∃ N : Nat, n = N := ⟨n.toNat, by omega⟩
  rw [show ((A : Nat) : Int).toNat = A from rfl, show ((N : Nat) : Int).toNat = N from rfl]
  have hA : (A : Int) ≤ 140737488355328 := ha
  have hN : (N : Int) ≤ 140737488355328 := hn
  have hm1 := minN_le A data.length
  have hm2 := minN_le N (data.length - minN A data.length)
  have hL : natX (vInt .i64 (if (data.length : Int) < (A : Int) then (data.length : Int) else (A : Int))) = some (minN A data.length) := by
    rw [minN_int]; rfl
  have hE : IntKind.i64.wrap ((if (data.length : Int) < (A : Int) then (data.length : Int) else (A : Int)) + (if IntKind.i64.wrap ((data.length : Int) - (if (data.length : Int) < (A : Int) then (data.length : Int) else (A : Int))) < (N : Int) then IntKind.i64.wrap ((data.length : Int) - (if (data.length : Int) < (A : Int) then (data.length : Int) else (A : Int))) else (N : Int)))
      = ((minN A data.length + minN N (data.length - minN A data.length) : Nat) : Int) := by
    rw [minN_int, show (data.length : Int) - ((minN A data.length : Nat) : Int) = ((data.length - minN A data.length : Nat) : Int) by omega, wrapN (by omega), minN_int,
      show ((minN A data.length : Nat) : Int) + ((minN N (data.length - minN A data.length) : Nat) : Int) = ((minN A data.length + minN N (data.length - minN A data.length) : Nat) : Int) by omega, wrapN (by omega)]
  have hH : natX (vInt .i64 (IntKind.i64.wrap ((if (data.length : Int) < (A : Int) then (data.length : Int) else (A : Int)) + (if IntKind.i64.wrap ((data.length : Int) - (if (data.length : Int) < (A : Int) then (data.length : Int) else (A : Int))) < (N : Int) then IntKind.i64.wrap ((data.length : Int) - (if (data.length : Int) < (A : Int) then (data.length : Int) else (A : Int))) else (N : Int))))) = some (minN A data.length + minN N (data.length - minN A data.length)) := by
    rw [hE]; rfl
  refine ok_some hL ?_
  refine ok_some hH ?_
  refine bB_yes (by rw [Bool.and_eq_true, Nat.ble_eq, Nat.ble_eq]; show minN A data.length ≤ minN A data.length + minN N (data.length - minN A data.length) ∧ minN A data.length + minN N (data.length - minN A data.length) ≤ data.length; omega) ?_
  refine bclone_ok (cutD data A N) (by simp [cutD]; omega) ?_
  exact frz2 (FrzR.self rfl)
set_option maxRecDepth 100000 in
theorem read_ok (o : Obj) (hf : o.data.length ≤ 4194304) (at' n : Int) (ha : at' ≤ 140737488355328) (hn : n ≤ 140737488355328) {m : Mem} {K : CV → Mem → Prop} (h : K (.tup [byR (readS o.kind o.data at' n).1, iRV (readS o.kind o.data at' n).2]) m) : ACall Try.prog 18 [o.cv, vInt .i64 at', vInt .i64 n] m K :=
  acall_frame (acall_body Try.func18 l18 rfl (Nat.le_of_ble_eq_true rfl) (read_body o hf at' n ha hn)) (by simp [Obj.cv, Obj.enc, vInt, CV.isD, CC.isD, RV.isD]) fun r m1 hf => ⟨_, hf, h⟩

def c20 : LF := ⟨68, [.cell true 9 6, .tmp 7], (.seq (.reg [
    ⟨(some 3), .box (.t 0), none⟩,
    ⟨(some 6), .alloc [(.dat (.val (.int .i64 (0)))), .esl, .esl, (.dat (.val (.string ⟨#[]⟩))), (.dat (.val (.int .i64 (0)))), .esl, (.dat (.val (.int .i64 (0)))), (.dat (.val (.int .i64 (0)))), (.dat (.val (.int .i64 (0))))], none⟩,
    ⟨(some 7), .mov (.c (.rv (.one (.dat (.val (.int .i64 (0))))))), none⟩]) (.seq (.block 0 (.seq (.reg [
    ⟨(some 10), .fadr 0 (.t 3), none⟩,
    ⟨(some 11), .load false 1 (.t 10), none⟩,
    ⟨(some 12), .bin .eql (.t 11) (.c (.rv (.one (.dat (.val (.int .i64 (2))))))), none⟩,
    ⟨(some 9), .mov (.t 12), none⟩]) (.cond (.t 9) (.seq (.reg [
    ⟨(some 13), .build [(.dat (.val (.int .i64 (0)))), .esl, .esl, (.dat (.val (.string ⟨#[]⟩))), (.dat (.val (.int .i64 (0)))), .esl, (.dat (.val (.int .i64 (0)))), (.dat (.val (.int .i64 (0)))), (.dat (.val (.int .i64 (0))))] [], none⟩,
    ⟨none, .store 9 (.t 6) (.t 13), none⟩,
    ⟨(some 7), .mov (.c (.rv (.one (.dat (.val (.int .i64 (12))))))), none⟩]) .ret) (.seq (.reg [
    ⟨(some 15), .fadr 0 (.t 3), none⟩,
    ⟨(some 16), .load false 1 (.t 15), none⟩,
    ⟨(some 17), .bin .neq (.t 16) (.c (.rv (.one (.dat (.val (.int .i64 (1))))))), none⟩,
    ⟨(some 14), .mov (.t 17), none⟩]) (.cond (.t 14) (.seq (.reg [
    ⟨(some 18), .build [(.dat (.val (.int .i64 (0)))), .esl, .esl, (.dat (.val (.string ⟨#[]⟩))), (.dat (.val (.int .i64 (0)))), .esl, (.dat (.val (.int .i64 (0)))), (.dat (.val (.int .i64 (0)))), (.dat (.val (.int .i64 (0))))] [], none⟩,
    ⟨none, .store 9 (.t 6) (.t 18), none⟩,
    ⟨(some 7), .mov (.c (.rv (.one (.dat (.val (.int .i64 (8))))))), none⟩]) .ret) (.seq (.reg [
    ⟨(some 20), .mov (.t 1), none⟩,
    ⟨(some 21), .bin .lss (.t 20) (.c (.rv (.one (.dat (.val (.int .i64 (0))))))), none⟩,
    ⟨(some 19), .mov (.t 21), none⟩]) (.cond (.t 19) (.seq (.reg [
    ⟨(some 22), .build [(.dat (.val (.int .i64 (0)))), .esl, .esl, (.dat (.val (.string ⟨#[]⟩))), (.dat (.val (.int .i64 (0)))), .esl, (.dat (.val (.int .i64 (0)))), (.dat (.val (.int .i64 (0)))), (.dat (.val (.int .i64 (0))))] [], none⟩,
    ⟨none, .store 9 (.t 6) (.t 22), none⟩,
    ⟨(some 7), .mov (.c (.rv (.one (.dat (.val (.int .i64 (3))))))), none⟩]) .ret) (.seq (.reg [
    ⟨(some 24), .mov (.t 1), none⟩,
    ⟨(some 25), .bin .gtr (.t 24) (.c (.rv (.one (.dat (.val (.int .i64 (60))))))), none⟩,
    ⟨(some 26), .mov (.t 25), none⟩,
    ⟨(some 27), .mov (.t 2), (some (26, false))⟩,
    ⟨(some 28), .len 1 (.t 27), (some (26, false))⟩,
    ⟨(some 29), .mov (.t 1), (some (26, false))⟩,
    ⟨(some 30), .bin .sub (.c (.rv (.one (.dat (.val (.int .i64 (60))))))) (.t 29), (some (26, false))⟩,
    ⟨(some 31), .bin .gtr (.t 28) (.t 30), (some (26, false))⟩,
    ⟨(some 32), .pick (.t 26) (.c (.rv (.one (.dat (.val (.bool true)))))) (.t 31), none⟩,
    ⟨(some 23), .mov (.t 32), none⟩]) (.cond (.t 23) (.seq (.reg [
    ⟨(some 33), .build [(.dat (.val (.int .i64 (0)))), .esl, .esl, (.dat (.val (.string ⟨#[]⟩))), (.dat (.val (.int .i64 (0)))), .esl, (.dat (.val (.int .i64 (0)))), (.dat (.val (.int .i64 (0)))), (.dat (.val (.int .i64 (0))))] [], none⟩,
    ⟨none, .store 9 (.t 6) (.t 33), none⟩,
    ⟨(some 7), .mov (.c (.rv (.one (.dat (.val (.int .i64 (15))))))), none⟩]) .ret) .skip))))))))) (.seq (.reg [
    ⟨(some 34), .load true 9 (.t 3), none⟩,
    ⟨(some 35), .bsl 9 [(.dat (.val (.int .i64 (0)))), .esl, .esl, (.dat (.val (.string ⟨#[]⟩))), (.dat (.val (.int .i64 (0)))), .esl, (.dat (.val (.int .i64 (0)))), (.dat (.val (.int .i64 (0)))), (.dat (.val (.int .i64 (0))))] 1 [(0, (.t 34))], none⟩,
    ⟨(some 36), .call (.c (.rv (.one (.fn 8 [])))) [(.t 35)], none⟩,
    ⟨(some 37), .idx 9 (.t 36) (.c (.rv (.one (.dat (.val (.int .i64 (0))))))), none⟩,
    ⟨(some 38), .load true 9 (.t 37), none⟩,
    ⟨(some 8), .alloc [(.dat (.val (.int .i64 (0)))), .esl, .esl, (.dat (.val (.string ⟨#[]⟩))), (.dat (.val (.int .i64 (0)))), .esl, (.dat (.val (.int .i64 (0)))), (.dat (.val (.int .i64 (0)))), (.dat (.val (.int .i64 (0))))], none⟩,
    ⟨none, .store 9 (.t 8) (.t 38), none⟩]) (.seq (.block 1 (.loop (.seq (.seq (.reg [
    ⟨(some 39), .fadr 1 (.t 8), none⟩,
    ⟨(some 40), .load false 1 (.t 39), none⟩,
    ⟨(some 41), .len 1 (.t 40), none⟩,
    ⟨(some 42), .mov (.t 1), none⟩,
    ⟨(some 43), .mov (.t 2), none⟩,
    ⟨(some 44), .len 1 (.t 43), none⟩,
    ⟨(some 45), .bin .add (.t 42) (.t 44), none⟩,
    ⟨(some 46), .bin .lss (.t 41) (.t 45), none⟩,
    ⟨(some 47), .mov (.t 46), none⟩,
    ⟨(some 48), .mov (.t 2), (some (47, true))⟩,
    ⟨(some 49), .len 1 (.t 48), (some (47, true))⟩,
    ⟨(some 50), .bin .gtr (.t 49) (.c (.rv (.one (.dat (.val (.int .i64 (0))))))), (some (47, true))⟩,
    ⟨(some 51), .pick (.t 47) (.t 50) (.c (.rv (.one (.dat (.val (.bool false)))))), none⟩]) (.cond (.t 51) .skip (.exit 1))) (.block 2 (.reg [
    ⟨(some 52), .fadr 1 (.t 8), none⟩,
    ⟨(some 53), .load false 1 (.t 52), none⟩,
    ⟨(some 54), .bsl 1 [(.dat (.val (.int .u8 (0))))] 1 [(0, (.c (.rv (.one (.dat (.val (.int .u8 (0))))))))], none⟩,
    ⟨(some 55), .app 1 1 (.t 53) (.t 54), none⟩,
    ⟨(some 56), .fadr 1 (.t 8), none⟩,
    ⟨none, .store 1 (.t 56) (.t 55), none⟩]))))) (.ghost (.seq (.reg [
    ⟨(some 57), .fadr 1 (.t 8), none⟩,
    ⟨(some 58), .load false 1 (.t 57), none⟩,
    ⟨(some 59), .mov (.t 1), none⟩,
    ⟨(some 60), .fadr 1 (.t 8), none⟩,
    ⟨(some 61), .load false 1 (.t 60), none⟩,
    ⟨(some 62), .len 1 (.t 61), none⟩,
    ⟨(some 63), .minmax false [(.t 59), (.t 62)], none⟩,
    ⟨(some 64), .slc 1 (.t 58) (some (.t 63)) none none, none⟩,
    ⟨(some 65), .mov (.t 2), none⟩,
    ⟨(some 66), .copy 1 (.t 64) (.t 65), none⟩]) (.seq (.reg [
    ⟨(some 67), .load true 9 (.t 8), none⟩,
    ⟨none, .store 9 (.t 6) (.t 67), none⟩,
    ⟨(some 7), .mov (.c (.rv (.one (.dat (.val (.int .i64 (0))))))), none⟩]) .ret)))))))⟩
/-! store.Write -/
theorem l20 : lowF Try.prog Try.f20 = some c20.er := by kernel_rfl
def zb : List Dt := [.val (.int .u8 0)]
def wpad (d : List (List Dt)) (n : Nat) : List (List Dt) := d ++ List.replicate (n - d.length) zb
def wdata (d : List (List Dt)) (A : Nat) (b : List (List Dt)) : List (List Dt) := if b.length = 0 then d else splice (wpad d (A + b.length)) A b
def nilO : Obj := ⟨0, [], [], ⟨#[]⟩, 0, [], 0, 0, 0⟩
def objR (o : Obj) : RV := .agg (o.enc.map .dat)
def writeS (o : Obj) (at' : Int) (b : List (List Dt)) : Obj × Int :=
  if o.kind = 2 then (nilO, 12) else if o.kind ≠ 1 then (nilO, 8) else if at' < 0 then (nilO, 3) else if at' > 60 ∨ (b.length : Int) > 60 - at' then (nilO, 15)
  else ({ o with data := wdata o.data at'.toNat b }, 0)
def zero9 : List CC := [.dat (.val (.int .i64 0)), .esl, .esl, .dat (.val (.string ⟨#[]⟩)), .dat (.val (.int .i64 0)), .esl, .dat (.val (.int .i64 0)), .dat (.val (.int .i64 0)), .dat (.val (.int .i64 0))]
theorem nilO_frz {m : Mem} : FrzR m (.agg zero9) (objR nilO) := by
  refine .agg rfl fun i c c' h1 h2 => ?_
  match i, h1, h2 with
  | 0, h1, h2 => cases h1; cases h2; exact .dat _
  | 1, h1, h2 => cases h1; cases h2; exact .esl 1
  | 2, h1, h2 => cases h1; cases h2; exact .esl 2
  | 3, h1, h2 => cases h1; cases h2; exact .dat _
  | 4, h1, h2 => cases h1; cases h2; exact .dat _
  | 5, h1, h2 => cases h1; cases h2; exact .esl 4
  | 6, h1, h2 => cases h1; cases h2; exact .dat _
  | 7, h1, h2 => cases h1; cases h2; exact .dat _
  | 8, h1, h2 => cases h1; cases h2; exact .dat _
  | n + 9, h1, h2 => simp [zero9] at h1
theorem rowF_frz {m : Mem} {Q : Nat} {o : Obj} {D : List (List Dt)} (h : m[Q]? = some (.row 1 (dRows D))) : FrzR m (.agg (rowF Q o)) (objR { o with data := D }) := by
  refine .agg rfl fun i c c' h1 h2 => ?_
  match i, h1, h2 with
  | 0, h1, h2 => cases h1; cases h2; exact .dat _
  | 1, h1, h2 => cases h1; cases h2; exact FrzC.rowD h 0 none
  | 2, h1, h2 => cases h1; cases h2; exact .dat _
  | 3, h1, h2 => cases h1; cases h2; exact .dat _
  | 4, h1, h2 => cases h1; cases h2; exact .dat _
  | 5, h1, h2 => cases h1; cases h2; exact .dat _
  | 6, h1, h2 => cases h1; cases h2; exact .dat _
  | 7, h1, h2 => cases h1; cases h2; exact .dat _
  | 8, h1, h2 => cases h1; cases h2; exact .dat _
  | n + 9, h1, h2 => simp [rowF] at h1
theorem dRows_length (d : List (List Dt)) : (dRows d).length = d.length := by simp [dRows]
theorem dRows_splice (D b : List (List Dt)) (A : Nat) : splice (dRows D) A (dRows b) = dRows (splice D A b) := by
  simp [splice, dRows, List.map_take, List.map_drop]
theorem addN0 (x : Nat) : addN 0 x = x := by simp [addN]
def fstW : LC → LC
  | .seq a _ => a
  | x => x
def sndW : LC → LC
  | .seq _ b => b
  | x => x
def unW : LC → LC
  | .ghost a => a
  | x => x
def C57 : LC := sndW (sndW (sndW (sndW c20.code)))
def G57 : LC := unW C57
set_option maxRecDepth 100000 in
set_option maxHeartbeats 16000000 in
theorem seg57 (o : Obj) (D b : List (List Dt)) (A : Nat) (h : b.length ≠ 0 → A + b.length ≤ D.length) :
    aw Try.prog 0 G57 (endK Try.prog c20.res (fun r m => FrzV m r (.tup [objR { o with data := if b.length = 0 then D else splice D A b }, iRV 0])))
      ⟨mkE 68 [(1, vInt .i64 (A : Nat)), (2, slV 1 b), (6, .rv (.one (.ptr 0 0))), (8, .rv (.one (.ptr 2 0)))], [.var zero9, .row 1 (dRows D), .var (rowF 1 o)]⟩ := by
  have hm := minN_le A D.length
  have hmi : natX (vInt .i64 (if ((lenOf (dRows D).length 0 none : Nat) : Int) < (A : Int) then ((lenOf (dRows D).length 0 none : Nat) : Int) else (A : Int))) = some (minN A D.length) := by
    have e : lenOf (dRows D).length 0 none = D.length := dRows_length D
    rw [e, minN_int]; rfl
  refine ok_some hmi ?_
  refine bB_yes (by show (Nat.ble (minN A D.length) (dRows D).length && Nat.ble (dRows D).length ((dRows D).length - 0)) = true; rw [dRows_length]; simp [Nat.ble_eq]; omega) ?_
  by_cases hb : b.length = 0
  · rw [if_pos hb]
    refine bB_yes (by show Nat.beq (dRows b).length 0 = true; rw [dRows_length, hb]; rfl) ?_
    exact frz2 (rowF_frz rfl)
  · rw [if_neg hb]
    have hle := h hb
    have hmA : minN A D.length = A := by unfold minN; rw [if_neg (by omega)]
    rw [hmA]
    refine bB_no (by show Nat.beq (dRows b).length 0 = false; rw [dRows_length]; exact Bool.eq_false_iff.2 fun hh => hb (Nat.eq_of_beq_eq_true hh)) ?_
    refine bB_yes (by
      have e1 := addN0 A
      show (Nat.beq 1 1 && (Nat.beq 1 1 && (Nat.ble (addN 0 (dRows D).length) (dRows D).length && (Nat.ble (addN 0 A + (dRows b).length) (addN 0 (dRows D).length) && noOwnRows (dRows b))))) = true
      rw [noOwnRows_dRows, e1, dRows_length, dRows_length, addN0 D.length]
      simp [Nat.ble_eq]; omega) ?_
    refine frz2 (rowF_frz ?_)
    show some (Bk.row 1 (splice (dRows D) (addN 0 A) (dRows b))) = _
    rw [addN0 A, dRows_splice]
set_option maxRecDepth 100000 in
set_option maxHeartbeats 16000000 in
theorem write_body (o : Obj) (hf : o.fit) (at' : Int) (b : List (List Dt)) (hb : b.length ≤ 4194304) : body Try.prog c20 [o.cv, vInt .i64 at', slV 1 b] [] (fun r m => FrzV m r (.tup [objR (writeS o at' b).1, iRV (writeS o at' b).2])) := by
  refine bB_beq (fun h1 => ?_) (fun h1 => ?_)
  · have h1 : o.kind = 2 := h1
    rw [writeS, if_pos h1]
    exact frz2 nilO_frz
  have h1 : ¬ o.kind = 2 := h1
  refine bB_bne (fun h2 => ?_) (fun h2 => ?_)
  · have h2 : o.kind ≠ 1 := h2
    rw [writeS, if_neg h1, if_pos h2]
    exact frz2 nilO_frz
  have h2 : ¬ o.kind ≠ 1 := by simpa using h2
  refine bB_dec (fun h3 => ?_) (fun h3 => ?_)
  · rw [writeS, if_neg h1, if_neg h2, if_pos h3]
    exact frz2 nilO_frz
  have h3 : ¬ at' < 0 := h3
  refine bB_dec (fun h4 => ?_) (fun h4 => ?_)
  · rw [writeS, if_neg h1, if_neg h2, if_neg h3, if_pos (.inl h4)]
    exact frz2 nilO_frz
  have h4 : ¬ at' > 60 := h4
  have hw : IntKind.i64.wrap (60 - at') = 60 - at' := by
    obtain ⟨z, hz⟩ : ∃ z : Nat, 60 - at' = (z : Int) := ⟨(60 - at').toNat, by omega⟩
    rw [hz, wrapN (by omega)]
  refine bB_dec (fun h5 => ?_) (fun h5 => ?_)
  · have h5 : (b.length : Int) > IntKind.i64.wrap (60 - at') := h5
    rw [hw] at h5
    rw [writeS, if_neg h1, if_neg h2, if_neg h3, if_pos (.inr h5)]
    exact frz2 nilO_frz
  have h5 : ¬ (b.length : Int) > IntKind.i64.wrap (60 - at') := h5
  rw [hw] at h5
  rw [writeS, if_neg h1, if_neg h2, if_neg h3, if_neg (fun h => h.elim h4 h5)]
  obtain ⟨A, rfl⟩ : ∃ A : Nat, at' = A := ⟨at'.toNat, by omega⟩
  rw [show ((A : Nat) : Int).toNat = A from rfl]
  have hdl := hf.1
  refine acall_pre (args' := [objsV [o]]) (m' := [.var (o.enc.map .dat), .var zero9, .dead]) (View.of 3 [0, 1, 2] [2] rfl rfl rfl rfl rfl rfl (.put (.rv (.one (.frz (FrzD.rowD (Z := fun k => memN [2] k = true) (ds := [o.enc]) rfl rfl 0 none)))) .nil)
    (.put (notF rfl) rfl (.eq rfl (by simp)) (.put (notF rfl) rfl (.eq rfl (by simp)) (.dead (.nil _))))) ?_
  refine own1_ok o hf ?_
  obtain ⟨N, hN⟩ : ∃ N : Nat, N = if b.length = 0 then 0 else A + b.length - o.data.length := ⟨_, rfl⟩
  have hN0 : b.length = 0 → N = 0 := fun h0 => by rw [hN, if_pos h0]
  have hN1 : b.length ≠ 0 → N = A + b.length - o.data.length := fun h0 => by rw [hN, if_neg h0]
  have hNle : N ≤ A + b.length - o.data.length := by
    by_cases h0 : b.length = 0
    · rw [hN0 h0]; exact Nat.zero_le _
    · rw [hN1 h0]; exact Nat.le_refl _
  clear hN
  have hpad : ∀ j, j ≤ N → (o.data ++ List.replicate j zb).length = o.data.length + j := fun j _ => by simp
  have hwA : IntKind.i64.wrap ((A : Int) + (b.length : Int)) = ((A + b.length : Nat) : Int) := by
    rw [show (A : Int) + (b.length : Int) = ((A + b.length : Nat) : Int) by omega, wrapN (by omega)]
  refine loop_keep (fun j => j ≤ N) [1, 2] (fun j => [(6, .rv (.one (.ptr 0 0))), (8, .rv (.one (.ptr 2 0)))]) (fun j => [.var zero9, .row 1 (dRows (o.data ++ List.replicate j zb)), .var (rowF 1 o)]) (fun j => N - j) 0 (Nat.zero_le _) ?_ (fun j hj => ?_)
  · refine View.of 6 [1, 4, 5] [] rfl rfl rfl rfl rfl rfl ?_ ?_
    · repeat (first | exact .nil | refine .junk ?_ | refine .eq rfl ?_)
    · exact .put (notF rfl) rfl (.eq rfl (by simp)) (.put (notF rfl) rfl (.rowDE (by simp)) (.put (notF rfl) rfl (.eq rfl (by simp)) (.nil _)))
  have hj : j ≤ N := hj
  have hlen : lenOf (dRows (o.data ++ List.replicate j zb)).length 0 none = o.data.length + j := by
    show (dRows (o.data ++ List.replicate j zb)).length = _
    rw [dRows_length, hpad j hj]
  have fin : ∀ (D : List (List Dt)), D = o.data ++ List.replicate j zb → (b.length ≠ 0 → A + b.length ≤ o.data.length + j) → aw Try.prog 0 G57 (endK Try.prog c20.res (fun r m => FrzV m r (.tup [objR { o with data := wdata o.data A b }, iRV 0])))
      ⟨mkE 68 [(1, vInt .i64 (A : Nat)), (2, slV 1 b), (6, .rv (.one (.ptr 0 0))), (8, .rv (.one (.ptr 2 0)))], [.var zero9, .row 1 (dRows D), .var (rowF 1 o)]⟩ := fun D hD hh => by
    have hs := seg57 o D b A (fun h0 => by rw [hD, hpad j hj]; exact hh h0)
    have e : wdata o.data A b = if b.length = 0 then D else splice D A b := by
      unfold wdata
      by_cases h0 : b.length = 0
      · rw [if_pos h0, if_pos h0, hD]
        have := hN0 h0
        have ej : j = 0 := by omega
        rw [ej]; simp
      · rw [if_neg h0, if_neg h0, hD]
        have := hh h0
        have ej : j = A + b.length - o.data.length := by omega
        rw [wpad, ej]
    rw [e]
    exact hs
  have out : ∀ e, EnvVw (sg [0, 1, 2] 3) [.var zero9, .row 1 (dRows (o.data ++ List.replicate j zb)), .var (rowF 1 o)] (fun k => memN [] k = true) e (mkE 68 [(1, vInt .i64 (A : Nat)), (2, slV 1 b), (6, .rv (.one (.ptr 0 0))), (8, .rv (.one (.ptr 2 0)))]) →
      View 0 ⟨e, [.var zero9, .row 1 (dRows (o.data ++ List.replicate j zb)), .var (rowF 1 o)]⟩ ⟨mkE 68 [(1, vInt .i64 (A : Nat)), (2, slV 1 b), (6, .rv (.one (.ptr 0 0))), (8, .rv (.one (.ptr 2 0)))], [.var zero9, .row 1 (dRows (o.data ++ List.replicate j zb)), .var (rowF 1 o)]⟩ := fun e he =>
    View.of 3 [0, 1, 2] [] rfl rfl rfl rfl rfl rfl he (.put (notF rfl) rfl (.eq rfl (by simp)) (.put (notF rfl) rfl (.rowDE rfl) (.put (notF rfl) rfl (.eq rfl (by simp)) (.nil _))))
  refine bB_dec (fun h6 => ?_) (fun h6 => ?_)
  · have h6 : ((lenOf (dRows (o.data ++ List.replicate j zb)).length 0 none : Nat) : Int) < IntKind.i64.wrap ((A : Int) + (b.length : Int)) := h6
    rw [hlen, hwA] at h6
    refine bB_dec (fun h7 => ?_) (fun h7 => ?_)
    · have h7 : (b.length : Int) > 0 := h7
      have := hN1 (by omega)
      refine ⟨by simp only [subL, dRows_length, List.length_cons, List.length_nil, hpad j hj]; omega, ?_⟩
      refine ⟨j + 1, (show j + 1 ≤ N by omega), (show N - (j + 1) < N - j by omega), View.of 5 [0, 4, 2] [] rfl rfl rfl rfl rfl rfl ?_ ?_⟩
      · repeat (first | exact .nil | refine .junk ?_ | refine .eq rfl ?_)
      · refine .put (notF rfl) rfl (.eq rfl (by simp)) (.put (notF rfl) rfl (.rowDE ?_) (.put (notF rfl) rfl (.eq rfl (by simp)) (.nil _)))
        rw [List.replicate_succ']
        simp [subL, dRows, zb]
    · have h7 : ¬ (b.length : Int) > 0 := h7
      refine ⟨_, out _ ?_, fin _ rfl (fun h0 => by omega)⟩
      repeat (first | exact .nil | refine .junk ?_ | refine .eq rfl ?_)
  · have h6 : ¬ ((lenOf (dRows (o.data ++ List.replicate j zb)).length 0 none : Nat) : Int) < IntKind.i64.wrap ((A : Int) + (b.length : Int)) := h6
    rw [hlen, hwA] at h6
    refine ⟨_, out _ ?_, fin _ rfl (fun h0 => by omega)⟩
    repeat (first | exact .nil | refine .junk ?_ | refine .eq rfl ?_)
set_option maxRecDepth 100000 in
theorem write_ok (o : Obj) (hf : o.fit) (at' : Int) (b : List (List Dt)) (hb : b.length ≤ 4194304) {m : Mem} {K : CV → Mem → Prop} (h : K (.tup [objR (writeS o at' b).1, iRV (writeS o at' b).2]) m) : ACall Try.prog 20 [o.cv, vInt .i64 at', slV 1 b] m K :=
  acall_frame (acall_body_g Try.func20 l20 rfl (Nat.le_of_ble_eq_true rfl) (write_body o hf at' b hb)) (by simp [Obj.cv, Obj.enc, slV, vInt, CV.isD, CC.isD, RV.isD]) fun r m1 hf => ⟨_, hf, h⟩

/-! store.Own, the entries of one object a block -/
def rowE (p Q k : Nat) (o : Obj) : List CC := [.dat (.val (.int .i64 o.kind)), .dat (.sl 1 o.data), (if k = p then .row Q 2 0 none else .dat (.sl 2 o.entries)), .dat (.val (.string o.target)), .dat (.val (.int .i64 o.peer)),
  .dat (.sl 4 (o.queue.map Msg.enc)), .dat (.val (.int .i64 o.proc)), .dat (.val (.int .i64 o.links)), .dat (.val (.int .i64 o.up))]
def rowsE (p Q : Nat) : Nat → List Obj → List (List CC)
  | _, [] => []
  | k, o :: r => rowE p Q k o :: rowsE p Q (k + 1) r
theorem rowsE_append (p Q : Nat) : ∀ (a : List Obj) (k : Nat) (b : List Obj), rowsE p Q k (a ++ b) = rowsE p Q k a ++ rowsE p Q (k + a.length) b
  | [], k, b => rfl
  | o :: r, k, b => by simp [rowsE, rowsE_append p Q r (k + 1) b, Nat.add_assoc, Nat.add_comm 1]
theorem rowsE_len (p Q : Nat) : ∀ (l : List Obj) (k : Nat), (rowsE p Q k l).length = l.length
  | [], _ => rfl
  | o :: r, k => by simp [rowsE, rowsE_len p Q r (k + 1)]
theorem rowsE_none (p Q : Nat) : ∀ (l : List Obj) (k : Nat), (p < k ∨ k + l.length ≤ p) → rowsE p Q k l = dRows (l.map Obj.enc)
  | [], _, _ => rfl
  | o :: r, k, h => by
    simp only [List.length_cons] at h
    have hk : ¬ k = p := by omega
    simp only [rowsE, rowE, if_neg hk, rowsE_none p Q r (k + 1) (by omega)]
    rfl
theorem rowsE_get (p Q : Nat) : ∀ (l : List Obj) (k i : Nat), (rowsE p Q k l)[i]? = (l[i]?).map (rowE p Q (k + i))
  | [], k, i => by simp [rowsE]
  | o :: r, k, 0 => by simp [rowsE]
  | o :: r, k, i + 1 => by
    simp only [rowsE, List.getElem?_cons_succ, rowsE_get p Q r (k + 1) i]
    rw [show k + 1 + i = k + (i + 1) by omega]
theorem rowE_ren {σ : Nat → Nat} {p Q k : Nat} (o : Obj) : (rowE p Q k o).map (CC.ren σ) = rowE p (σ Q) k o := by
  by_cases h : k = p <;> simp [rowE, h, CC.ren]
theorem rowsE_ren {σ : Nat → Nat} (p Q : Nat) : ∀ (l : List Obj) (k : Nat), (rowsE p Q k l).map (fun cs => cs.map (CC.ren σ)) = rowsE p (σ Q) k l
  | [], _ => rfl
  | o :: r, k => by
    simp only [rowsE, List.map_cons, rowsE_ren p Q r (k + 1)]
    rw [rowE_ren]
set_option maxRecDepth 100000 in
theorem ecloneR_body (d : List (List Dt)) (hb : d.length ≤ 4194304) : body Try.prog c30 [slV 2 d] [] (fun r m => ∃ r' m', View 0 ⟨[r], m⟩ ⟨[r'], m'⟩ ∧ r' = .rv (.one (.row 0 2 0 none)) ∧ m' = [.row 2 (dRows d)]) := by
  have big : ((([] : List (List CC)).length + (d.map fun ds => ds.map CC.dat).length) * 24) ≤ 140737488355328 := by simp; omega
  have fin : ∃ r' m', View 0 ⟨[CV.rv (.one (.row 1 2 0 none))], [.dead, .row 2 (subL ([] : List (List CC)) 0 none ++ d.map fun ds => ds.map CC.dat)]⟩ ⟨[r'], m'⟩ ∧ r' = CV.rv (.one (.row 0 2 0 none)) ∧ m' = [Bk.row 2 (dRows d)] :=
    ⟨_, _, View.of 2 [1] [] rfl rfl rfl rfl rfl rfl (.eq rfl .nil) (.put (notF rfl) rfl (.rowDE rfl) (.nil _)), rfl, rfl⟩
  refine bB_split (fun h => ?_) (fun h => ?_)
  · have hd : d = [] := List.eq_nil_of_length_eq_zero (by simpa using Nat.eq_of_beq_eq_true h)
    refine ⟨?_, big, fin⟩
    subst hd
    exact ⟨_, _, View.esl 0 2 0 rfl rfl rfl, rfl, rfl⟩
  · exact ⟨big, fin⟩
set_option maxRecDepth 100000 in
theorem ecloneR_ok (d : List (List Dt)) (hb : d.length ≤ 4194304) {m : Mem} {K : CV → Mem → Prop} (h : K (.rv (.one (.row m.length 2 0 none))) (m ++ [.row 2 (dRows d)])) : ACall Try.prog 30 [slV 2 d] m K := by
  refine acall_borrow [] m.length rfl rfl rfl rfl (args0 := [slV 2 d]) rfl (fun i b' hi => by simp at hi) (K0 := fun r m => r = .rv (.one (.row 0 2 0 none)) ∧ m = [.row 2 (dRows d)]) (acall_view (acall_body Try.func30 l30 rfl (Nat.le_of_ble_eq_true rfl) (ecloneR_body d hb)) fun r m1 h => h) (fun r m1 hr => ?_)
  obtain ⟨rfl, rfl⟩ := hr
  refine ⟨Nat.zero_le _, ?_⟩
  show K (.rv (.one (.row (m.length + (0 - 0)) 2 0 none))) (app2 m [.row 2 ((dRows d).map (fun cs => cs.map (CC.ren (sg [] m.length))))])
  rw [dRows_ren1, app2_eq]
  exact h
def ebO (l : List Obj) (p k : Nat) : Bk := match Nat.blt p k with | true => .row 2 (dRows (match l[p]? with | some o => o.entries | none => [])) | false => .dead
theorem ebO_ren {σ : Nat → Nat} (l : List Obj) (p k : Nat) : (ebO l p k).ren σ = ebO l p k := by
  unfold ebO
  split
  · exact Bk.ren_dRows _ _
  · rfl
theorem rowsE_take {p Q : Nat} {l : List Obj} {k : Nat} {o : Obj} (h : l[k]? = some o) : rowsE p Q 0 (l.take (k + 1)) = rowsE p Q 0 (l.take k) ++ [rowE p Q k o] := by
  have hk := (List.getElem?_eq_some_iff.1 h).1
  rw [takeO h, rowsE_append, List.length_take, Nat.min_eq_left (by omega), Nat.zero_add]
  rfl
set_option maxRecDepth 100000 in
set_option maxHeartbeats 16000000 in
/-- Own, the entries of one object a block -/
theorem ownE_body (l : List Obj) (hf : fitL l) (p : Nat) : body Try.prog c8 [objsV l] [] (fun r m => r = .rv (.one (.row 0 9 0 none)) ∧ m = [.row 9 (rowsE p 1 0 l), ebO l p l.length]) := by
  obtain ⟨hl, hfo⟩ := hf
  refine loop_keep (fun k => k ≤ l.length) [0, 9, 10] (fun k => [(11, vInt .i64 (k : Nat)), (3, .rv (.one (.row 0 9 0 none)))]) (fun k => [.row 9 (rowsE p 1 0 (l.take k)), ebO l p k]) (fun k => l.length - k) 0 (Nat.zero_le _) ?_ (fun k hk => ?_)
  · refine View.trans (View.esl 2 4 0 rfl rfl rfl) (View.trans (View.esl 3 9 1 rfl rfl rfl) (View.of 2 [1, 0] [] rfl rfl rfl rfl rfl rfl ?_ ?_))
    · repeat (first | exact .nil | refine .junk ?_ | refine .eq rfl ?_)
    · exact .put (by simp [memN]) rfl (.eq rfl (by simp)) (.dead (.nil _))
  · refine bB_dec (fun h => ?_) (fun h => ?_)
    · have hlt : k < l.length := by
        have h : (k : Int) < ((l.map Obj.enc).length : Int) := h
        rw [List.length_map] at h
        omega
      have hi := List.getElem?_eq_getElem hlt
      have hof := hfo _ (List.getElem_mem hlt)
      have hg : getZ (l.map Obj.enc) (k : Nat) = some (l[k].enc) := by
        rw [getZ_nat, List.getElem?_map, List.getElem?_eq_getElem hlt]; rfl
      generalize l[k] = o at hi hof hg
      obtain ⟨kind, data, entries, target, peer, queue, proc, links, up⟩ := o
      obtain ⟨hf1, hf2, hf3, hf4⟩ := hof
      have hf1 : data.length ≤ 4194304 := hf1
      have hf2 : entries.length ≤ 4194304 := hf2
      have hf3 : queue.length ≤ 4194304 := hf3
      have hf4 : ∀ q, q ∈ queue → q.data.length ≤ 4194304 := hf4
      have hg : getZ (l.map Obj.enc) (k : Nat) = some [.val (.int .i64 kind), .sl 1 data, .sl 2 entries, .val (.string target), .val (.int .i64 peer), .sl 4 (queue.map Msg.enc), .val (.int .i64 proc), .val (.int .i64 links), .val (.int .i64 up)] := hg
      refine ok_some hg ?_
      refine bclone_ok data hf1 ?_
      refine ⟨⟨rfl, trivial⟩, ?_⟩
      by_cases hkp : k = p
      · subst hkp
        refine ecloneR_ok entries hf2 ?_
        refine ⟨trivial, ?_⟩
        refine ⟨trivial, ?_⟩
        refine ⟨trivial, ?_⟩
        have hR : ∀ Q, rowsE k Q 0 (l.take k) = dRows ((l.take k).map Obj.enc) := fun Q => rowsE_none k Q _ 0 (.inr (by simp; omega))
        have hd : ebO l k k = .dead := by
          have : Nat.blt k k = false := Bool.eq_false_iff.2 fun h => by rw [Nat.blt_eq] at h; omega
          simp only [ebO, this]
        rw [hd, hR]
        refine loop_keep (fun j => j ≤ queue.length) [0, 3, 5, 9, 10, 11, 24, 25] (fun j => [(26, vInt .i64 (j : Nat)), (6, .rv (.one (.row 4 4 0 none)))])
          (fun j => [.row 9 (dRows ((l.take k).map Obj.enc)), .dead, .var [.dat (.val (.int .i64 kind)), .dat (.sl 1 data), .row 3 2 0 none, .dat (.val (.string target)), .dat (.val (.int .i64 peer)), .dat (.sl 4 (queue.map Msg.enc)), .dat (.val (.int .i64 proc)), .dat (.val (.int .i64 links)), .dat (.val (.int .i64 up))], .row 2 (dRows entries), .row 4 (dRows ((queue.take j).map Msg.enc))]) (fun j => queue.length - j) 0 (Nat.zero_le _) ?_ (fun j hj => ?_)
        · refine View.trans (View.esl 6 4 4 rfl rfl rfl) (View.of 5 [0, 1, 2, 3, 4] [] rfl rfl rfl rfl rfl rfl ?_ ?_)
          · repeat (first | exact .nil | refine .junk ?_ | refine .eq rfl ?_)
          · exact .put (notF rfl) rfl (.rowDE rfl) (.dead (.put (notF rfl) rfl (.eq rfl (by simp)) (.put (notF rfl) rfl (.rowDE rfl) (.put (notF rfl) rfl (.rowDE rfl) (.nil _)))))
        · have hj : j ≤ queue.length := hj
          refine bB_dec (fun h => ?_) (fun h => ?_)
          · have hjlt : j < queue.length := by
              have h : (j : Int) < ((queue.map Msg.enc).length : Int) := h
              rw [List.length_map] at h
              omega
            have hqi := List.getElem?_eq_getElem hjlt
            have hqf := hf4 _ (List.getElem_mem hjlt)
            generalize queue[j] = q at hqi hqf
            obtain ⟨qd, qh, qo, qr⟩ := q
            have hg2 : getZ (queue.map Msg.enc) (j : Nat) = some [.sl 1 qd, .val (.bool qh), .val (.int .i64 qo), .val (.int .i64 qr)] := by
              rw [getZ_nat, List.getElem?_map, hqi]; rfl
            refine ok_some hg2 ?_
            refine bclone_ok qd hqf ?_
            refine ⟨?_, ?_⟩
            · show ((dRows ((queue.take j).map Msg.enc)).length + 1) * 48 ≤ _
              simp [dRows]; omega
            refine ⟨j + 1, hjlt, (show queue.length - (j + 1) < queue.length - j by omega), View.of 8 [0, 1, 2, 3, 7] [] rfl rfl rfl rfl rfl rfl ?_ ?_⟩
            · repeat (first | exact .nil | refine .junk ?_ | refine .put (.ren (next_i64 (by omega)).symm) ?_ | refine .eq rfl ?_)
            · refine .put (notF rfl) rfl (.rowDE rfl) (.dead (.put (notF rfl) rfl (.eq rfl (by simp)) (.put (notF rfl) rfl (.rowDE rfl) (.put (notF rfl) rfl (.rowDE ?_) (.nil _)))))
              rw [takeO hqi, List.map_append, dRows_append]
              rfl
          · have hge : ¬ (j : Int) < ((queue.map Msg.enc).length : Int) := h
            rw [List.length_map] at hge
            have hq : queue.take j = queue := List.take_of_length_le (by omega)
            refine ⟨?_, ?_⟩
            · show ((dRows ((l.take k).map Obj.enc)).length + 1) * 128 ≤ _
              simp [dRows]; omega
            have hqb : ebO l k (k + 1) = .row 2 (dRows entries) := by
              have : Nat.blt k (k + 1) = true := by rw [Nat.blt_eq]; omega
              simp only [ebO, this, hi]
            refine ⟨k + 1, hlt, (show l.length - (k + 1) < l.length - k by omega), View.of 7 [6, 3] [4] rfl rfl rfl rfl rfl rfl ?_ ?_⟩
            · repeat (first | exact .nil | refine .junk ?_ | refine .put (.ren (next_i64 (by omega)).symm) ?_ | refine .eq rfl ?_)
            · rw [rowsE_take hi, hqb, hR]
              refine .put (notF rfl) rfl (.snoc (dRows_ren1 _ _) rfl ?_) (.put (notF rfl) rfl (.rowDE rfl) (.nil _))
              intro j' c c' h1 h2
              have e5 : rowE k 1 k ⟨kind, data, entries, target, peer, queue, proc, links, up⟩ = [.dat (.val (.int .i64 kind)), .dat (.sl 1 data), .row 1 2 0 none, .dat (.val (.string target)), .dat (.val (.int .i64 peer)), .dat (.sl 4 ((queue.take j).map Msg.enc)), .dat (.val (.int .i64 proc)), .dat (.val (.int .i64 links)), .dat (.val (.int .i64 up))] := by
                simp [rowE, hq]
              rw [e5] at h2
              match j', h1, h2 with
              | 0, h1, h2 => cases h1; cases h2; exact .ren (.dat _)
              | 1, h1, h2 => cases h1; cases h2; exact .ren (.dat _)
              | 2, h1, h2 => cases h1; cases h2; exact .ren (.row 1 2 0 none)
              | 3, h1, h2 => cases h1; cases h2; exact .ren (.dat _)
              | 4, h1, h2 => cases h1; cases h2; exact .ren (.dat _)
              | 5, h1, h2 => cases h1; cases h2; exact .frz (FrzD.rowD (Z := fun k => memN [4] k = true) rfl (by rw [← nth_eq]; rfl) 0 none)
              | 6, h1, h2 => cases h1; cases h2; exact .ren (.dat _)
              | 7, h1, h2 => cases h1; cases h2; exact .ren (.dat _)
              | 8, h1, h2 => cases h1; cases h2; exact .ren (.dat _)
              | n + 9, h1, h2 => simp at h1
      · refine eclone_ok entries hf2 ?_
        refine ⟨trivial, ?_⟩
        refine ⟨trivial, ?_⟩
        refine ⟨trivial, ?_⟩
        refine loop_keep (fun j => j ≤ queue.length) [0, 3, 5, 9, 10, 11, 24, 25] (fun j => [(26, vInt .i64 (j : Nat)), (6, .rv (.one (.row 3 4 0 none)))])
          (fun j => [.row 9 (rowsE p 1 0 (l.take k)), ebO l p k, .var ((⟨kind, data, entries, target, peer, queue, proc, links, up⟩ : Obj).enc.map .dat), .row 4 (dRows ((queue.take j).map Msg.enc))]) (fun j => queue.length - j) 0 (Nat.zero_le _) ?_ (fun j hj => ?_)
        · refine View.trans (View.esl 6 4 3 rfl rfl rfl) (View.of 4 [0, 1, 2, 3] [] rfl rfl rfl rfl rfl rfl ?_ ?_)
          · repeat (first | exact .nil | refine .junk ?_ | refine .eq rfl ?_)
          · exact .put (notF rfl) rfl (.eq (congrArg (Bk.row 9) (rowsE_ren p 1 _ _)) (by simp)) (.keepB (notF rfl) rfl (ebO_ren l p k) (.put (notF rfl) rfl (.eq rfl (by simp)) (.put (notF rfl) rfl (.rowDE rfl) (.nil _))))
        · have hj : j ≤ queue.length := hj
          refine bB_dec (fun h => ?_) (fun h => ?_)
          · have hjlt : j < queue.length := by
              have h : (j : Int) < ((queue.map Msg.enc).length : Int) := h
              rw [List.length_map] at h
              omega
            have hqi := List.getElem?_eq_getElem hjlt
            have hqf := hf4 _ (List.getElem_mem hjlt)
            generalize queue[j] = q at hqi hqf
            obtain ⟨qd, qh, qo, qr⟩ := q
            have hg2 : getZ (queue.map Msg.enc) (j : Nat) = some [.sl 1 qd, .val (.bool qh), .val (.int .i64 qo), .val (.int .i64 qr)] := by
              rw [getZ_nat, List.getElem?_map, hqi]; rfl
            refine ok_some hg2 ?_
            refine bclone_ok qd hqf ?_
            refine ⟨?_, ?_⟩
            · show ((dRows ((queue.take j).map Msg.enc)).length + 1) * 48 ≤ _
              simp [dRows]; omega
            refine ⟨j + 1, hjlt, (show queue.length - (j + 1) < queue.length - j by omega), View.of 7 [0, 1, 2, 6] [] rfl rfl rfl rfl rfl rfl ?_ ?_⟩
            · repeat (first | exact .nil | refine .junk ?_ | refine .put (.ren (next_i64 (by omega)).symm) ?_ | refine .eq rfl ?_)
            · refine .put (notF rfl) rfl (.eq (congrArg (Bk.row 9) (rowsE_ren p 1 _ _)) (by simp)) (.keepB (notF rfl) rfl (ebO_ren l p k) (.put (notF rfl) rfl (.eq rfl (by simp)) (.put (notF rfl) rfl (.rowDE ?_) (.nil _))))
              rw [takeO hqi, List.map_append, dRows_append]
              rfl
          · have hge : ¬ (j : Int) < ((queue.map Msg.enc).length : Int) := h
            rw [List.length_map] at hge
            have hq : queue.take j = queue := List.take_of_length_le (by omega)
            refine ⟨?_, ?_⟩
            · show ((rowsE p 1 0 (l.take k)).length + 1) * 128 ≤ _
              rw [rowsE_len]; simp; omega
            have hqb : ebO l p (k + 1) = ebO l p k := by
              have : Nat.blt p (k + 1) = Nat.blt p k := by
                rw [Bool.eq_iff_iff, Nat.blt_eq, Nat.blt_eq]; omega
              simp only [ebO, this]
            refine ⟨k + 1, hlt, (show l.length - (k + 1) < l.length - k by omega), View.of 6 [5, 1] [3] rfl rfl rfl rfl rfl rfl ?_ ?_⟩
            · repeat (first | exact .nil | refine .junk ?_ | refine .put (.ren (next_i64 (by omega)).symm) ?_ | refine .eq rfl ?_)
            · rw [rowsE_take hi, hqb]
              refine .put (notF rfl) rfl (.snoc (rowsE_ren p 1 _ _) rfl ?_) (.keepB (notF rfl) rfl (ebO_ren l p k) (.nil _))
              intro j' c c' h1 h2
              have e5 : rowE p 1 k ⟨kind, data, entries, target, peer, queue, proc, links, up⟩ = [.dat (.val (.int .i64 kind)), .dat (.sl 1 data), .dat (.sl 2 entries), .dat (.val (.string target)), .dat (.val (.int .i64 peer)), .dat (.sl 4 ((queue.take j).map Msg.enc)), .dat (.val (.int .i64 proc)), .dat (.val (.int .i64 links)), .dat (.val (.int .i64 up))] := by
                simp [rowE, hkp, hq]
              rw [e5] at h2
              match j', h1, h2 with
              | 0, h1, h2 => cases h1; cases h2; exact .ren (.dat _)
              | 1, h1, h2 => cases h1; cases h2; exact .ren (.dat _)
              | 2, h1, h2 => cases h1; cases h2; exact .ren (.dat _)
              | 3, h1, h2 => cases h1; cases h2; exact .ren (.dat _)
              | 4, h1, h2 => cases h1; cases h2; exact .ren (.dat _)
              | 5, h1, h2 => cases h1; cases h2; exact .frz (FrzD.rowD (Z := fun k => memN [3] k = true) rfl (by rw [← nth_eq]; rfl) 0 none)
              | 6, h1, h2 => cases h1; cases h2; exact .ren (.dat _)
              | 7, h1, h2 => cases h1; cases h2; exact .ren (.dat _)
              | 8, h1, h2 => cases h1; cases h2; exact .ren (.dat _)
              | n + 9, h1, h2 => simp at h1
    · have hge : ¬ (k : Int) < ((l.map Obj.enc).length : Int) := h
      rw [List.length_map] at hge
      have hkl : k = l.length := by
        have : k ≤ l.length := hk
        omega
      subst hkl
      rw [List.take_length]
      exact ⟨rfl, rfl⟩
set_option maxRecDepth 100000 in
theorem ownE_ok (l : List Obj) (hf : fitL l) (p : Nat) {m : Mem} {K : CV → Mem → Prop} (h : K (.rv (.one (.row m.length 9 0 none))) (m ++ [.row 9 (rowsE p (m.length + 1) 0 l), ebO l p l.length])) : ACall Try.prog 8 [objsV l] m K := by
  refine acall_borrow [] m.length rfl rfl rfl rfl rfl (fun i b' hi => by simp at hi) (acall_body Try.func8 l8 rfl (Nat.le_of_ble_eq_true rfl) (ownE_body l hf p)) (fun r m1 hr => ?_)
  obtain ⟨h1, h2⟩ := hr
  subst h1
  subst h2
  refine ⟨Nat.zero_le _, ?_⟩
  show K (.rv (.one (.row (m.length + (0 - 0)) 9 0 none))) (app2 m [.row 9 ((rowsE p 1 0 l).map (fun cs => cs.map (CC.ren (sg [] m.length)))), (ebO l p l.length).ren (sg [] m.length)])
  rw [rowsE_ren, ebO_ren, app2_eq]
  exact h

def c10 : LF := ⟨46, [.tmp 6], (.seq (.reg [
    ⟨(some 6), .mov (.c (.rv (.one (.dat (.val (.int .i64 (0))))))), none⟩]) (.seq (.seq (.reg [
    ⟨(some 9), .mov (.t 1), none⟩,
    ⟨(some 10), .bin .lss (.t 9) (.c (.rv (.one (.dat (.val (.int .i64 (0))))))), none⟩,
    ⟨(some 11), .mov (.t 10), none⟩,
    ⟨(some 12), .mov (.t 1), (some (11, false))⟩,
    ⟨(some 13), .mov (.t 0), (some (11, false))⟩,
    ⟨(some 14), .len 1 (.t 13), (some (11, false))⟩,
    ⟨(some 15), .bin .geq (.t 12) (.t 14), (some (11, false))⟩,
    ⟨(some 16), .pick (.t 11) (.c (.rv (.one (.dat (.val (.bool true)))))) (.t 15), none⟩,
    ⟨(some 17), .mov (.t 16), none⟩,
    ⟨(some 18), .mov (.t 0), (some (17, false))⟩,
    ⟨(some 19), .mov (.t 1), (some (17, false))⟩,
    ⟨(some 20), .idx 9 (.t 18) (.t 19), (some (17, false))⟩,
    ⟨(some 21), .fadr 0 (.t 20), (some (17, false))⟩,
    ⟨(some 22), .load false 1 (.t 21), (some (17, false))⟩,
    ⟨(some 23), .bin .neq (.t 22) (.c (.rv (.one (.dat (.val (.int .i64 (2))))))), (some (17, false))⟩,
    ⟨(some 24), .pick (.t 17) (.c (.rv (.one (.dat (.val (.bool true)))))) (.t 23), none⟩]) (.cond (.t 24) (.seq (.reg [
    ⟨(some 6), .mov (.c (.rv (.one (.dat (.val (.int .i64 (-1))))))), none⟩]) .ret) .skip)) (.seq (.reg [
    ⟨(some 26), .mov (.t 0), none⟩,
    ⟨(some 27), .mov (.t 1), none⟩,
    ⟨(some 28), .idx 9 (.t 26) (.t 27), none⟩,
    ⟨(some 29), .fadr 2 (.t 28), none⟩,
    ⟨(some 30), .load false 1 (.t 29), none⟩,
    ⟨(some 31), .mov (.t 2), none⟩,
    ⟨(some 32), .call (.c (.rv (.one (.fn 31 [])))) [(.t 30), (.t 31), (.c (.rv (.one (.fn 32 []))))], none⟩,
    ⟨(some 25), .mov (.t 32), none⟩,
    ⟨(some 33), .ext (.t 25) 0, none⟩,
    ⟨(some 34), .ext (.t 25) 1, none⟩,
    ⟨(some 7), .mov (.t 33), none⟩,
    ⟨(some 8), .mov (.t 34), none⟩]) (.seq (.seq (.reg [
    ⟨(some 35), .mov (.t 8), none⟩,
    ⟨(some 36), .un .not (.t 35), none⟩]) (.cond (.t 36) (.seq (.reg [
    ⟨(some 6), .mov (.c (.rv (.one (.dat (.val (.int .i64 (-1))))))), none⟩]) .ret) .skip)) (.seq (.reg [
    ⟨(some 37), .mov (.t 0), none⟩,
    ⟨(some 38), .mov (.t 1), none⟩,
    ⟨(some 39), .idx 9 (.t 37) (.t 38), none⟩,
    ⟨(some 40), .fadr 2 (.t 39), none⟩,
    ⟨(some 41), .load false 1 (.t 40), none⟩,
    ⟨(some 42), .mov (.t 7), none⟩,
    ⟨(some 43), .idx 2 (.t 41) (.t 42), none⟩,
    ⟨(some 44), .fadr 1 (.t 43), none⟩,
    ⟨(some 45), .load false 1 (.t 44), none⟩,
    ⟨(some 6), .mov (.t 45), none⟩]) .ret)))))⟩
def c31 : LF := ⟨49, [.tmp 6, .tmp 7], (.seq (.reg [
    ⟨(some 6), .mov (.c (.rv (.one (.dat (.val (.int .i64 (0))))))), none⟩,
    ⟨(some 7), .mov (.c (.rv (.one (.dat (.val (.bool false)))))), none⟩]) (.seq (.reg [
    ⟨(some 12), .mov (.t 0), none⟩,
    ⟨(some 13), .len 1 (.t 12), none⟩,
    ⟨(some 8), .mov (.t 13), none⟩]) (.seq (.reg [
    ⟨(some 14), .mov (.t 8), none⟩,
    ⟨(some 9), .mov (.c (.rv (.one (.dat (.val (.int .i64 (0))))))), none⟩,
    ⟨(some 10), .mov (.t 14), none⟩]) (.seq (.block 0 (.loop (.seq (.seq (.reg [
    ⟨(some 15), .mov (.t 9), none⟩,
    ⟨(some 16), .mov (.t 10), none⟩,
    ⟨(some 17), .bin .lss (.t 15) (.t 16), none⟩]) (.cond (.t 17) .skip (.exit 0))) (.block 1 (.seq (.reg [
    ⟨(some 18), .mov (.t 9), none⟩,
    ⟨(some 19), .mov (.t 10), none⟩,
    ⟨(some 20), .bin .add (.t 18) (.t 19), none⟩,
    ⟨(some 21), .conv .u64 (.t 20), none⟩,
    ⟨(some 22), .bin .shr (.t 21) (.c (.rv (.one (.dat (.val (.int .u64 (1))))))), none⟩,
    ⟨(some 23), .conv .i64 (.t 22), none⟩,
    ⟨(some 11), .mov (.t 23), none⟩]) (.seq (.reg [
    ⟨(some 24), .mov (.t 2), none⟩,
    ⟨(some 25), .mov (.t 0), none⟩,
    ⟨(some 26), .mov (.t 11), none⟩,
    ⟨(some 27), .idx 2 (.t 25) (.t 26), none⟩,
    ⟨(some 28), .load true 2 (.t 27), none⟩,
    ⟨(some 29), .mov (.t 1), none⟩,
    ⟨(some 30), .call (.t 24) [(.t 28), (.t 29)], none⟩,
    ⟨(some 31), .bin .lss (.t 30) (.c (.rv (.one (.dat (.val (.int .i64 (0))))))), none⟩]) (.cond (.t 31) (.reg [
    ⟨(some 32), .mov (.t 11), none⟩,
    ⟨(some 33), .bin .add (.t 32) (.c (.rv (.one (.dat (.val (.int .i64 (1))))))), none⟩,
    ⟨(some 9), .mov (.t 33), none⟩]) (.reg [
    ⟨(some 34), .mov (.t 11), none⟩,
    ⟨(some 10), .mov (.t 34), none⟩])))))))) (.seq (.reg [
    ⟨(some 35), .mov (.t 9), none⟩,
    ⟨(some 36), .mov (.t 9), none⟩,
    ⟨(some 37), .mov (.t 8), none⟩,
    ⟨(some 38), .bin .lss (.t 36) (.t 37), none⟩,
    ⟨(some 39), .mov (.t 38), none⟩,
    ⟨(some 40), .mov (.t 2), (some (39, true))⟩,
    ⟨(some 41), .mov (.t 0), (some (39, true))⟩,
    ⟨(some 42), .mov (.t 9), (some (39, true))⟩,
    ⟨(some 43), .idx 2 (.t 41) (.t 42), (some (39, true))⟩,
    ⟨(some 44), .load true 2 (.t 43), (some (39, true))⟩,
    ⟨(some 45), .mov (.t 1), (some (39, true))⟩,
    ⟨(some 46), .call (.t 40) [(.t 44), (.t 45)], (some (39, true))⟩,
    ⟨(some 47), .bin .eql (.t 46) (.c (.rv (.one (.dat (.val (.int .i64 (0))))))), (some (39, true))⟩,
    ⟨(some 48), .pick (.t 39) (.t 47) (.c (.rv (.one (.dat (.val (.bool false)))))), none⟩,
    ⟨(some 6), .mov (.t 35), none⟩,
    ⟨(some 7), .mov (.t 48), none⟩]) .ret)))))⟩
def c32 : LF := ⟨9, [.tmp 4], (.seq (.reg [
    ⟨(some 2), .box (.t 0), none⟩,
    ⟨(some 4), .mov (.c (.rv (.one (.dat (.val (.int .i64 (0))))))), none⟩]) (.seq (.reg [
    ⟨(some 5), .fadr 0 (.t 2), none⟩,
    ⟨(some 6), .load false 1 (.t 5), none⟩,
    ⟨(some 7), .mov (.t 1), none⟩,
    ⟨(some 8), .call (.c (.rv (.one (.fn 33 [])))) [(.t 6), (.t 7)], none⟩,
    ⟨(some 4), .mov (.t 8), none⟩]) .ret))⟩
def c33 : LF := ⟨20, [.tmp 4], (.seq (.reg [
    ⟨(some 4), .mov (.c (.rv (.one (.dat (.val (.int .i64 (0))))))), none⟩]) (.seq (.reg [
    ⟨(some 7), .mov (.t 0), none⟩,
    ⟨(some 8), .call (.c (.rv (.one (.fn 43 [])))) [(.t 7)], none⟩,
    ⟨(some 5), .mov (.t 8), none⟩]) (.seq (.reg [
    ⟨(some 9), .mov (.t 1), none⟩,
    ⟨(some 10), .call (.c (.rv (.one (.fn 43 [])))) [(.t 9)], none⟩,
    ⟨(some 6), .mov (.t 10), none⟩]) (.seq (.seq (.reg [
    ⟨(some 11), .mov (.t 5), none⟩]) (.cond (.t 11) (.seq (.seq (.reg [
    ⟨(some 12), .mov (.t 6), none⟩]) (.cond (.t 12) (.seq (.reg [
    ⟨(some 4), .mov (.c (.rv (.one (.dat (.val (.int .i64 (0))))))), none⟩]) .ret) .skip)) (.seq (.reg [
    ⟨(some 4), .mov (.c (.rv (.one (.dat (.val (.int .i64 (-1))))))), none⟩]) .ret)) .skip)) (.seq (.seq (.reg [
    ⟨(some 13), .mov (.t 6), none⟩]) (.cond (.t 13) (.seq (.reg [
    ⟨(some 4), .mov (.c (.rv (.one (.dat (.val (.int .i64 (1))))))), none⟩]) .ret) .skip)) (.seq (.seq (.reg [
    ⟨(some 14), .mov (.t 0), none⟩,
    ⟨(some 15), .mov (.t 1), none⟩,
    ⟨(some 16), .bin .lss (.t 14) (.t 15), none⟩]) (.cond (.t 16) (.seq (.reg [
    ⟨(some 4), .mov (.c (.rv (.one (.dat (.val (.int .i64 (-1))))))), none⟩]) .ret) .skip)) (.seq (.seq (.reg [
    ⟨(some 17), .mov (.t 0), none⟩,
    ⟨(some 18), .mov (.t 1), none⟩,
    ⟨(some 19), .bin .gtr (.t 17) (.t 18), none⟩]) (.cond (.t 19) (.seq (.reg [
    ⟨(some 4), .mov (.c (.rv (.one (.dat (.val (.int .i64 (1))))))), none⟩]) .ret) .skip)) (.seq (.reg [
    ⟨(some 4), .mov (.c (.rv (.one (.dat (.val (.int .i64 (0))))))), none⟩]) .ret))))))))⟩
def c38 : LF := ⟨9, [.tmp 4], (.seq (.reg [
    ⟨(some 2), .box (.t 0), none⟩,
    ⟨(some 4), .mov (.c (.rv (.one (.dat (.val (.int .i64 (0))))))), none⟩]) (.seq (.reg [
    ⟨(some 5), .fadr 0 (.t 2), none⟩,
    ⟨(some 6), .load false 1 (.t 5), none⟩,
    ⟨(some 7), .mov (.t 1), none⟩,
    ⟨(some 8), .call (.c (.rv (.one (.fn 33 [])))) [(.t 6), (.t 7)], none⟩,
    ⟨(some 4), .mov (.t 8), none⟩]) .ret))⟩
def c43 : LF := ⟨6, [.tmp 2], (.seq (.reg [
    ⟨(some 2), .mov (.c (.rv (.one (.dat (.val (.bool false)))))), none⟩]) (.seq (.reg [
    ⟨(some 3), .mov (.t 0), none⟩,
    ⟨(some 4), .mov (.t 0), none⟩,
    ⟨(some 5), .bin .neq (.t 3) (.t 4), none⟩,
    ⟨(some 2), .mov (.t 5), none⟩]) .ret))⟩
/-! cmp.Compare, slices.BinarySearchFunc over entries, store.Find: exactly -/
inductive CcsFz (m : Mem) (Z : Nat → Prop) (p : Option Nat) : List CC → List Dt → Prop
  | nil : CcsFz m Z p [] []
  | cons {c : CC} {d : Dt} {r : List CC} {r' : List Dt} (h : FrzD m Z p c d) (hr : CcsFz m Z p r r') : CcsFz m Z p (c :: r) (d :: r')
theorem CcsFz.len {m : Mem} {Z : Nat → Prop} {p : Option Nat} {a : List CC} {b : List Dt} (h : CcsFz m Z p a b) : a.length = b.length := by induction h <;> simp [*]
theorem CcsFz.get {m : Mem} {Z : Nat → Prop} {p : Option Nat} {a : List CC} {b : List Dt} (h : CcsFz m Z p a b) : ∀ (i : Nat) c d, a[i]? = some c → b[i]? = some d → FrzD m Z p c d := by
  induction h with
  | nil => intro i c d h; simp at h
  | cons h hr ih =>
    intro i c d h1 h2
    cases i with
    | zero => simp at h1 h2; subst h1 h2; exact h
    | succ i => exact ih i c d (by simpa using h1) (by simpa using h2)
inductive RowsFz (m : Mem) (Z : Nat → Prop) (p : Option Nat) : List (List CC) → List (List Dt) → Prop
  | nil : RowsFz m Z p [] []
  | cons {c : List CC} {d : List Dt} {r : List (List CC)} {r' : List (List Dt)} (h : CcsFz m Z p c d) (hr : RowsFz m Z p r r') : RowsFz m Z p (c :: r) (d :: r')
theorem RowsFz.len {m : Mem} {Z : Nat → Prop} {p : Option Nat} {a : List (List CC)} {b : List (List Dt)} (h : RowsFz m Z p a b) : a.length = b.length := by induction h <;> simp [*]
theorem RowsFz.get {m : Mem} {Z : Nat → Prop} {p : Option Nat} {a : List (List CC)} {b : List (List Dt)} (h : RowsFz m Z p a b) : ∀ (i : Nat) c d, a[i]? = some c → b[i]? = some d → CcsFz m Z p c d := by
  induction h with
  | nil => intro i c d h; simp at h
  | cons h hr ih =>
    intro i c d h1 h2
    cases i with
    | zero => simp at h1 h2; subst h1 h2; exact h
    | succ i => exact ih i c d (by simpa using h1) (by simpa using h2)
theorem RowsFz.frz {m : Mem} {Z : Nat → Prop} {p : Option Nat} {id esz : Nat} {elems : List (List CC)} {ds : List (List Dt)} (h : RowsFz m Z (some id) elems ds) (hz : Z id) (hm : m[id]? = some (.row esz elems)) : FrzD m Z p (.row id esz 0 none) (.sl esz ds) :=
  FrzD.row id esz 0 none elems ds hz hm h.len (fun i cs es h1 h2 => (h.get i cs es h1 h2).len) (fun i cs es j c d h1 h2 h3 h4 => (h.get i cs es h1 h2).get j c d h3 h4)
theorem l43 : lowF Try.prog Try.f43 = some c43 := by kernel_rfl
theorem l33 : lowF Try.prog Try.f33 = some c33 := by kernel_rfl
theorem l32 : lowF Try.prog Try.f32 = some c32 := by kernel_rfl
theorem l38 : lowF Try.prog Try.f38 = some c38 := by kernel_rfl
theorem l31 : lowF Try.prog Try.f31 = some c31 := by kernel_rfl
theorem l10 : lowF Try.prog Try.f10 = some c10 := by kernel_rfl
def ltB (a b : ByteArray) : Bool := Op.bytesLess a.toList b.toList
def gtB (a b : ByteArray) : Bool := !(Op.bytesLess a.toList b.toList || a.toList == b.toList)
def cmpB (a b : ByteArray) : Int := if ltB a b = true then -1 else if gtB a b = true then 1 else 0
set_option maxRecDepth 100000 in
theorem nan_body (a : ByteArray) : body Try.prog c43 [vStr a] [] (fun r m => r = vBool false) := by
  show vBool (!(a.toList == a.toList)) = vBool false
  simp
theorem nan_ok (a : ByteArray) {m : Mem} {K : CV → Mem → Prop} (h : K (vBool false) m) : ACall Try.prog 43 [vStr a] m K :=
  acall_val Try.func43 l43 rfl (Nat.le_of_ble_eq_true rfl) (nan_body a) rfl rfl h
set_option maxRecDepth 100000 in
theorem cmp_body (a b : ByteArray) : body Try.prog c33 [vStr a, vStr b] [] (fun r m => r = vInt .i64 (cmpB a b)) := by
  refine nan_ok a ?_
  refine nan_ok b ?_
  refine bB_split (fun h1 => ?_) (fun h1 => ?_)
  · show vInt _ _ = vInt _ _
    rw [cmpB, if_pos (show ltB a b = true from h1)]
  refine bB_split (fun h2 => ?_) (fun h2 => ?_)
  · show vInt _ _ = vInt _ _
    rw [cmpB, if_neg (by rw [show ltB a b = false from h1]; simp), if_pos (show gtB a b = true from h2)]
  · show vInt _ _ = vInt _ _
    rw [cmpB, if_neg (by rw [show ltB a b = false from h1]; simp), if_neg (by rw [show gtB a b = false from h2]; simp)]
theorem cmp_ok (a b : ByteArray) {m : Mem} {K : CV → Mem → Prop} (h : K (vInt .i64 (cmpB a b)) m) : ACall Try.prog 33 [vStr a, vStr b] m K :=
  acall_val Try.func33 l33 rfl (Nat.le_of_ble_eq_true rfl) (cmp_body a b) rfl rfl h
def entW (e : ByteArray × Int) : List Dt := [.val (.string e.1), .val (.int .i64 e.2)]
def entC (e : ByteArray × Int) : CV := .rv (.agg ((entW e).map .dat))
set_option maxRecDepth 100000 in
theorem clo32_body (e : ByteArray × Int) (s : ByteArray) : body Try.prog c32 [entC e, vStr s] [] (fun r m => r = vInt .i64 (cmpB e.1 s)) :=
  cmp_ok e.1 s rfl
theorem clo32 (e : ByteArray × Int) (s : ByteArray) {m : Mem} {K : CV → Mem → Prop} (h : K (vInt .i64 (cmpB e.1 s)) m) : ACall Try.prog 32 [entC e, vStr s] m K :=
  acall_val Try.func32 l32 rfl (Nat.le_of_ble_eq_true rfl) (clo32_body e s) rfl rfl h
set_option maxRecDepth 100000 in
theorem clo38_body (e : ByteArray × Int) (s : ByteArray) : body Try.prog c38 [entC e, vStr s] [] (fun r m => r = vInt .i64 (cmpB e.1 s)) :=
  cmp_ok e.1 s rfl
theorem clo38 (e : ByteArray × Int) (s : ByteArray) {m : Mem} {K : CV → Mem → Prop} (h : K (vInt .i64 (cmpB e.1 s)) m) : ACall Try.prog 38 [entC e, vStr s] m K :=
  acall_val Try.func38 l38 rfl (Nat.le_of_ble_eq_true rfl) (clo38_body e s) rfl rfl h
/-- the search's place -/
def bsL (es : List (ByteArray × Int)) (s : ByteArray) : Nat → Nat → Nat → Nat
  | 0, i, _ => i
  | n + 1, i, j => if i < j then (match es[(i + j) / 2]? with
      | some e => if cmpB e.1 s < 0 then bsL es s n ((i + j) / 2 + 1) j else bsL es s n i ((i + j) / 2)
      | none => i) else i
def bsI (es : List (ByteArray × Int)) (s : ByteArray) : Nat := bsL es s es.length 0 es.length
def bsB (es : List (ByteArray × Int)) (s : ByteArray) : Bool := match es[bsI es s]? with | some e => cmpB e.1 s == 0 | none => false
structure StBs where
  i : Nat
  j : Nat
theorem ent_getW {es : List (ByteArray × Int)} {k : Nat} (h : k < es.length) : getZ (es.map entW) (k : Nat) = some [.val (.string es[k].1), .val (.int .i64 es[k].2)] := by
  rw [getZ_nat, List.getElem?_map, List.getElem?_eq_getElem h]; rfl
theorem half_i {i j : Nat} (h : i + j ≤ 4294967296) : IntKind.i64.wrap ((IntKind.u64.wrap (IntKind.i64.wrap ((i : Int) + (j : Int)))).fdiv (2 ^ (min (1 : Int).toNat IntKind.u64.bits))) = (((i + j) / 2 : Nat) : Int) := by
  rw [show (i : Int) + (j : Int) = ((i + j : Nat) : Int) by omega, wrapN (by omega)]
  have hu : IntKind.u64.wrap ((i + j : Nat) : Int) = ((i + j : Nat) : Int) := by
    simp only [IntKind.wrap, IntKind.bits, IntKind.signed]
    simp
    omega
  rw [hu, show (2 : Int) ^ (min (1 : Int).toNat IntKind.u64.bits) = ((2 : Nat) : Int) from rfl]
  rw [show (((i + j : Nat) : Int)).fdiv ((2 : Nat) : Int) = (((i + j) / 2 : Nat) : Int) by rw [Int.fdiv_eq_ediv_of_nonneg _ (by omega)]; exact (Int.natCast_ediv _ _).symm]
  rw [wrapN (by omega)]
set_option maxRecDepth 100000 in
set_option maxHeartbeats 8000000 in
theorem bs_body (es : List (ByteArray × Int)) (hl : es.length ≤ 2147483648) (s : ByteArray) (F : Nat) (hF : ∀ (e : ByteArray × Int) (m : Mem) (K : CV → Mem → Prop), K (vInt .i64 (cmpB e.1 s)) m → ACall Try.prog F [entC e, vStr s] m K) :
    body Try.prog c31 [slV 2 (es.map entW), vStr s, .rv (.one (.fn F []))] [] (fun r m => r = .tup [.one (.dat (.val (.int .i64 (bsI es s : Nat)))), .one (.dat (.val (.bool (bsB es s))))]) := by
  refine loop_keep (fun a : StBs => a.i ≤ a.j ∧ a.j ≤ es.length ∧ ∃ n, a.j - a.i ≤ n ∧ bsL es s n a.i a.j = bsI es s) [0, 1, 2] (fun a => [(8, vInt .i64 (es.length : Nat)), (9, vInt .i64 (a.i : Nat)), (10, vInt .i64 (a.j : Nat))]) (fun _ => []) (fun a => a.j - a.i) ⟨0, es.length⟩ ⟨Nat.zero_le _, Nat.le_refl _, es.length, by simp, rfl⟩ ?_ (fun a ha => ?_)
  · refine View.of 0 [] [] rfl rfl rfl rfl rfl rfl ?_ (.nil _)
    have hlen : vInt .i64 (((es.map entW).length : Nat) : Int) = vInt .i64 ((es.length : Nat) : Int) := by rw [List.length_map]
    repeat (first | exact .nil | refine .junk ?_ | refine .eq rfl ?_ | refine .eq hlen.symm ?_)
  obtain ⟨i, j⟩ := a
  obtain ⟨h1, h2, n, h3, h4⟩ := ha
  have h1 : i ≤ j := h1
  have h2 : j ≤ es.length := h2
  have h3 : j - i ≤ n := h3
  have h4 : bsL es s n i j = bsI es s := h4
  refine bB_dec (fun h => ?_) (fun h => ?_)
  · have hlt : i < j := by
      have h : (i : Int) < (j : Int) := h
      omega
    obtain ⟨n, rfl⟩ : ∃ n', n = n' + 1 := ⟨n - 1, by omega⟩
    have hh : (i + j) / 2 < es.length := by omega
    rw [bsL, if_pos hlt, List.getElem?_eq_getElem hh] at h4
    have hge : getZ (es.map entW) (IntKind.i64.wrap ((IntKind.u64.wrap (IntKind.i64.wrap ((i : Int) + (j : Int)))).fdiv (2 ^ (min (1 : Int).toNat IntKind.u64.bits)))) = some [.val (.string es[(i + j) / 2].1), .val (.int .i64 es[(i + j) / 2].2)] := by
      rw [half_i (by omega)]; exact ent_getW hh
    refine ok_some hge ?_
    refine hF es[(i + j) / 2] _ _ ?_
    refine bB_dec (fun h5 => ?_) (fun h5 => ?_)
    · have h5 : cmpB es[(i + j) / 2].1 s < 0 := h5
      simp only [] at h4
      rw [if_pos h5] at h4
      refine ⟨⟨(i + j) / 2 + 1, j⟩, ⟨by show (i + j) / 2 + 1 ≤ j; omega, h2, n, by show j - ((i + j) / 2 + 1) ≤ n; omega, h4⟩, (show j - ((i + j) / 2 + 1) < j - i by omega), View.of 0 [] [] rfl rfl rfl rfl rfl rfl ?_ (.nil _)⟩
      have e1 : vInt .i64 (IntKind.i64.wrap (IntKind.i64.wrap ((IntKind.u64.wrap (IntKind.i64.wrap ((i : Int) + (j : Int)))).fdiv (2 ^ (min (1 : Int).toNat IntKind.u64.bits))) + 1)) = vInt .i64 (((i + j) / 2 + 1 : Nat) : Int) := by
        rw [half_i (by omega), show (((i + j) / 2 : Nat) : Int) + 1 = (((i + j) / 2 + 1 : Nat) : Int) by omega, wrapN (by omega)]
      repeat (first | exact .nil | refine .junk ?_ | refine .eq rfl ?_ | refine .eq e1.symm ?_)
    · have h5 : ¬ cmpB es[(i + j) / 2].1 s < 0 := h5
      simp only [] at h4
      rw [if_neg h5] at h4
      refine ⟨⟨i, (i + j) / 2⟩, ⟨by show i ≤ (i + j) / 2; omega, by show (i + j) / 2 ≤ es.length; omega, n, by show (i + j) / 2 - i ≤ n; omega, h4⟩, (show (i + j) / 2 - i < j - i by omega), View.of 0 [] [] rfl rfl rfl rfl rfl rfl ?_ (.nil _)⟩
      have e1 : vInt .i64 (IntKind.i64.wrap ((IntKind.u64.wrap (IntKind.i64.wrap ((i : Int) + (j : Int)))).fdiv (2 ^ (min (1 : Int).toNat IntKind.u64.bits)))) = vInt .i64 (((i + j) / 2 : Nat) : Int) := by
        rw [half_i (by omega)]
      repeat (first | exact .nil | refine .junk ?_ | refine .eq rfl ?_ | refine .eq e1.symm ?_)
  · have hij : i = j := by
      have h : ¬ (i : Int) < (j : Int) := h
      omega
    subst hij
    have hI : bsI es s = i := by
      rw [← h4]
      cases n with
      | zero => rfl
      | succ n => rw [bsL, if_neg (Nat.lt_irrefl _)]
    rw [bsB, hI]
    refine bB_dec (fun h6 => ?_) (fun h6 => ?_)
    · have hlt : i < es.length := by
        have h6 : (i : Int) < (es.length : Int) := h6
        omega
      refine ok_some (ent_getW hlt) ?_
      refine hF es[i] _ _ ?_
      show CV.tup _ = CV.tup _
      rw [List.getElem?_eq_getElem hlt]
    · have hge : ¬ i < es.length := by
        have h6 : ¬ (i : Int) < (es.length : Int) := h6
        omega
      show CV.tup _ = CV.tup _
      rw [List.getElem?_eq_none (by omega)]
def bsR (es : List (ByteArray × Int)) (s : ByteArray) : CV := .tup [.one (.dat (.val (.int .i64 (bsI es s : Nat)))), .one (.dat (.val (.bool (bsB es s))))]
set_option maxRecDepth 100000 in
theorem bs_ok (es : List (ByteArray × Int)) (hl : es.length ≤ 2147483648) (s : ByteArray) (F : Nat) (hF : ∀ (e : ByteArray × Int) (m : Mem) (K : CV → Mem → Prop), K (vInt .i64 (cmpB e.1 s)) m → ACall Try.prog F [entC e, vStr s] m K) {m : Mem} {K : CV → Mem → Prop}
    (h : K (bsR es s) m) : ACall Try.prog 31 [slV 2 (es.map entW), vStr s, .rv (.one (.fn F []))] m K := by
  refine acall_frame (K0 := fun r _ => r = bsR es s) (acall_body Try.func31 l31 rfl (Nat.le_of_ble_eq_true rfl) (bs_body es hl s F hF)) (by simp [slV, vStr, CV.isD, CC.isD, RV.isD]) fun r m1 hr => ?_
  subst hr
  exact ⟨_, FrzV.self rfl, h⟩
/-- the same over a row that stays -/
theorem bs_row (es : List (ByteArray × Int)) (hl : es.length ≤ 2147483648) (s : ByteArray) (F : Nat) (hF : ∀ (e : ByteArray × Int) (m : Mem) (K : CV → Mem → Prop), K (vInt .i64 (cmpB e.1 s)) m → ACall Try.prog F [entC e, vStr s] m K) {m : Mem} {id : Nat} (hb : nth m id = some (.row 2 (dRows (es.map entW)))) {K : CV → Mem → Prop}
    (h : K (bsR es s) m) : ACall Try.prog 31 [.rv (.one (.row id 2 0 none)), vStr s, .rv (.one (.fn F []))] m K :=
  acall_ro [id] (args0 := [slV 2 (es.map entW), vStr s, .rv (.one (.fn F []))]) (bs_ok es hl s F hF (K := fun r _ => r = bsR es s) rfl) (.put (VwV.frz id (es.map entW) (by simp [memN]) hb) (.eq rfl (.eq rfl .nil))) fun r m1 hr => by
    subst hr
    exact ⟨rfl, h⟩
def findW (l : List Obj) (es : List (ByteArray × Int)) (dir : Nat) (s : ByteArray) : Int := if bsB es s = true then (match es[bsI es s]? with | some e => e.2 | none => 0) else -1
set_option maxRecDepth 100000 in
set_option maxHeartbeats 8000000 in
theorem wfind_body (l : List Obj) (dir : Nat) (hd : dir < l.length) (hk : l[dir].kind = 2) (es : List (ByteArray × Int)) (he : l[dir].entries = es.map entW) (hl : es.length ≤ 2147483648) (s : ByteArray) : body Try.prog c10 [objsV l, vInt .i64 (dir : Nat), vStr s] [] (fun r m => r = vInt .i64 (findW l es dir s)) := by
  have hg : getZ (l.map Obj.enc) (dir : Nat) = some l[dir].enc := by
    rw [getZ_nat, List.getElem?_map, List.getElem?_eq_getElem hd]; rfl
  generalize l[dir] = o at hg hk he
  obtain ⟨kind, data, entries, target, peer, queue, proc, links, up⟩ := o
  have hk : kind = 2 := hk
  have he : entries = es.map entW := he
  subst hk he
  have hg : getZ (l.map Obj.enc) (dir : Nat) = some [.val (.int .i64 2), .sl 1 data, .sl 2 (es.map entW), .val (.string target), .val (.int .i64 peer), .sl 4 (queue.map Msg.enc), .val (.int .i64 proc), .val (.int .i64 links), .val (.int .i64 up)] := hg
  refine bB_dec (fun h1 => ?_) (fun h1 => ?_)
  · exfalso
    have h1 : (dir : Int) ≥ ((l.map Obj.enc).length : Int) := h1
    rw [List.length_map] at h1
    omega
  refine ok_some hg ?_
  refine ok_some hg ?_
  refine bs_ok es hl s 32 (fun e m K h => clo32 e s h) ?_
  refine bB_split (fun h2 => ?_) (fun h2 => ?_)
  · have h2 : bsB es s = false := by simpa using h2
    show vInt _ _ = vInt _ _
    rw [findW, if_neg (by rw [h2]; simp)]
  · have h2 : bsB es s = true := by simpa using h2
    refine ok_some hg ?_
    have hlt : bsI es s < es.length := by
      unfold bsB at h2
      split at h2
      · rename_i e he
        exact (List.getElem?_eq_some_iff.1 he).1
      · cases h2
    refine ok_some (ent_getW hlt) ?_
    show vInt _ _ = vInt _ _
    rw [findW, if_pos h2, List.getElem?_eq_getElem hlt]
set_option maxRecDepth 100000 in
theorem sfind_ok (l : List Obj) (dir : Nat) (hd : dir < l.length) (hk : l[dir].kind = 2) (es : List (ByteArray × Int)) (he : l[dir].entries = es.map entW) (hl : es.length ≤ 2147483648) (s : ByteArray) {m : Mem} {K : CV → Mem → Prop} (h : K (vInt .i64 (findW l es dir s)) m) : ACall Try.prog 10 [objsV l, vInt .i64 (dir : Nat), vStr s] m K :=
  acall_val Try.func10 l10 rfl (Nat.le_of_ble_eq_true rfl) (wfind_body l dir hd hk es he hl s) (by simp [objsV, vInt, vStr, CV.isD, CC.isD, RV.isD]) rfl h


end Go.Proofs.Ytmekobkcgajcjaa
