import Derived.Test.YtflieebgiejjpaaAmZ2
import Derived.Test.YtflieebgiejjpaaDvBpf3a
import Derived.Test.YtflieebgiejjpaaAmY
set_option linter.unusedVariables false
set_option linter.unusedSimpArgs false
namespace Go.Proofs.Ytflieebgiejjpaa
open Go.AM Go.ChangeShapes Go.WideShapes Go.ChangeAt Go.RowKit
def c40 : LF := ⟨75, [.tmp 4, .tmp 5], (.seq (.reg [
    ⟨(some 3), .box (.t 1), none⟩,
    ⟨(some 4), .mov (.c (.rv (.one (.dat (.val (.int .i64 (0))))))), none⟩,
    ⟨(some 5), .mov (.c (.rv (.one (.dat (.val (.int .i64 (0))))))), none⟩]) (.seq (.seq (.reg [
    ⟨(some 11), .mov (.t 0), none⟩,
    ⟨(some 12), .call (.c (.rv (.one (.fn 38 [])))) [(.t 11)], none⟩,
    ⟨(some 6), .alloc [(.dat (.val (.int .i64 (0)))), (.dat (.val (.int .i64 (0))))], none⟩,
    ⟨none, .store 2 (.t 6) (.t 12), none⟩]) (.seq (.reg [
    ⟨(some 13), .fadr 0 (.t 6), none⟩,
    ⟨(some 14), .load false 1 (.t 13), none⟩,
    ⟨(some 15), .bin .neq (.t 14) (.c (.rv (.one (.dat (.val (.int .i64 (0))))))), none⟩]) (.cond (.t 15) (.seq (.reg [
    ⟨(some 4), .mov (.c (.rv (.one (.dat (.val (.int .i64 (0))))))), none⟩,
    ⟨(some 5), .mov (.c (.rv (.one (.dat (.val (.int .i64 (0))))))), none⟩]) .ret) .skip))) (.seq (.reg [
    ⟨(some 7), .mov (.c (.rv (.one (.dat (.val (.int .i64 (0))))))), none⟩]) (.seq (.reg [
    ⟨(some 8), .mov (.c (.rv (.one (.dat (.val (.int .i64 (0))))))), none⟩]) (.block 0 (.loop (.seq (.block 1 (.seq (.reg [
    ⟨(some 18), .mov (.t 0), none⟩,
    ⟨(some 19), .mov (.t 8), none⟩,
    ⟨(some 20), .idx 4 (.t 18) (.t 19), none⟩,
    ⟨(some 21), .load true 4 (.t 20), none⟩,
    ⟨(some 9), .alloc [(.dat (.val (.int .i64 (0)))), (.dat (.val (.int .i64 (0)))), (.dat (.val (.int .i64 (0)))), (.dat (.val (.int .i64 (0))))], none⟩,
    ⟨none, .store 4 (.t 9) (.t 21), none⟩]) (.seq (.reg [
    ⟨(some 10), .mov (.c (.rv (.one (.dat (.val (.bool false)))))), none⟩]) (.seq (.seq (.reg [
    ⟨(some 22), .fadr 0 (.t 9), none⟩,
    ⟨(some 23), .load false 1 (.t 22), none⟩]) (.block 2 (.seq (.reg [
    ⟨(some 25), .bin .eql (.t 23) (.c (.rv (.one (.dat (.val (.int .i64 (1))))))), none⟩,
    ⟨(some 24), .mov (.t 25), none⟩]) (.cond (.t 24) (.seq (.reg [
    ⟨(some 26), .fadr 3 (.t 9), none⟩,
    ⟨(some 27), .load false 1 (.t 26), none⟩,
    ⟨(some 28), .idxa 6 1 (.t 3) (.t 27), none⟩,
    ⟨(some 29), .load false 1 (.t 28), none⟩,
    ⟨(some 7), .mov (.t 29), none⟩]) (.seq (.reg [
    ⟨(some 30), .mov (.t 8), none⟩,
    ⟨(some 31), .bin .add (.t 30) (.c (.rv (.one (.dat (.val (.int .i64 (1))))))), none⟩,
    ⟨(some 8), .mov (.t 31), none⟩]) (.exit 1))) (.seq (.reg [
    ⟨(some 33), .bin .eql (.t 23) (.c (.rv (.one (.dat (.val (.int .i64 (5))))))), none⟩,
    ⟨(some 32), .mov (.t 33), none⟩]) (.cond (.t 32) (.seq (.reg [
    ⟨(some 34), .mov (.t 8), none⟩,
    ⟨(some 35), .fadr 3 (.t 9), none⟩,
    ⟨(some 36), .load false 1 (.t 35), none⟩,
    ⟨(some 37), .bin .add (.c (.rv (.one (.dat (.val (.int .i64 (1))))))) (.t 36), none⟩,
    ⟨(some 38), .bin .add (.t 34) (.t 37), none⟩,
    ⟨(some 8), .mov (.t 38), none⟩]) (.exit 1)) (.seq (.reg [
    ⟨(some 40), .bin .eql (.t 23) (.c (.rv (.one (.dat (.val (.int .i64 (6))))))), none⟩,
    ⟨(some 39), .mov (.t 40), none⟩]) (.cond (.t 39) (.seq (.reg [
    ⟨(some 41), .fadr 3 (.t 9), none⟩,
    ⟨(some 42), .load false 1 (.t 41), none⟩,
    ⟨(some 43), .mov (.t 5), none⟩,
    ⟨(some 44), .bin .add (.t 43) (.c (.rv (.one (.dat (.val (.int .i64 (1))))))), none⟩,
    ⟨(some 4), .mov (.t 42), none⟩,
    ⟨(some 5), .mov (.t 44), none⟩]) .ret) (.seq (.reg [
    ⟨(some 46), .bin .eql (.t 23) (.c (.rv (.one (.dat (.val (.int .i64 (2))))))), none⟩,
    ⟨(some 45), .mov (.t 46), none⟩]) (.cond (.t 45) (.reg [
    ⟨(some 47), .mov (.t 7), none⟩,
    ⟨(some 48), .fadr 3 (.t 9), none⟩,
    ⟨(some 49), .load false 1 (.t 48), none⟩,
    ⟨(some 50), .bin .eql (.t 47) (.t 49), none⟩,
    ⟨(some 10), .mov (.t 50), none⟩]) (.seq (.reg [
    ⟨(some 52), .bin .eql (.t 23) (.c (.rv (.one (.dat (.val (.int .i64 (3))))))), none⟩,
    ⟨(some 51), .mov (.t 52), none⟩]) (.cond (.t 51) (.reg [
    ⟨(some 53), .mov (.t 7), none⟩,
    ⟨(some 54), .fadr 3 (.t 9), none⟩,
    ⟨(some 55), .load false 1 (.t 54), none⟩,
    ⟨(some 56), .bin .geq (.t 53) (.t 55), none⟩,
    ⟨(some 10), .mov (.t 56), none⟩]) (.seq (.reg [
    ⟨(some 58), .bin .eql (.t 23) (.c (.rv (.one (.dat (.val (.int .i64 (4))))))), none⟩,
    ⟨(some 57), .mov (.t 58), none⟩]) (.cond (.t 57) (.reg [
    ⟨(some 59), .mov (.t 7), none⟩,
    ⟨(some 60), .fadr 3 (.t 9), none⟩,
    ⟨(some 61), .load false 1 (.t 60), none⟩,
    ⟨(some 62), .bin .and (.t 59) (.t 61), none⟩,
    ⟨(some 63), .bin .neq (.t 62) (.c (.rv (.one (.dat (.val (.int .i64 (0))))))), none⟩,
    ⟨(some 10), .mov (.t 63), none⟩]) .skip)))))))))))))) (.seq (.reg [
    ⟨(some 64), .mov (.t 10), none⟩]) (.cond (.t 64) (.reg [
    ⟨(some 65), .mov (.t 8), none⟩,
    ⟨(some 66), .fadr 1 (.t 9), none⟩,
    ⟨(some 67), .load false 1 (.t 66), none⟩,
    ⟨(some 68), .bin .add (.c (.rv (.one (.dat (.val (.int .i64 (1))))))) (.t 67), none⟩,
    ⟨(some 69), .bin .add (.t 65) (.t 68), none⟩,
    ⟨(some 8), .mov (.t 69), none⟩]) (.reg [
    ⟨(some 70), .mov (.t 8), none⟩,
    ⟨(some 71), .fadr 2 (.t 9), none⟩,
    ⟨(some 72), .load false 1 (.t 71), none⟩,
    ⟨(some 73), .bin .add (.c (.rv (.one (.dat (.val (.int .i64 (1))))))) (.t 72), none⟩,
    ⟨(some 74), .bin .add (.t 70) (.t 73), none⟩,
    ⟨(some 8), .mov (.t 74), none⟩]))))))) (.reg [
    ⟨(some 16), .mov (.t 5), none⟩,
    ⟨(some 17), .bin .add (.t 16) (.c (.rv (.one (.dat (.val (.int .i64 (1))))))), none⟩,
    ⟨(some 5), .mov (.t 17), none⟩]))))))))⟩
structure Rec where
  r0 : Int
  r1 : Int
  r2 : Int
  r3 : Int
  r4 : Int
  r5 : Int
def Rec.enc (r : Rec) : List Dt := [.val (.int .i64 r.r0), .val (.int .i64 r.r1), .val (.int .i64 r.r2), .val (.int .i64 r.r3), .val (.int .i64 r.r4), .val (.int .i64 r.r5)]
def Rec.cv (r : Rec) : CV := .rv (.agg (r.enc.map .dat))
def Rec.get (r : Rec) : Nat → Int
  | 0 => r.r0
  | 1 => r.r1
  | 2 => r.r2
  | 3 => r.r3
  | 4 => r.r4
  | _ => r.r5
theorem Rec.read (r : Rec) {k : Nat} (h : k < 6) : readN (r.enc.map .dat) (0 + k * 1) 1 = some [.dat (.val (.int .i64 (r.get k)))] := by
  rw [show 0 + k * 1 = k by omega]
  apply readN_one
  match k, h with
  | 0, _ => rfl
  | 1, _ => rfl
  | 2, _ => rfl
  | 3, _ => rfl
  | 4, _ => rfl
  | 5, _ => rfl
def andV (a b : Int) : Int := IntKind.i64.wrap ((BitVec.ofInt 64 a &&& BitVec.ofInt 64 b).toNat : Int)
def nxt (i : Ins) (acc : Int) (r : Rec) : Nat × Int :=
  if i.op = 1 then (1, r.get i.k.toNat)
  else if i.op = 5 then (1 + i.k.toNat, acc)
  else if (if i.op = 2 then acc == i.k else if i.op = 3 then decide (acc ≥ i.k) else if i.op = 4 then andV acc i.k != 0 else false) = true then (1 + i.jt.toNat, acc)
  else (1 + i.jf.toNat, acc)
theorem nxt_2 (x y : Nat) (k acc : Int) (r : Rec) : (acc = k → nxt ⟨2, x, y, k⟩ acc r = (1 + x, acc)) ∧ (acc ≠ k → nxt ⟨2, x, y, k⟩ acc r = (1 + y, acc)) :=
  ⟨fun h => by subst h; simp [nxt], fun h => by simp [nxt, h]⟩
theorem nxt_3 (x y : Nat) (k acc : Int) (r : Rec) : (acc ≥ k → nxt ⟨3, x, y, k⟩ acc r = (1 + x, acc)) ∧ (¬ acc ≥ k → nxt ⟨3, x, y, k⟩ acc r = (1 + y, acc)) :=
  ⟨fun h => by simp [nxt]; omega, fun h => by simp [nxt]; omega⟩
theorem nxt_4 (x y : Nat) (k acc : Int) (r : Rec) : (andV acc k ≠ 0 → nxt ⟨4, x, y, k⟩ acc r = (1 + x, acc)) ∧ (andV acc k = 0 → nxt ⟨4, x, y, k⟩ acc r = (1 + y, acc)) :=
  ⟨fun h => by simp [nxt, h], fun h => by simp [nxt, h]⟩
theorem nxt_pos (i : Ins) (acc : Int) (r : Rec) : 1 ≤ (nxt i acc r).1 := by
  unfold nxt
  repeat' split
  all_goals simp
def runW (p : List Ins) (r : Rec) (a : Nat) (acc : Int) : Int × Int :=
  if h : a < p.length then
    if p[a].op = 6 then (p[a].k, 1)
    else ((runW p r (a + (nxt p[a] acc r).1) (nxt p[a] acc r).2).1, (runW p r (a + (nxt p[a] acc r).1) (nxt p[a] acc r).2).2 + 1)
  else (0, 0)
termination_by p.length - a
decreasing_by
  all_goals
    have := nxt_pos p[a] acc r
    omega
theorem runW_back {p : List Ins} {r : Rec} {a : Nat} {acc : Int} {i : Ins} (h : p[a]? = some i) (ho : i.op = 6) : runW p r a acc = (i.k, 1) := by
  obtain ⟨hlt, rfl⟩ := List.getElem?_eq_some_iff.1 h
  rw [runW, dif_pos hlt, if_pos ho]
theorem runW_go {p : List Ins} {r : Rec} {a : Nat} {acc : Int} {i : Ins} (h : p[a]? = some i) (ho : i.op ≠ 6) {d : Nat} {acc2 : Int} (hn : nxt i acc r = (d, acc2)) : runW p r a acc = ((runW p r (a + d) acc2).1, (runW p r (a + d) acc2).2 + 1) := by
  obtain ⟨hlt, rfl⟩ := List.getElem?_eq_some_iff.1 h
  rw [runW, dif_pos hlt, if_neg ho, hn]
theorem chkS_all (s : Int) : ∀ (l : List Ins) (k : Nat), (chkS s k l).1 = 0 → ∀ (j : Nat) i, l[j]? = some i → insE i ((k + j : Nat) : Int) s = 0
  | [], _, _, j, i, h => by simp at h
  | x :: r, k, h, j, i, hi => by
    simp only [chkS] at h
    split at h
    · rename_i h0
      cases j with
      | zero => simp at hi; subst hi; simpa using h0
      | succ j =>
        have := chkS_all s r (k + 1) h j i (by simpa using hi)
        rwa [show k + 1 + j = k + (j + 1) by omega] at this
    · rename_i h0
      exact absurd h h0
theorem check_all {p : List Ins} (h : (checkS p).1 = 0) : 1 ≤ p.length ∧ p.length ≤ 400 ∧ (∀ (j : Nat) i, p[j]? = some i → insE i (j : Int) p.length = 0) ∧ ∃ i, p[p.length - 1]? = some i ∧ i.op = 6 := by
  unfold checkS at h
  split at h
  · simp at h
  · rename_i hl
    split at h
    · rename_i hc
      exact absurd h hc
    · rename_i hc
      have hall := chkS_all p.length p 0 (by simpa using hc)
      refine ⟨by omega, by omega, fun j i hi => by simpa using hall j i hi, ?_⟩
      have hlt : p.length - 1 < p.length := by omega
      rw [List.getElem?_eq_getElem hlt] at h ⊢
      simp only at h
      split at h
      · rename_i h6
        exact ⟨_, rfl, h6⟩
      · simp at h
theorem insE_op {i : Ins} {a s : Int} (h : insE i a s = 0) : i.op = 1 ∨ i.op = 2 ∨ i.op = 3 ∨ i.op = 4 ∨ i.op = 5 ∨ i.op = 6 := by
  by_cases ho : i.op < 1 ∨ i.op > 6
  · have := insE_o i.op i.jt i.jf i.k a s ho
    have e : insE ⟨i.op, i.jt, i.jf, i.k⟩ a s = insE i a s := rfl
    omega
  · omega
/-- what a good instruction does -/
theorem good_step {p : List Ins} (h : (checkS p).1 = 0) {a : Nat} {o jt jf k : Int} (hi : p[a]? = some ⟨o, jt, jf, k⟩) :
    (o = 1 ∧ 0 ≤ k ∧ k < 6 ∧ a + 1 < p.length) ∨ ((o = 2 ∨ o = 3 ∨ o = 4) ∧ 0 ≤ jt ∧ 0 ≤ jf ∧ a + 1 + jt.toNat < p.length ∧ a + 1 + jf.toNat < p.length ∧ jt ≤ 40 ∧ jf ≤ 40) ∨ (o = 5 ∧ 0 ≤ k ∧ a + 1 + k.toNat < p.length) ∨ (o = 6 ∧ (k = 0 ∨ k = 1)) := by
  obtain ⟨h1, h2, h3, i6, h4, h5⟩ := check_all h
  have he := h3 a _ hi
  have hlt := (List.getElem?_eq_some_iff.1 hi).1
  rcases insE_op he with ho | ho | ho | ho | ho | ho <;> simp only at ho <;> subst ho
  · rw [insE_1] at he
    have hne : a ≠ p.length - 1 := fun e => by rw [← e, hi] at h4; cases h4; simp at h5
    split at he
    · simp at he
    · exact .inl ⟨rfl, by omega, by omega, by omega⟩
  · rw [insE_j _ _ _ _ _ _ (by omega)] at he
    split at he
    · simp at he
    · exact .inr (.inl ⟨by omega, by omega, by omega, by omega, by omega, by omega, by omega⟩)
  · rw [insE_j _ _ _ _ _ _ (by omega)] at he
    split at he
    · simp at he
    · exact .inr (.inl ⟨by omega, by omega, by omega, by omega, by omega, by omega, by omega⟩)
  · rw [insE_j _ _ _ _ _ _ (by omega)] at he
    split at he
    · simp at he
    · exact .inr (.inl ⟨by omega, by omega, by omega, by omega, by omega, by omega, by omega⟩)
  · rw [insE_5 _ _ _ _ _ (by omega)] at he
    split at he
    · simp at he
    · exact .inr (.inr (.inl ⟨rfl, by omega, by omega⟩))
  · rw [insE_6] at he
    split at he
    · simp at he
    · exact .inr (.inr (.inr ⟨rfl, by omega⟩))
def runS (p : List Ins) (r : Rec) : Int × Int := if (checkS p).1 = 0 then runW p r 0 0 else (0, 0)
theorem l40 : lowF Try.prog Try.f40 = some c40 := by kernel_rfl
def pairV (x : Int × Int) : CV := .tup [iRV x.1, iRV x.2]
theorem next_s {s : Nat} (h : s < 9223372036854775807) : ((s + 1 : Nat) : Int) = IntKind.i64.wrap ((s : Int) + 1) := by
  rw [show (s : Int) + 1 = ((s + 1 : Nat) : Int) by omega, wrapN (by omega)]
set_option maxRecDepth 100000 in
set_option maxHeartbeats 8000000 in
theorem run_body (p : List Ins) (r : Rec) : body Try.prog c40 [insV p, r.cv] [] (fun x m => x = pairV (runS p r)) := by
  refine check_ok p ?_
  refine bB_bne (fun h => ?_) (fun h => ?_)
  · have e : runS p r = (0, 0) := by rw [runS, if_neg h]
    rw [e]; exact rfl
  · have e : runS p r = runW p r 0 0 := by rw [runS, if_pos h]
    rw [e]
    obtain ⟨g1, g2, g3, _⟩ := check_all h
    refine loop_mem (α := Nat × Int × Nat) (fun x => x.1 < p.length ∧ x.2.2 ≤ x.1 ∧ (runW p r x.1 x.2.1).1 = (runW p r 0 0).1 ∧ (runW p r x.1 x.2.1).2 + x.2.2 = (runW p r 0 0).2)
      (fun x => [(8, vInt .i64 (x.1 : Nat)), (7, vInt .i64 x.2.1), (5, vInt .i64 (x.2.2 : Nat)), (6, .junk), (9, .junk), (10, .junk), (11, .junk), (12, .junk), (13, .junk), (14, .junk), (15, .junk), (16, .junk), (17, .junk), (18, .junk), (19, .junk), (20, .junk), (21, .junk), (22, .junk), (23, .junk), (24, .junk), (25, .junk), (26, .junk), (27, .junk), (28, .junk), (29, .junk), (30, .junk), (31, .junk), (32, .junk), (33, .junk), (34, .junk), (35, .junk), (36, .junk), (37, .junk), (38, .junk), (39, .junk), (40, .junk), (41, .junk), (42, .junk), (43, .junk), (44, .junk), (45, .junk), (46, .junk), (47, .junk), (48, .junk), (49, .junk), (50, .junk), (51, .junk), (52, .junk), (53, .junk), (54, .junk), (55, .junk), (56, .junk), (57, .junk), (58, .junk), (59, .junk), (60, .junk), (61, .junk), (62, .junk), (63, .junk), (64, .junk), (65, .junk), (66, .junk), (67, .junk), (68, .junk), (69, .junk), (70, .junk), (71, .junk), (72, .junk), (73, .junk), (74, .junk)])
      (fun x => [.var (r.enc.map .dat)]) (fun x => p.length - x.1) (0, 0, 0) ⟨by show 0 < p.length; omega, Nat.le_refl 0, rfl, by simp⟩ ?_ (fun x hJ => ?_)
    · refine View.of 2 [0] [] rfl rfl rfl rfl rfl rfl ?_ ?_
      · repeat (first | exact .nil | refine .junk ?_ | refine .eq rfl ?_)
      · exact .put (by simp [memN]) rfl (.eq rfl (by simp)) (.nil _)
    · obtain ⟨a, acc, s⟩ := x
      obtain ⟨hlt, hsa, hr1, hr2⟩ := hJ
      have hlt : a < p.length := hlt
      have hsa : s ≤ a := hsa
      have hr1 : (runW p r a acc).1 = (runW p r 0 0).1 := hr1
      have hr2 : (runW p r a acc).2 + s = (runW p r 0 0).2 := hr2
      have hi := List.getElem?_eq_getElem hlt
      generalize p[a] = i at hi
      obtain ⟨o, jt, jf, k⟩ := i
      have hg : getZ (p.map Ins.enc) (a : Nat) = some [.val (.int .i64 o), .val (.int .i64 jt), .val (.int .i64 jf), .val (.int .i64 k)] := by
        rw [getZ_nat, List.getElem?_map, hi]; rfl
      have next : ∀ (d : Nat) (acc2 : Int), runW p r a acc = ((runW p r (a + d) acc2).1, (runW p r (a + d) acc2).2 + 1) → (1 ≤ d ∧ a + d < p.length) → ∀ {G : Prop},
          (((a + d < p.length) ∧ s + 1 ≤ a + d ∧ (runW p r (a + d) acc2).1 = (runW p r 0 0).1 ∧ (runW p r (a + d) acc2).2 + ((s + 1 : Nat) : Int) = (runW p r 0 0).2) → (p.length - (a + d) < p.length - a) → G) → G := by
        intro d acc2 hw hd G hG
        refine hG ⟨hd.2, by omega, ?_, ?_⟩ (by omega)
        · rw [← hr1, hw]
        · rw [← hr2, hw]; simp only; omega
      refine ok_some hg ?_
      rcases good_step h hi with ⟨rfl, k1, k2, k3⟩ | ⟨ho, j1, j2, j3, j4, j5, j6⟩ | ⟨rfl, k1, k2⟩ | ⟨rfl, k1⟩
      · obtain ⟨n, rfl⟩ : ∃ n : Nat, k = n := ⟨k.toNat, by omega⟩
        refine ok_some (idxZ_nat (by omega)) ?_
        refine ok_some (r.read (by omega)) ?_
        refine next 1 (r.get n) (runW_go hi (by simp) (by simp [nxt])) (by omega) (fun hJ hm => ?_)
        exact ⟨(a + 1, (r.get n), s + 1), hJ, hm, View.of 2 [0] [] rfl rfl rfl rfl rfl rfl (by
          repeat (first | exact .nil | refine .junk ?_ | refine .put (.ren (next_i64 (by omega)).symm) ?_ | refine .eq rfl ?_ | refine .eq (congrArg (fun x => vInt .i64 x) ((by rw [wrapN (n := a + 1) (by omega)] : ((a + 1 : Nat) : Int) = _))) ?_)) (.put (by simp [memN]) rfl (.eq rfl (by simp)) (.nil _))⟩
      · obtain ⟨x, rfl⟩ : ∃ n : Nat, jt = n := ⟨jt.toNat, by omega⟩
        obtain ⟨y, rfl⟩ : ∃ n : Nat, jf = n := ⟨jf.toNat, by omega⟩
        have ex : IntKind.i64.wrap ((a : Int) + IntKind.i64.wrap (1 + (x : Int))) = ((a + (1 + x) : Nat) : Int) := by
          rw [wrapI (n := 1 + (x : Int)) (by omega) (by omega), wrapI (by omega) (by omega)]; omega
        have ey : IntKind.i64.wrap ((a : Int) + IntKind.i64.wrap (1 + (y : Int))) = ((a + (1 + y) : Nat) : Int) := by
          rw [wrapI (n := 1 + (y : Int)) (by omega) (by omega), wrapI (by omega) (by omega)]; omega
        rcases ho with rfl | rfl | rfl
        · refine bB_beq (fun hy => ?_) (fun hy => ?_)
          · skip
            refine next (1 + x) acc (runW_go hi (by simp) ((nxt_2 x y k acc r).1 hy)) (by omega) (fun hJ hm => ?_)
            exact ⟨(a + (1 + x), acc, s + 1), hJ, hm, View.of 2 [0] [] rfl rfl rfl rfl rfl rfl (by
              repeat (first | exact .nil | refine .junk ?_ | refine .put (.ren (next_i64 (by omega)).symm) ?_ | refine .eq rfl ?_ | refine .eq (congrArg (fun x => vInt .i64 x) (ex.symm)) ?_)) (.put (by simp [memN]) rfl (.eq rfl (by simp)) (.nil _))⟩
          · skip
            refine next (1 + y) acc (runW_go hi (by simp) ((nxt_2 x y k acc r).2 hy)) (by omega) (fun hJ hm => ?_)
            exact ⟨(a + (1 + y), acc, s + 1), hJ, hm, View.of 2 [0] [] rfl rfl rfl rfl rfl rfl (by
              repeat (first | exact .nil | refine .junk ?_ | refine .put (.ren (next_i64 (by omega)).symm) ?_ | refine .eq rfl ?_ | refine .eq (congrArg (fun x => vInt .i64 x) (ey.symm)) ?_)) (.put (by simp [memN]) rfl (.eq rfl (by simp)) (.nil _))⟩
        · refine bB_dec (fun hy => ?_) (fun hy => ?_)
          · skip
            refine next (1 + x) acc (runW_go hi (by simp) ((nxt_3 x y k acc r).1 hy)) (by omega) (fun hJ hm => ?_)
            exact ⟨(a + (1 + x), acc, s + 1), hJ, hm, View.of 2 [0] [] rfl rfl rfl rfl rfl rfl (by
              repeat (first | exact .nil | refine .junk ?_ | refine .put (.ren (next_i64 (by omega)).symm) ?_ | refine .eq rfl ?_ | refine .eq (congrArg (fun x => vInt .i64 x) (ex.symm)) ?_)) (.put (by simp [memN]) rfl (.eq rfl (by simp)) (.nil _))⟩
          · skip
            refine next (1 + y) acc (runW_go hi (by simp) ((nxt_3 x y k acc r).2 hy)) (by omega) (fun hJ hm => ?_)
            exact ⟨(a + (1 + y), acc, s + 1), hJ, hm, View.of 2 [0] [] rfl rfl rfl rfl rfl rfl (by
              repeat (first | exact .nil | refine .junk ?_ | refine .put (.ren (next_i64 (by omega)).symm) ?_ | refine .eq rfl ?_ | refine .eq (congrArg (fun x => vInt .i64 x) (ey.symm)) ?_)) (.put (by simp [memN]) rfl (.eq rfl (by simp)) (.nil _))⟩
        · refine bB_bne (fun hy => ?_) (fun hy => ?_)
          · skip
            refine next (1 + x) acc (runW_go hi (by simp) ((nxt_4 x y k acc r).1 hy)) (by omega) (fun hJ hm => ?_)
            exact ⟨(a + (1 + x), acc, s + 1), hJ, hm, View.of 2 [0] [] rfl rfl rfl rfl rfl rfl (by
              repeat (first | exact .nil | refine .junk ?_ | refine .put (.ren (next_i64 (by omega)).symm) ?_ | refine .eq rfl ?_ | refine .eq (congrArg (fun x => vInt .i64 x) (ex.symm)) ?_)) (.put (by simp [memN]) rfl (.eq rfl (by simp)) (.nil _))⟩
          · skip
            refine next (1 + y) acc (runW_go hi (by simp) ((nxt_4 x y k acc r).2 hy)) (by omega) (fun hJ hm => ?_)
            exact ⟨(a + (1 + y), acc, s + 1), hJ, hm, View.of 2 [0] [] rfl rfl rfl rfl rfl rfl (by
              repeat (first | exact .nil | refine .junk ?_ | refine .put (.ren (next_i64 (by omega)).symm) ?_ | refine .eq rfl ?_ | refine .eq (congrArg (fun x => vInt .i64 x) (ey.symm)) ?_)) (.put (by simp [memN]) rfl (.eq rfl (by simp)) (.nil _))⟩
      · obtain ⟨n, rfl⟩ : ∃ n : Nat, k = n := ⟨k.toNat, by omega⟩
        have ex : IntKind.i64.wrap ((a : Int) + IntKind.i64.wrap (1 + (n : Int))) = ((a + (1 + n) : Nat) : Int) := by
          rw [wrapI (n := 1 + (n : Int)) (by omega) (by omega), wrapI (by omega) (by omega)]; omega
        refine next (1 + n) acc (runW_go hi (by simp) (by simp [nxt])) (by omega) (fun hJ hm => ?_)
        exact ⟨(a + (1 + n), acc, s + 1), hJ, hm, View.of 2 [0] [] rfl rfl rfl rfl rfl rfl (by
          repeat (first | exact .nil | refine .junk ?_ | refine .put (.ren (next_i64 (by omega)).symm) ?_ | refine .eq rfl ?_ | refine .eq (congrArg (fun x => vInt .i64 x) (ex.symm)) ?_)) (.put (by simp [memN]) rfl (.eq rfl (by simp)) (.nil _))⟩
      · have hb : runW p r a acc = (k, 1) := runW_back hi rfl
        rw [hb] at hr1 hr2
        show CV.tup [iRV k, iRV (IntKind.i64.wrap ((s : Int) + 1))] = _
        rw [← next_s (s := s) (by omega)]
        have e2 : runW p r 0 0 = (k, ((s + 1 : Nat) : Int)) := Prod.ext hr1.symm (by rw [← hr2]; simp only; omega)
        rw [e2]
        rfl
set_option maxRecDepth 100000 in
theorem run_ok (p : List Ins) (r : Rec) {m : Mem} {K : CV → Mem → Prop} (h : K (pairV (runS p r)) m) : ACall Try.prog 40 [insV p, r.cv] m K :=
  acall_val Try.func40 l40 rfl (Nat.le_of_ble_eq_true rfl) (run_body p r) rfl rfl h
end Go.Proofs.Ytflieebgiejjpaa
