import Derived.Test.YtflieebgiejjpaaAmZ2
import Derived.Test.YtflieebgiejjpaaDvBpf1
import Derived.Test.YtflieebgiejjpaaAmY
set_option linter.unusedVariables false
set_option linter.unusedSimpArgs false
namespace Go.Proofs.Ytflieebgiejjpaa
open Go.AM Go.ChangeShapes Go.WideShapes Go.ChangeAt Go.RowKit
def c38 : LF := ⟨46, [.cell true 2 2], (.seq (.reg [
    ⟨(some 2), .alloc [(.dat (.val (.int .i64 (0)))), (.dat (.val (.int .i64 (0))))], none⟩]) (.seq (.seq (.reg [
    ⟨(some 6), .mov (.t 0), none⟩,
    ⟨(some 7), .len 1 (.t 6), none⟩,
    ⟨(some 8), .bin .lss (.t 7) (.c (.rv (.one (.dat (.val (.int .i64 (1))))))), none⟩,
    ⟨(some 9), .mov (.t 8), none⟩,
    ⟨(some 10), .mov (.t 0), (some (9, false))⟩,
    ⟨(some 11), .len 1 (.t 10), (some (9, false))⟩,
    ⟨(some 12), .bin .gtr (.t 11) (.c (.rv (.one (.dat (.val (.int .i64 (400))))))), (some (9, false))⟩,
    ⟨(some 13), .pick (.t 9) (.c (.rv (.one (.dat (.val (.bool true)))))) (.t 12), none⟩]) (.cond (.t 13) (.seq (.reg [
    ⟨(some 14), .build [(.dat (.val (.int .i64 (0)))), (.dat (.val (.int .i64 (0))))] [(0, 1, (.c (.rv (.one (.dat (.val (.int .i64 (5))))))))], none⟩,
    ⟨none, .store 2 (.t 2) (.t 14), none⟩]) .ret) .skip)) (.seq (.seq (.reg [
    ⟨(some 15), .mov (.t 0), none⟩,
    ⟨(some 16), .len 1 (.t 15), none⟩,
    ⟨(some 17), .mov (.c (.rv (.one (.dat (.val (.int .i64 (0))))))), none⟩]) (.block 0 (.loop (.seq (.reg [
    ⟨(some 18), .bin .lss (.t 17) (.t 16), none⟩]) (.seq (.cond (.t 18) .skip (.exit 0)) (.seq (.block 1 (.seq (.reg [
    ⟨(some 19), .mov (.t 17), none⟩,
    ⟨(some 20), .idx 4 (.t 15) (.t 17), none⟩,
    ⟨(some 21), .load true 4 (.t 20), none⟩,
    ⟨(some 4), .alloc [(.dat (.val (.int .i64 (0)))), (.dat (.val (.int .i64 (0)))), (.dat (.val (.int .i64 (0)))), (.dat (.val (.int .i64 (0))))], none⟩,
    ⟨(some 3), .mov (.t 19), none⟩,
    ⟨none, .store 4 (.t 4) (.t 21), none⟩]) (.seq (.reg [
    ⟨(some 22), .load true 4 (.t 4), none⟩,
    ⟨(some 23), .mov (.t 3), none⟩,
    ⟨(some 24), .mov (.t 0), none⟩,
    ⟨(some 25), .len 1 (.t 24), none⟩,
    ⟨(some 26), .call (.c (.rv (.one (.fn 88 [])))) [(.t 22), (.t 23), (.t 25)], none⟩,
    ⟨(some 5), .mov (.t 26), none⟩]) (.seq (.reg [
    ⟨(some 27), .mov (.t 5), none⟩,
    ⟨(some 28), .bin .neq (.t 27) (.c (.rv (.one (.dat (.val (.int .i64 (0))))))), none⟩]) (.cond (.t 28) (.seq (.reg [
    ⟨(some 29), .mov (.t 5), none⟩,
    ⟨(some 30), .mov (.t 3), none⟩,
    ⟨(some 31), .build [(.dat (.val (.int .i64 (0)))), (.dat (.val (.int .i64 (0))))] [(0, 1, (.t 29)), (1, 1, (.t 30))], none⟩,
    ⟨none, .store 2 (.t 2) (.t 31), none⟩]) .ret) .skip))))) (.reg [
    ⟨(some 32), .bin .add (.t 17) (.c (.rv (.one (.dat (.val (.int .i64 (1))))))), none⟩,
    ⟨(some 17), .mov (.t 32), none⟩]))))))) (.seq (.seq (.reg [
    ⟨(some 33), .mov (.t 0), none⟩,
    ⟨(some 34), .mov (.t 0), none⟩,
    ⟨(some 35), .len 1 (.t 34), none⟩,
    ⟨(some 36), .bin .sub (.t 35) (.c (.rv (.one (.dat (.val (.int .i64 (1))))))), none⟩,
    ⟨(some 37), .idx 4 (.t 33) (.t 36), none⟩,
    ⟨(some 38), .fadr 0 (.t 37), none⟩,
    ⟨(some 39), .load false 1 (.t 38), none⟩,
    ⟨(some 40), .bin .neq (.t 39) (.c (.rv (.one (.dat (.val (.int .i64 (6))))))), none⟩]) (.cond (.t 40) (.seq (.reg [
    ⟨(some 41), .mov (.t 0), none⟩,
    ⟨(some 42), .len 1 (.t 41), none⟩,
    ⟨(some 43), .bin .sub (.t 42) (.c (.rv (.one (.dat (.val (.int .i64 (1))))))), none⟩,
    ⟨(some 44), .build [(.dat (.val (.int .i64 (0)))), (.dat (.val (.int .i64 (0))))] [(0, 1, (.c (.rv (.one (.dat (.val (.int .i64 (2)))))))), (1, 1, (.t 43))], none⟩,
    ⟨none, .store 2 (.t 2) (.t 44), none⟩]) .ret) .skip)) (.seq (.reg [
    ⟨(some 45), .build [(.dat (.val (.int .i64 (0)))), (.dat (.val (.int .i64 (0))))] [], none⟩,
    ⟨none, .store 2 (.t 2) (.t 45), none⟩]) .ret)))))⟩
def chkS (s : Int) : Nat → List Ins → Int × Int
  | _, [] => (0, 0)
  | k, i :: r => if insE i (k : Int) s = 0 then chkS s (k + 1) r else (insE i (k : Int) s, (k : Int))
theorem chkS_ok (s : Int) : ∀ (l : List Ins) (k : Nat), (∀ (j : Nat) i, l[j]? = some i → insE i ((k + j : Nat) : Int) s = 0) → chkS s k l = (0, 0)
  | [], _, _ => rfl
  | i :: r, k, h => by
    rw [chkS, if_pos (by simpa using h 0 i rfl)]
    exact chkS_ok s r (k + 1) fun j x hx => by
      have := h (j + 1) x (by simpa using hx)
      rwa [show k + (j + 1) = k + 1 + j by omega] at this
theorem chkS_bad (s : Int) : ∀ (l : List Ins) (k j : Nat) (i : Ins), l[j]? = some i → (∀ (j' : Nat) i, j' < j → l[j']? = some i → insE i ((k + j' : Nat) : Int) s = 0) → insE i ((k + j : Nat) : Int) s ≠ 0 → chkS s k l = (insE i ((k + j : Nat) : Int) s, ((k + j : Nat) : Int))
  | [], _, j, i, h, _, _ => by simp at h
  | x :: r, k, 0, i, h, _, hb => by
    simp at h
    subst h
    rw [chkS, if_neg (by simpa using hb)]; rfl
  | x :: r, k, j + 1, i, h, hg, hb => by
    rw [chkS, if_pos (by simpa using hg 0 x (by omega) rfl)]
    rw [show k + (j + 1) = k + 1 + j by omega] at hb ⊢
    exact chkS_bad s r (k + 1) j i (by simpa using h) (fun j' y hj hy => by
      have := hg (j' + 1) y (by omega) (by simpa using hy)
      rwa [show k + (j' + 1) = k + 1 + j' by omega] at this) hb
def checkS (p : List Ins) : Int × Int :=
  if p.length < 1 ∨ p.length > 400 then (5, 0)
  else if (chkS p.length 0 p).1 ≠ 0 then chkS p.length 0 p
  else match p[p.length - 1]? with
    | some i => if i.op = 6 then (0, 0) else (2, ((p.length - 1 : Nat) : Int))
    | none => (0, 0)
theorem l38 : lowF Try.prog Try.f38 = some c38 := by kernel_rfl
set_option maxRecDepth 100000 in
set_option maxHeartbeats 4000000 in
theorem check_body (p : List Ins) : body Try.prog c38 [insV p] [] (fun r m => r = fltV (checkS p)) := by
  refine bB_split (fun h => ?_) (fun h0 => ?_)
  · have h : p.length < 1 := by
      have h : (((p.map Ins.enc).length : Nat) : Int) < 1 := of_decide_eq_true h
      rw [List.length_map] at h; omega
    rw [checkS, if_pos (.inl h)]; exact rfl
  · refine bB_split (fun h => ?_) (fun h1 => ?_)
    · have h : p.length > 400 := by
        have h : (((p.map Ins.enc).length : Nat) : Int) > 400 := of_decide_eq_true h
        simp at h; omega
      rw [checkS, if_pos (.inr h)]; exact rfl
    · have h0 : ¬ p.length < 1 := by
        have h : ¬ (((p.map Ins.enc).length : Nat) : Int) < 1 := of_decide_eq_false h0
        rw [List.length_map] at h; omega
      have h1 : ¬ p.length > 400 := by
        have h : ¬ (((p.map Ins.enc).length : Nat) : Int) > 400 := of_decide_eq_false h1
        rw [List.length_map] at h; omega
      have hc : checkS p = if (chkS p.length 0 p).1 ≠ 0 then chkS p.length 0 p else match p[p.length - 1]? with
          | some i => if i.op = 6 then (0, 0) else (2, ((p.length - 1 : Nat) : Int))
          | none => (0, 0) := by rw [checkS, if_neg (by omega)]
      refine loop_mem (fun k => k ≤ p.length ∧ ∀ (j : Nat) i, j < k → p[j]? = some i → insE i (j : Int) p.length = 0) (fun k => [(17, vInt .i64 (k : Nat)), (3, .junk), (4, .junk), (5, .junk), (18, .junk), (19, .junk), (20, .junk), (21, .junk), (22, .junk), (23, .junk), (24, .junk), (25, .junk), (26, .junk), (27, .junk), (28, .junk), (32, .junk)])
        (fun k => [.var [.dat (.val (.int .i64 0)), .dat (.val (.int .i64 0))]]) (fun k => p.length - k) 0 ⟨Nat.zero_le _, fun j i h => absurd h (Nat.not_lt_zero j)⟩ ?_ (fun k hk => ?_)
      · refine View.of 1 [0] [] rfl rfl rfl rfl rfl rfl ?_ ?_
        · repeat (first | exact .nil | refine .junk ?_ | refine .eq rfl ?_)
        · exact .put (by simp [memN]) rfl (.eq rfl (by simp)) (.nil _)
      · refine bB_split (fun h => ?_) (fun h => ?_)
        · have hlt : k < p.length := by
            have h : (k : Int) < ((p.map Ins.enc).length : Int) := of_decide_eq_true h
            rw [List.length_map] at h
            omega
          have hg : getZ (p.map Ins.enc) (k : Nat) = some (p[k].enc) := by
            rw [getZ_nat, List.getElem?_map, List.getElem?_eq_getElem hlt]; rfl
          have hlen : (((p.map Ins.enc).length : Nat) : Int) = (p.length : Int) := by rw [List.length_map]
          refine ok_some hg ?_
          have hcall : ∀ {m : Mem} {K : CV → Mem → Prop}, K (vInt .i64 (insE p[k] k p.length)) m → ACall Try.prog 88 [p[k].cv, vInt .i64 k, vInt .i64 (((p.map Ins.enc).length : Nat) : Int)] m K := by
            intro m K h
            rw [hlen]
            exact instr_ok _ _ _ (by omega) (by omega) (by omega) h
          refine hcall ?_
          refine bB_split (fun h3 => ?_) (fun h3 => ?_)
          · have h3 : insE p[k] k p.length ≠ 0 := by simpa using h3
            have := chkS_bad p.length p 0 k p[k] (List.getElem?_eq_getElem hlt) (fun j i hj hi => by simpa using hk.2 j i hj hi) (by simpa using h3)
            rw [Nat.zero_add] at this
            rw [hc, this, if_pos h3]
            exact rfl
          · have h3 : insE p[k] k p.length = 0 := by simpa using h3
            refine ⟨k + 1, ⟨hlt, fun j i hj hi => ?_⟩, ?_, View.of 2 [0] [] rfl rfl rfl rfl rfl rfl ?_ ?_⟩
            · rcases Nat.lt_or_ge j k with h5 | h5
              · exact hk.2 j i h5 hi
              · have : j = k := by omega
                subst this
                rw [List.getElem?_eq_getElem hlt] at hi
                cases hi
                exact h3
            · show p.length - (k + 1) < p.length - k
              omega
            · repeat (first | exact .nil | refine .junk ?_ | refine .put (.ren (next_i64 (by omega)).symm) ?_ | refine .eq rfl ?_)
            · exact .put (by simp [memN]) rfl (.eq rfl (by simp)) (.nil _)
        · have hge : ¬ (k : Int) < ((p.map Ins.enc).length : Int) := of_decide_eq_false h
          rw [List.length_map] at hge
          have hall := chkS_ok p.length p 0 fun j i hi => by
            have := (List.getElem?_eq_some_iff.1 hi).1
            simpa using hk.2 j i (by omega) hi
          rw [hc, hall, if_neg (by simp)]
          have hlast : p.length - 1 < p.length := by omega
          rw [List.getElem?_eq_getElem hlast]
          have hw : IntKind.i64.wrap ((((p.map Ins.enc).length : Nat) : Int) - 1) = ((p.length - 1 : Nat) : Int) := by
            rw [List.length_map, wrapI (by omega) (by omega)]; omega
          have hg : getZ (p.map Ins.enc) (IntKind.i64.wrap ((((p.map Ins.enc).length : Nat) : Int) - 1)) = some (p[p.length - 1].enc) := by
            rw [hw, getZ_nat, List.getElem?_map, List.getElem?_eq_getElem hlast]; rfl
          refine ok_some hg ?_
          refine bB_split (fun h3 => ?_) (fun h3 => ?_)
          · have h3 : p[p.length - 1].op ≠ 6 := by simpa using h3
            show fltV (2, IntKind.i64.wrap ((((p.map Ins.enc).length : Nat) : Int) - 1)) = _
            rw [hw]
            simp only
            rw [if_neg h3]
          · have h3 : p[p.length - 1].op = 6 := by simpa using h3
            simp only
            rw [if_pos h3]
            exact rfl
set_option maxRecDepth 100000 in
theorem check_ok (p : List Ins) {m : Mem} {K : CV → Mem → Prop} (h : K (fltV (checkS p)) m) : ACall Try.prog 38 [insV p] m K :=
  acall_val Try.func38 l38 rfl (Nat.le_of_ble_eq_true rfl) (check_body p) rfl rfl h
end Go.Proofs.Ytflieebgiejjpaa
