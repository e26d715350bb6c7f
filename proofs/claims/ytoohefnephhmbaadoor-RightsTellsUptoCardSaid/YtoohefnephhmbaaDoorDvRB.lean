import Derived.Test.YtoohefnephhmbaaDoorAmZ2
import Derived.Test.YtoohefnephhmbaaDoorDvRA
import Derived.Test.YtoohefnephhmbaaDoorAmY
set_option linter.unusedVariables false
set_option linter.unusedSimpArgs false
namespace Go.Proofs.YtoohefnephhmbaaDoor
open Go.AM Go.ChangeShapes Go.WideShapes Go.ChangeAt Go.RowKit
def c19 : LF := ⟨40, [.cell false 1 2, .cell false 1 3], (.seq (.reg [
    ⟨(some 2), .alloc [(.dat (.val (.int .i64 (0))))], none⟩,
    ⟨(some 3), .alloc [(.dat (.val (.int .i64 (0))))], none⟩]) (.seq (.seq (.reg [
    ⟨(some 10), .mov (.t 0), none⟩,
    ⟨(some 11), .bin .eql (.t 10) (.c (.rv (.one (.dat (.val (.string ⟨#[]⟩)))))), none⟩]) (.cond (.t 11) (.seq (.reg [
    ⟨none, .store 1 (.t 2) (.c (.rv (.one (.dat (.val (.int .i64 (0))))))), none⟩,
    ⟨none, .store 1 (.t 3) (.c (.rv (.one (.dat (.val (.int .i64 (0))))))), none⟩]) .ret) .skip)) (.seq (.reg [
    ⟨(some 4), .alloc [(.dat (.val (.int .i64 (0))))], none⟩,
    ⟨(some 5), .alloc [(.dat (.val (.int .i64 (0))))], none⟩,
    ⟨none, .store 1 (.t 4) (.c (.rv (.one (.dat (.val (.int .i64 (0))))))), none⟩,
    ⟨none, .store 1 (.t 5) (.c (.rv (.one (.dat (.val (.int .i64 (-1))))))), none⟩]) (.seq (.seq (.reg [
    ⟨(some 12), .mov (.t 0), none⟩,
    ⟨(some 13), .call (.c (.rv (.one (.fn 38 [])))) [(.t 12), (.c (.rv (.one (.dat (.val (.string ⟨#[44]⟩))))))], none⟩]) (.block 0 (.rfun (.t 13) 14 (.reg [
    ⟨(some 6), .mov (.t 14), none⟩]) (.block 1 (.seq (.reg [
    ⟨(some 7), .mov (.c (.rv (.one (.dat (.val (.int .i64 (-1))))))), none⟩]) (.seq (.seq (.reg [
    ⟨(some 15), .call (.c (.rv (.one (.fn 24 [])))) [], none⟩,
    ⟨(some 16), .len 1 (.t 15), none⟩,
    ⟨(some 17), .mov (.c (.rv (.one (.dat (.val (.int .i64 (0))))))), none⟩]) (.block 2 (.loop (.seq (.reg [
    ⟨(some 18), .bin .lss (.t 17) (.t 16), none⟩]) (.seq (.cond (.t 18) .skip (.exit 2)) (.seq (.block 3 (.seq (.reg [
    ⟨(some 19), .mov (.t 17), none⟩,
    ⟨(some 20), .idx 1 (.t 15) (.t 17), none⟩,
    ⟨(some 21), .load false 1 (.t 20), none⟩,
    ⟨(some 8), .mov (.t 19), none⟩,
    ⟨(some 9), .mov (.t 21), none⟩]) (.seq (.reg [
    ⟨(some 22), .mov (.t 9), none⟩,
    ⟨(some 23), .mov (.t 6), none⟩,
    ⟨(some 24), .bin .eql (.t 22) (.t 23), none⟩]) (.cond (.t 24) (.reg [
    ⟨(some 25), .mov (.t 8), none⟩,
    ⟨(some 7), .mov (.t 25), none⟩]) .skip)))) (.reg [
    ⟨(some 26), .bin .add (.t 17) (.c (.rv (.one (.dat (.val (.int .i64 (1))))))), none⟩,
    ⟨(some 17), .mov (.t 26), none⟩]))))))) (.seq (.block 4 (.seq (.reg [
    ⟨(some 28), .mov (.t 7), none⟩,
    ⟨(some 29), .bin .lss (.t 28) (.c (.rv (.one (.dat (.val (.int .i64 (0))))))), none⟩,
    ⟨(some 27), .mov (.t 29), none⟩]) (.cond (.t 27) (.seq (.reg [
    ⟨none, .store 1 (.t 2) (.c (.rv (.one (.dat (.val (.int .i64 (0))))))), none⟩,
    ⟨none, .store 1 (.t 3) (.c (.rv (.one (.dat (.val (.int .i64 (6))))))), none⟩]) .ret) (.seq (.reg [
    ⟨(some 31), .mov (.t 7), none⟩,
    ⟨(some 32), .load false 1 (.t 5), none⟩,
    ⟨(some 33), .bin .leq (.t 31) (.t 32), none⟩,
    ⟨(some 30), .mov (.t 33), none⟩]) (.cond (.t 30) (.seq (.reg [
    ⟨none, .store 1 (.t 2) (.c (.rv (.one (.dat (.val (.int .i64 (0))))))), none⟩,
    ⟨none, .store 1 (.t 3) (.c (.rv (.one (.dat (.val (.int .i64 (2))))))), none⟩]) .ret) .skip))))) (.seq (.draw [
    ⟨(some 34), .load false 1 (.t 4), none⟩,
    ⟨(some 35), .mov (.t 7), none⟩,
    ⟨(some 36), .bin .shl (.c (.rv (.one (.dat (.val (.int .i64 (1))))))) (.t 35), none⟩,
    ⟨(some 37), .bin .or (.t 34) (.t 36), none⟩,
    ⟨none, .store 1 (.t 4) (.t 37), none⟩]
    [(.cons 0 none (.cons 1 none (.cons 2 none (.cons 3 none (.cons 4 (some []) .nil)))))]) (.reg [
    ⟨(some 38), .mov (.t 7), none⟩,
    ⟨none, .store 1 (.t 5) (.t 38), none⟩]))))))))) (.seq (.reg [
    ⟨(some 39), .load false 1 (.t 4), none⟩,
    ⟨none, .store 1 (.t 2) (.t 39), none⟩,
    ⟨none, .store 1 (.t 3) (.c (.rv (.one (.dat (.val (.int .i64 (0))))))), none⟩]) .ret)))))⟩
def c20 : LF := ⟨44, [.tmp 2, .tmp 3], (.seq (.reg [
    ⟨(some 2), .mov (.c (.rv (.one (.dat (.val (.int .i64 (0))))))), none⟩,
    ⟨(some 3), .mov (.c (.rv (.one (.dat (.val (.int .i64 (0))))))), none⟩]) (.seq (.seq (.reg [
    ⟨(some 11), .mov (.t 0), none⟩,
    ⟨(some 12), .bin .eql (.t 11) (.c (.rv (.one (.dat (.val (.string ⟨#[]⟩)))))), none⟩]) (.cond (.t 12) (.seq (.reg [
    ⟨(some 2), .mov (.c (.rv (.one (.dat (.val (.int .i64 (0))))))), none⟩,
    ⟨(some 3), .mov (.c (.rv (.one (.dat (.val (.int .i64 (0))))))), none⟩]) .ret) .skip)) (.seq (.reg [
    ⟨(some 4), .alloc [(.dat (.val (.bool false))), (.dat (.val (.bool false))), (.dat (.val (.bool false))), (.dat (.val (.bool false))), (.dat (.val (.bool false))), (.dat (.val (.bool false))), (.dat (.val (.bool false))), (.dat (.val (.bool false))), (.dat (.val (.bool false))), (.dat (.val (.bool false))), (.dat (.val (.bool false))), (.dat (.val (.bool false)))], none⟩]) (.seq (.reg [
    ⟨(some 5), .mov (.c (.rv (.one (.dat (.val (.int .i64 (0))))))), none⟩]) (.seq (.seq (.reg [
    ⟨(some 13), .mov (.t 0), none⟩,
    ⟨(some 14), .call (.c (.rv (.one (.fn 39 [])))) [(.t 13), (.c (.rv (.one (.dat (.val (.int .u8 (44)))))))], none⟩,
    ⟨(some 15), .len 1 (.t 14), none⟩,
    ⟨(some 16), .mov (.c (.rv (.one (.dat (.val (.int .i64 (0))))))), none⟩]) (.block 0 (.loop (.seq (.reg [
    ⟨(some 17), .bin .lss (.t 16) (.t 15), none⟩]) (.seq (.cond (.t 17) .skip (.exit 0)) (.seq (.block 1 (.seq (.reg [
    ⟨(some 18), .idx 1 (.t 14) (.t 16), none⟩,
    ⟨(some 19), .load false 1 (.t 18), none⟩,
    ⟨(some 7), .mov (.t 19), none⟩]) (.seq (.reg [
    ⟨(some 8), .mov (.c (.rv (.one (.dat (.val (.int .i64 (-1))))))), none⟩]) (.seq (.seq (.reg [
    ⟨(some 20), .call (.c (.rv (.one (.fn 25 [])))) [], none⟩,
    ⟨(some 21), .len 1 (.t 20), none⟩,
    ⟨(some 22), .mov (.c (.rv (.one (.dat (.val (.int .i64 (0))))))), none⟩]) (.block 2 (.loop (.seq (.reg [
    ⟨(some 23), .bin .lss (.t 22) (.t 21), none⟩]) (.seq (.cond (.t 23) .skip (.exit 2)) (.seq (.block 3 (.seq (.reg [
    ⟨(some 24), .mov (.t 22), none⟩,
    ⟨(some 25), .idx 1 (.t 20) (.t 22), none⟩,
    ⟨(some 26), .load false 1 (.t 25), none⟩,
    ⟨(some 9), .mov (.t 24), none⟩,
    ⟨(some 10), .mov (.t 26), none⟩]) (.seq (.reg [
    ⟨(some 27), .mov (.t 7), none⟩,
    ⟨(some 28), .mov (.t 10), none⟩,
    ⟨(some 29), .bin .eql (.t 27) (.t 28), none⟩]) (.cond (.t 29) (.reg [
    ⟨(some 30), .mov (.t 9), none⟩,
    ⟨(some 8), .mov (.t 30), none⟩]) .skip)))) (.reg [
    ⟨(some 31), .bin .add (.t 22) (.c (.rv (.one (.dat (.val (.int .i64 (1))))))), none⟩,
    ⟨(some 22), .mov (.t 31), none⟩]))))))) (.seq (.seq (.reg [
    ⟨(some 32), .mov (.t 8), none⟩,
    ⟨(some 33), .bin .lss (.t 32) (.c (.rv (.one (.dat (.val (.int .i64 (0))))))), none⟩]) (.cond (.t 33) (.seq (.reg [
    ⟨(some 2), .mov (.c (.rv (.one (.dat (.val (.int .i64 (0))))))), none⟩,
    ⟨(some 3), .mov (.c (.rv (.one (.dat (.val (.int .i64 (6))))))), none⟩]) .ret) .skip)) (.seq (.seq (.reg [
    ⟨(some 34), .mov (.t 8), none⟩,
    ⟨(some 35), .mov (.t 5), none⟩,
    ⟨(some 36), .bin .lss (.t 34) (.t 35), none⟩]) (.cond (.t 36) (.seq (.reg [
    ⟨(some 2), .mov (.c (.rv (.one (.dat (.val (.int .i64 (0))))))), none⟩,
    ⟨(some 3), .mov (.c (.rv (.one (.dat (.val (.int .i64 (2))))))), none⟩]) .ret) .skip)) (.seq (.reg [
    ⟨(some 37), .mov (.t 8), none⟩,
    ⟨(some 38), .idxa 12 1 (.t 4) (.t 37), none⟩,
    ⟨none, .store 1 (.t 38) (.c (.rv (.one (.dat (.val (.bool true)))))), none⟩]) (.reg [
    ⟨(some 39), .mov (.t 8), none⟩,
    ⟨(some 40), .bin .add (.t 39) (.c (.rv (.one (.dat (.val (.int .i64 (1))))))), none⟩,
    ⟨(some 5), .mov (.t 40), none⟩])))))))) (.reg [
    ⟨(some 41), .bin .add (.t 16) (.c (.rv (.one (.dat (.val (.int .i64 (1))))))), none⟩,
    ⟨(some 16), .mov (.t 41), none⟩]))))))) (.seq (.reg [
    ⟨(some 42), .load true 12 (.t 4), none⟩,
    ⟨(some 43), .call (.c (.rv (.one (.fn 41 [])))) [(.t 42)], none⟩,
    ⟨(some 2), .mov (.t 43), none⟩,
    ⟨(some 3), .mov (.c (.rv (.one (.dat (.val (.int .i64 (0))))))), none⟩]) .ret))))))⟩
theorem l19 : lowF Tryd.prog Tryd.f19 = some c19 := by kernel_rfl
theorem l20 : lowF Tryd.prog Tryd.f20 = some c20 := by kernel_rfl
/-- which right a text names, among the first k; -1: none -/
def atN (w : Txt) : Nat → Int
  | 0 => -1
  | k + 1 => if nameT k = w then (k : Int) else atN w k
theorem atN_range (w : Txt) : ∀ k, k ≤ 12 → -1 ≤ atN w k ∧ atN w k < 12
  | 0, _ => by simp [atN]
  | k + 1, h => by
    have := atN_range w k (by omega)
    simp only [atN]
    split <;> omega
/-- what a text's pieces say -/
def pGo : List Txt → Nat → Nat → Nat × Int
  | [], n, _ => (n, 0)
  | w :: r, n, next => if atN w 12 < 0 then (0, 6) else if atN w 12 < next then (0, 2) else pGo r (n ||| 2 ^ (atN w 12).toNat) ((atN w 12).toNat + 1)
def parseS (t : Txt) : Nat × Int := if t = [] then (0, 0) else pGo (cutL 44 t) 0 0
def paRV (p : Nat × Int) : CV := .tup [.one (.dat (.val (.int .i64 p.1))), .one (.dat (.val (.int .i64 p.2)))]
def paE (t : Txt) : List CV := vT t :: .junk :: pt 0 :: pt 1 :: pt 2 :: pt 3 :: repl 34 .junk
def iC (n : Int) : Bk := .var [.dat (.val (.int .i64 n))]
def paM (a : Nat × Nat) : Mem := [iC 0, iC 0, iC a.1, iC ((a.2 : Int) - 1)]
theorem or_lt {n k : Nat} (hn : n < 2 ^ k) : n ||| 2 ^ k < 2 ^ (k + 1) :=
  Nat.or_lt_two_pow (Nat.lt_of_lt_of_le hn (Nat.pow_le_pow_right (by omega) (by omega))) (Nat.pow_lt_pow_right (by omega) (by omega))
theorem pow12 {k : Nat} (h : k ≤ 12) : 2 ^ k ≤ 4096 := Nat.pow_le_pow_right (by omega) h
set_option maxRecDepth 100000 in
set_option maxHeartbeats 8000000 in
theorem parse_body (t : Txt) (ht : t.length ≤ 4194304) : body Tryd.prog c19 [vT t] [] (fun r m => r = paRV (parseS t)) := by
  refine bB_str (b := []) (fun h => ?_) (fun h0 => ?_)
  · subst h; rfl
  refine sq38 (bysL t) ⟨#[44]⟩ ?_
  refine ⟨49, [5, 4, 6], [.string ⟨#[44]⟩, .string (bysL t), .int .i64 0], pieces 44 (bysL t), Nat × Nat, fun k a => pGo (cutL 44 t) 0 0 = pGo ((cutL 44 t).drop k) a.1 a.2 ∧ a.1 < 2 ^ a.2 ∧ a.2 ≤ 12, fun a => ⟨paE t, paM a⟩, rfl,
    ⟨⟨rfl, rfl⟩, ⟨rfl, rfl⟩, ⟨rfl, rfl⟩, trivial⟩, ⟨by decide, by simp⟩, split_seq (bysL t) 44 (by rw [bysL_sizeI]; omega), ⟨(0, 0), ⟨rfl, by decide, by decide⟩, ?_⟩, ?_, ?_⟩
  · refine View.of 7 [0, 1, 2, 3] [] rfl rfl rfl rfl rfl rfl ?_ ?_
    · repeat (first | exact .nil | refine .junk ?_ | refine .eq rfl ?_)
    · repeat (first | exact .nil _ | refine .put (by simp [memN]) rfl (.eq rfl (by simp [iC])) ?_)
  · intro k y a hk hJ
    obtain ⟨w, hw, rfl⟩ := pieces_get hk
    obtain ⟨n, next⟩ := a
    obtain ⟨hg, hn, hx⟩ := hJ
    simp only at hg hn hx
    have hdk : (cutL 44 t).drop k = w :: (cutL 44 t).drop (k + 1) := by
      obtain ⟨hlt, hw⟩ := List.getElem?_eq_some_iff.1 hw
      rw [List.drop_eq_getElem_cons hlt, hw]
    rw [hdk] at hg
    have hnb : n < 4096 := Nat.lt_of_lt_of_le hn (pow12 hx)
    refine names_ok ?_
    refine loop_keep (fun k => k ≤ 12) [2, 3, 4, 5, 6] (fun k => [(7, vInt .i64 (atN w k)), (15, txV namesT), (16, vInt .i64 12), (17, vInt .i64 (k : Nat))]) (fun k => paM (n, next)) (fun k => 12 - k) 0 (Nat.zero_le _) ?_ (fun k hk => ?_)
    · refine View.of 4 [0, 1, 2, 3] [] rfl rfl rfl rfl rfl rfl ?_ ?_
      · repeat (first | exact .nil | refine .junk ?_ | refine .eq rfl ?_)
      · repeat (first | exact .nil _ | refine .put (by simp [memN]) rfl (.eq rfl (by simp [iC])) ?_)
    have hk : k ≤ 12 := hk
    refine bB_dec (fun h => ?_) (fun h => ?_)
    · have hlt : k < 12 := by
        have h : (k : Int) < 12 := h
        omega
      refine ok_some (names_get hlt) ?_
      refine bB_str (fun h1 => ?_) (fun h1 => ?_)
      · refine ⟨k + 1, hlt, (show 12 - (k + 1) < 12 - k by omega), View.of 4 [0, 1, 2, 3] [] rfl rfl rfl rfl rfl rfl ?_ ?_⟩
        · have e : atN w (k + 1) = (k : Int) := by simp only [atN]; rw [if_pos h1]
          rw [e]
          repeat (first | exact .nil | refine .junk ?_ | refine .put (.ren (next_i64 (by omega)).symm) ?_ | refine .eq rfl ?_)
        · repeat (first | exact .nil _ | refine .put (by simp [memN]) rfl (.eq rfl (by simp [iC])) ?_)
      · refine ⟨k + 1, hlt, (show 12 - (k + 1) < 12 - k by omega), View.of 4 [0, 1, 2, 3] [] rfl rfl rfl rfl rfl rfl ?_ ?_⟩
        · have e : atN w (k + 1) = atN w k := by simp only [atN]; rw [if_neg h1]
          rw [e]
          repeat (first | exact .nil | refine .junk ?_ | refine .put (.ren (next_i64 (by omega)).symm) ?_ | refine .eq rfl ?_)
        · repeat (first | exact .nil _ | refine .put (by simp [memN]) rfl (.eq rfl (by simp [iC])) ?_)
    · have hk12 : k = 12 := by
        have h : ¬ (k : Int) < 12 := h
        omega
      subst hk12
      have hr := atN_range w 12 (Nat.le_refl _)
      refine bB_dec (fun h1 => ?_) (fun h1 => ?_)
      · have hs : parseS t = (0, 6) := by rw [parseS, if_neg h0, hg, pGo, if_pos h1]
        rw [hs]; rfl
      · refine bB_dec (fun h2 => ?_) (fun h2 => ?_)
        · have hs : parseS t = (0, 2) := by rw [parseS, if_neg h0, hg, pGo, if_neg h1, if_pos (by omega)]
          rw [hs]; rfl
        · obtain ⟨j, hj⟩ : ∃ j : Nat, atN w 12 = (j : Int) := Int.eq_ofNat_of_zero_le (by omega)
          rw [pGo, if_neg h1, if_neg (by omega), hj] at hg
          rw [hj] at h2 hr ⊢
          have hj12 : j < 12 := by omega
          have hjn : next ≤ j := by omega
          have hnj : n < 2 ^ j := Nat.lt_of_lt_of_le hn (Nat.pow_le_pow_right (by omega) hjn)
          have h2j := pow12 (k := j) (by omega)
          have hor : orV (n : Int) (shl 1 (min (j : Int).toNat 64)) = ((n ||| 2 ^ j : Nat) : Int) := by
            rw [show min (j : Int).toNat 64 = j by omega]
            have := shl_nat (a := 1) (n := j) (by rw [Nat.one_mul]; exact Nat.lt_of_le_of_lt h2j (by decide))
            rw [Nat.one_mul] at this
            rw [show (1 : Int) = ((1 : Nat) : Int) from rfl, this]
            exact orV_nat (a := n) (b := 2 ^ j) (Nat.lt_trans hnb (by decide)) (Nat.lt_of_le_of_lt h2j (by decide))
          refine ⟨trivial, ?_⟩
          refine ⟨(n ||| 2 ^ j, j + 1), ⟨hg, or_lt hnj, by omega⟩, ?_⟩
          show View 0 ⟨_, [iC 0, iC 0, iC (orV (n : Int) (shl 1 (min (j : Int).toNat 64))), iC (j : Int)]⟩ _
          rw [hor]
          refine View.of 4 [0, 1, 2, 3] [] rfl rfl rfl rfl rfl rfl ?_ ?_
          · repeat (first | exact .nil | refine .junk ?_ | refine .eq rfl ?_)
          · have e : (((j + 1 : Nat) : Int) - 1) = (j : Int) := by omega
            show MemVw _ _ _ 0 [iC 0, iC 0, iC ((n ||| 2 ^ j : Nat) : Int), iC (((j + 1 : Nat) : Int) - 1)]
            rw [e]
            repeat (first | exact .nil _ | refine .put (by simp [memN]) rfl (.eq rfl (by simp [iC])) ?_)
  · intro a hJ
    obtain ⟨n, next⟩ := a
    obtain ⟨hg, hn, hx⟩ := hJ
    have hpl : (pieces 44 (bysL t)).length = (cutL 44 t).length := by simp [pieces]
    rw [hpl, List.drop_length] at hg
    have hs : parseS t = (n, 0) := by rw [parseS, if_neg h0, hg]; rfl
    rw [hs]
    rfl
theorem parse_ok (t : Txt) (ht : t.length ≤ 4194304) {m : Mem} {K : CV → Mem → Prop} (h : K (paRV (parseS t)) m) : ACall Tryd.prog 19 [vT t] m K :=
  acall_val Tryd.func19 l19 rfl (Nat.le_of_ble_eq_true rfl) (parse_body t ht) rfl rfl h
def c21 : LF := ⟨22, [.tmp 2, .tmp 3], (.seq (.reg [
    ⟨(some 1), .box (.t 0), none⟩,
    ⟨(some 2), .mov (.c (.rv (.one (.dat (.val (.int .i64 (0))))))), none⟩,
    ⟨(some 3), .mov (.c (.rv (.one (.dat (.val (.int .i64 (0))))))), none⟩]) (.seq (.seq (.reg [
    ⟨(some 4), .idxa 2 1 (.t 1) (.c (.rv (.one (.dat (.val (.int .i64 (0))))))), none⟩,
    ⟨(some 5), .load false 1 (.t 4), none⟩,
    ⟨(some 6), .bin .shr (.t 5) (.c (.rv (.one (.dat (.val (.int .u64 (6))))))), none⟩,
    ⟨(some 7), .bin .neq (.t 6) (.c (.rv (.one (.dat (.val (.int .i64 (1))))))), none⟩,
    ⟨(some 8), .mov (.t 7), none⟩,
    ⟨(some 9), .idxa 2 1 (.t 1) (.c (.rv (.one (.dat (.val (.int .i64 (1))))))), (some (8, false))⟩,
    ⟨(some 10), .load false 1 (.t 9), (some (8, false))⟩,
    ⟨(some 11), .bin .shr (.t 10) (.c (.rv (.one (.dat (.val (.int .u64 (6))))))), (some (8, false))⟩,
    ⟨(some 12), .bin .neq (.t 11) (.c (.rv (.one (.dat (.val (.int .i64 (2))))))), (some (8, false))⟩,
    ⟨(some 13), .pick (.t 8) (.c (.rv (.one (.dat (.val (.bool true)))))) (.t 12), none⟩]) (.cond (.t 13) (.seq (.reg [
    ⟨(some 2), .mov (.c (.rv (.one (.dat (.val (.int .i64 (0))))))), none⟩,
    ⟨(some 3), .mov (.c (.rv (.one (.dat (.val (.int .i64 (2))))))), none⟩]) .ret) .skip)) (.seq (.reg [
    ⟨(some 14), .idxa 2 1 (.t 1) (.c (.rv (.one (.dat (.val (.int .i64 (0))))))), none⟩,
    ⟨(some 15), .load false 1 (.t 14), none⟩,
    ⟨(some 16), .bin .and (.t 15) (.c (.rv (.one (.dat (.val (.int .i64 (63))))))), none⟩,
    ⟨(some 17), .idxa 2 1 (.t 1) (.c (.rv (.one (.dat (.val (.int .i64 (1))))))), none⟩,
    ⟨(some 18), .load false 1 (.t 17), none⟩,
    ⟨(some 19), .bin .and (.t 18) (.c (.rv (.one (.dat (.val (.int .i64 (63))))))), none⟩,
    ⟨(some 20), .bin .shl (.t 19) (.c (.rv (.one (.dat (.val (.int .u64 (6))))))), none⟩,
    ⟨(some 21), .bin .or (.t 16) (.t 20), none⟩,
    ⟨(some 2), .mov (.t 21), none⟩,
    ⟨(some 3), .mov (.c (.rv (.one (.dat (.val (.int .i64 (0))))))), none⟩]) .ret)))⟩
def c22 : LF := ⟨30, [.tmp 2, .tmp 3], (.seq (.reg [
    ⟨(some 1), .box (.t 0), none⟩,
    ⟨(some 2), .mov (.c (.rv (.one (.dat (.val (.int .i64 (0))))))), none⟩,
    ⟨(some 3), .mov (.c (.rv (.one (.dat (.val (.int .i64 (0))))))), none⟩]) (.seq (.seq (.reg [
    ⟨(some 4), .idxa 2 1 (.t 1) (.c (.rv (.one (.dat (.val (.int .i64 (0))))))), none⟩,
    ⟨(some 5), .load false 1 (.t 4), none⟩,
    ⟨(some 6), .bin .lss (.t 5) (.c (.rv (.one (.dat (.val (.int .i64 (64))))))), none⟩,
    ⟨(some 7), .mov (.t 6), none⟩,
    ⟨(some 8), .idxa 2 1 (.t 1) (.c (.rv (.one (.dat (.val (.int .i64 (0))))))), (some (7, false))⟩,
    ⟨(some 9), .load false 1 (.t 8), (some (7, false))⟩,
    ⟨(some 10), .bin .gtr (.t 9) (.c (.rv (.one (.dat (.val (.int .i64 (127))))))), (some (7, false))⟩,
    ⟨(some 11), .pick (.t 7) (.c (.rv (.one (.dat (.val (.bool true)))))) (.t 10), none⟩,
    ⟨(some 12), .mov (.t 11), none⟩,
    ⟨(some 13), .idxa 2 1 (.t 1) (.c (.rv (.one (.dat (.val (.int .i64 (1))))))), (some (12, false))⟩,
    ⟨(some 14), .load false 1 (.t 13), (some (12, false))⟩,
    ⟨(some 15), .bin .lss (.t 14) (.c (.rv (.one (.dat (.val (.int .i64 (128))))))), (some (12, false))⟩,
    ⟨(some 16), .pick (.t 12) (.c (.rv (.one (.dat (.val (.bool true)))))) (.t 15), none⟩,
    ⟨(some 17), .mov (.t 16), none⟩,
    ⟨(some 18), .idxa 2 1 (.t 1) (.c (.rv (.one (.dat (.val (.int .i64 (1))))))), (some (17, false))⟩,
    ⟨(some 19), .load false 1 (.t 18), (some (17, false))⟩,
    ⟨(some 20), .bin .gtr (.t 19) (.c (.rv (.one (.dat (.val (.int .i64 (191))))))), (some (17, false))⟩,
    ⟨(some 21), .pick (.t 17) (.c (.rv (.one (.dat (.val (.bool true)))))) (.t 20), none⟩]) (.cond (.t 21) (.seq (.reg [
    ⟨(some 2), .mov (.c (.rv (.one (.dat (.val (.int .i64 (0))))))), none⟩,
    ⟨(some 3), .mov (.c (.rv (.one (.dat (.val (.int .i64 (2))))))), none⟩]) .ret) .skip)) (.seq (.reg [
    ⟨(some 22), .idxa 2 1 (.t 1) (.c (.rv (.one (.dat (.val (.int .i64 (0))))))), none⟩,
    ⟨(some 23), .load false 1 (.t 22), none⟩,
    ⟨(some 24), .bin .sub (.t 23) (.c (.rv (.one (.dat (.val (.int .i64 (64))))))), none⟩,
    ⟨(some 25), .idxa 2 1 (.t 1) (.c (.rv (.one (.dat (.val (.int .i64 (1))))))), none⟩,
    ⟨(some 26), .load false 1 (.t 25), none⟩,
    ⟨(some 27), .bin .sub (.t 26) (.c (.rv (.one (.dat (.val (.int .i64 (128))))))), none⟩,
    ⟨(some 28), .bin .mul (.c (.rv (.one (.dat (.val (.int .i64 (64))))))) (.t 27), none⟩,
    ⟨(some 29), .bin .add (.t 24) (.t 28), none⟩,
    ⟨(some 2), .mov (.t 29), none⟩,
    ⟨(some 3), .mov (.c (.rv (.one (.dat (.val (.int .i64 (0))))))), none⟩]) .ret)))⟩
def c35 : LF := ⟨11, [.cell true 2 2], (.seq (.reg [
    ⟨(some 2), .alloc [(.dat (.val (.int .i64 (0)))), (.dat (.val (.int .i64 (0))))], none⟩]) (.seq (.reg [
    ⟨(some 3), .mov (.t 0), none⟩,
    ⟨(some 4), .bin .and (.t 3) (.c (.rv (.one (.dat (.val (.int .i64 (63))))))), none⟩,
    ⟨(some 5), .bin .or (.t 4) (.c (.rv (.one (.dat (.val (.int .i64 (64))))))), none⟩,
    ⟨(some 6), .mov (.t 0), none⟩,
    ⟨(some 7), .bin .shr (.t 6) (.c (.rv (.one (.dat (.val (.int .u64 (6))))))), none⟩,
    ⟨(some 8), .bin .and (.t 7) (.c (.rv (.one (.dat (.val (.int .i64 (63))))))), none⟩,
    ⟨(some 9), .bin .or (.t 8) (.c (.rv (.one (.dat (.val (.int .i64 (128))))))), none⟩,
    ⟨(some 10), .build [(.dat (.val (.int .i64 (0)))), (.dat (.val (.int .i64 (0))))] [(0, 1, (.t 5)), (1, 1, (.t 9))], none⟩,
    ⟨none, .store 2 (.t 2) (.t 10), none⟩]) .ret))⟩
def c36 : LF := ⟨43, [.cell true 2 2], (.seq (.reg [
    ⟨(some 2), .alloc [(.dat (.val (.int .i64 (0)))), (.dat (.val (.int .i64 (0))))], none⟩]) (.seq (.reg [
    ⟨(some 3), .mov (.c (.rv (.one (.dat (.val (.int .i64 (0))))))), none⟩,
    ⟨(some 4), .mov (.c (.rv (.one (.dat (.val (.int .i64 (0))))))), none⟩]) (.seq (.seq (.reg [
    ⟨(some 8), .mov (.t 0), none⟩,
    ⟨(some 9), .call (.c (.rv (.one (.fn 26 [])))) [(.t 8)], none⟩,
    ⟨(some 10), .mov (.c (.rv (.one (.dat (.val (.int .i64 (0))))))), none⟩]) (.block 0 (.loop (.seq (.reg [
    ⟨(some 11), .bin .lss (.t 10) (.c (.rv (.one (.dat (.val (.int .i64 (12))))))), none⟩]) (.seq (.cond (.t 11) .skip (.exit 0)) (.seq (.block 1 (.seq (.reg [
    ⟨(some 12), .mov (.t 10), none⟩,
    ⟨(some 13), .fldx false 12 1 (.t 9) (.t 10), none⟩,
    ⟨(some 5), .mov (.t 12), none⟩,
    ⟨(some 6), .mov (.t 13), none⟩]) (.seq (.reg [
    ⟨(some 7), .mov (.c (.rv (.one (.dat (.val (.int .i64 (1))))))), none⟩]) (.seq (.seq (.reg [
    ⟨(some 14), .mov (.t 5), none⟩,
    ⟨(some 15), .bin .rem (.t 14) (.c (.rv (.one (.dat (.val (.int .i64 (6))))))), none⟩,
    ⟨(some 16), .mov (.c (.rv (.one (.dat (.val (.int .i64 (0))))))), none⟩]) (.block 2 (.loop (.seq (.reg [
    ⟨(some 17), .bin .lss (.t 16) (.t 15), none⟩]) (.seq (.cond (.t 17) .skip (.exit 2)) (.seq (.block 3 (.reg [
    ⟨(some 18), .mov (.t 7), none⟩,
    ⟨(some 19), .bin .mul (.c (.rv (.one (.dat (.val (.int .i64 (2))))))) (.t 18), none⟩,
    ⟨(some 7), .mov (.t 19), none⟩])) (.reg [
    ⟨(some 20), .bin .add (.t 16) (.c (.rv (.one (.dat (.val (.int .i64 (1))))))), none⟩,
    ⟨(some 16), .mov (.t 20), none⟩]))))))) (.seq (.seq (.reg [
    ⟨(some 21), .mov (.t 6), none⟩,
    ⟨(some 22), .mov (.t 21), none⟩,
    ⟨(some 23), .mov (.t 5), (some (22, true))⟩,
    ⟨(some 24), .bin .lss (.t 23) (.c (.rv (.one (.dat (.val (.int .i64 (6))))))), (some (22, true))⟩,
    ⟨(some 25), .pick (.t 22) (.t 24) (.c (.rv (.one (.dat (.val (.bool false)))))), none⟩]) (.cond (.t 25) (.reg [
    ⟨(some 26), .mov (.t 3), none⟩,
    ⟨(some 27), .mov (.t 7), none⟩,
    ⟨(some 28), .bin .add (.t 26) (.t 27), none⟩,
    ⟨(some 3), .mov (.t 28), none⟩]) .skip)) (.seq (.reg [
    ⟨(some 29), .mov (.t 6), none⟩,
    ⟨(some 30), .mov (.t 29), none⟩,
    ⟨(some 31), .mov (.t 5), (some (30, true))⟩,
    ⟨(some 32), .bin .geq (.t 31) (.c (.rv (.one (.dat (.val (.int .i64 (6))))))), (some (30, true))⟩,
    ⟨(some 33), .pick (.t 30) (.t 32) (.c (.rv (.one (.dat (.val (.bool false)))))), none⟩]) (.cond (.t 33) (.reg [
    ⟨(some 34), .mov (.t 4), none⟩,
    ⟨(some 35), .mov (.t 7), none⟩,
    ⟨(some 36), .bin .add (.t 34) (.t 35), none⟩,
    ⟨(some 4), .mov (.t 36), none⟩]) .skip))))))) (.reg [
    ⟨(some 37), .bin .add (.t 10) (.c (.rv (.one (.dat (.val (.int .i64 (1))))))), none⟩,
    ⟨(some 10), .mov (.t 37), none⟩]))))))) (.seq (.reg [
    ⟨(some 38), .mov (.t 3), none⟩,
    ⟨(some 39), .bin .add (.c (.rv (.one (.dat (.val (.int .i64 (64))))))) (.t 38), none⟩,
    ⟨(some 40), .mov (.t 4), none⟩,
    ⟨(some 41), .bin .add (.c (.rv (.one (.dat (.val (.int .i64 (128))))))) (.t 40), none⟩,
    ⟨(some 42), .build [(.dat (.val (.int .i64 (0)))), (.dat (.val (.int .i64 (0))))] [(0, 1, (.t 39)), (1, 1, (.t 41))], none⟩,
    ⟨none, .store 2 (.t 2) (.t 42), none⟩]) .ret))))⟩
theorem l21 : lowF Tryd.prog Tryd.f21 = some c21 := by kernel_rfl
theorem l22 : lowF Tryd.prog Tryd.f22 = some c22 := by kernel_rfl
theorem l35 : lowF Tryd.prog Tryd.f35 = some c35 := by kernel_rfl
theorem l36 : lowF Tryd.prog Tryd.f36 = some c36 := by kernel_rfl
def w2V (a b : Int) : CV := .rv (.agg [.dat (.val (.int .i64 a)), .dat (.val (.int .i64 b))])
/-- the set of two words -/
def fromS (a b : Int) : Int × Int := if 64 ≤ a ∧ a ≤ 127 ∧ 128 ≤ b ∧ b ≤ 191 then (a - 64 + 64 * (b - 128), 0) else (0, 2)
def frRV (p : Int × Int) : CV := .tup [.one (.dat (.val (.int .i64 p.1))), .one (.dat (.val (.int .i64 p.2)))]
theorem fdiv64 (a : Int) : a.fdiv 64 = a / 64 := Int.fdiv_eq_ediv_of_nonneg _ (by omega)
theorem and63 {x : Nat} (h : x < 64) (k : Nat) : (64 * k + x) &&& 63 = x := by
  rw [show (63 : Nat) = 2 ^ 6 - 1 from rfl, Nat.and_two_pow_sub_one_eq_mod]
  omega
theorem or6 {x : Nat} (h : x < 64) (y : Nat) : x ||| y * 2 ^ 6 = y * 64 + x := by
  have := Nat.shiftLeft_add_eq_or_of_lt (b := x) (i := 6) h y
  rw [Nat.or_comm, ← Nat.shiftLeft_eq, ← this, Nat.shiftLeft_eq]
set_option maxRecDepth 100000 in
set_option maxHeartbeats 4000000 in
theorem from_body (a b : Int) : body Tryd.prog c21 [w2V a b] [] (fun r m => r = frRV (fromS a b)) := by
  refine bB_bne (a := a.fdiv 64) (b := 1) (fun h => ?_) (fun h => ?_)
  · rw [fdiv64] at h
    have : fromS a b = (0, 2) := if_neg (by omega)
    rw [this]; rfl
  rw [fdiv64] at h
  refine bB_bne (a := b.fdiv 64) (b := 2) (fun h2 => ?_) (fun h2 => ?_)
  · rw [fdiv64] at h2
    have : fromS a b = (0, 2) := if_neg (by omega)
    rw [this]; rfl
  rw [fdiv64] at h2
  obtain ⟨x, hx⟩ := Int.eq_ofNat_of_zero_le (a := a - 64) (by omega)
  obtain ⟨y, hy⟩ := Int.eq_ofNat_of_zero_le (a := b - 128) (by omega)
  obtain rfl : a = ((64 * 1 + x : Nat) : Int) := by omega
  obtain rfl : b = ((64 * 2 + y : Nat) : Int) := by omega
  have hx6 : x < 64 := by omega
  have hy6 : y < 64 := by omega
  have hs : fromS ((64 * 1 + x : Nat) : Int) ((64 * 2 + y : Nat) : Int) = (((y * 64 + x : Nat) : Int), 0) := by
    rw [fromS, if_pos (by omega)]
    congr 1
    omega
  rw [hs]
  show frRV (orV (andV ((64 * 1 + x : Nat) : Int) ((63 : Nat) : Int)) (shl (andV ((64 * 2 + y : Nat) : Int) ((63 : Nat) : Int)) 6), 0) = _
  rw [andV_nat (by omega) (by omega), andV_nat (by omega) (by omega), and63 hx6, and63 hy6, shl_nat (by omega), orV_nat (by omega) (by omega), or6 hx6]
theorem from_ok (a b : Int) {m : Mem} {K : CV → Mem → Prop} (h : K (frRV (fromS a b)) m) : ACall Tryd.prog 21 [w2V a b] m K :=
  acall_val Tryd.func21 l21 rfl (Nat.le_of_ble_eq_true rfl) (from_body a b) rfl rfl h
set_option maxRecDepth 100000 in
set_option maxHeartbeats 4000000 in
theorem rfrom_body (a b : Int) : body Tryd.prog c22 [w2V a b] [] (fun r m => r = frRV (fromS a b)) := by
  have no : ¬ (64 ≤ a ∧ a ≤ 127 ∧ 128 ≤ b ∧ b ≤ 191) → frRV (0, 2) = frRV (fromS a b) := fun h => by rw [fromS, if_neg h]
  refine bB_dec (fun h => no (by omega)) (fun h1 => ?_)
  refine bB_dec (fun h => no (by omega)) (fun h2 => ?_)
  refine bB_dec (fun h => no (by omega)) (fun h3 => ?_)
  refine bB_dec (fun h => no (by omega)) (fun h4 => ?_)
  have hs : fromS a b = (a - 64 + 64 * (b - 128), 0) := if_pos (by omega)
  rw [hs]
  show frRV (IntKind.i64.wrap (IntKind.i64.wrap (a - 64) + IntKind.i64.wrap (64 * IntKind.i64.wrap (b - 128))), 0) = _
  rw [IntWalk.i64_in (a - 64) (by omega), IntWalk.i64_in (b - 128) (by omega), IntWalk.i64_in (64 * (b - 128)) (by omega), IntWalk.i64_in _ (by omega)]
theorem rfrom_ok (a b : Int) {m : Mem} {K : CV → Mem → Prop} (h : K (frRV (fromS a b)) m) : ACall Tryd.prog 22 [w2V a b] m K :=
  acall_val Tryd.func22 l22 rfl (Nat.le_of_ble_eq_true rfl) (rfrom_body a b) rfl rfl h
/-- a set in two words -/
def wordsV (n : Nat) : CV := w2V ((64 + n % 64 : Nat) : Int) ((128 + n / 64 : Nat) : Int)
theorem or_hi {x : Nat} (h : x < 64) (k : Nat) : x ||| (k * 2 ^ 6) = k * 64 + x := or6 h k
set_option maxRecDepth 100000 in
set_option maxHeartbeats 4000000 in
theorem words_body (n : Nat) (hn : n ≤ 4095) : body Tryd.prog c35 [vInt .i64 n] [] (fun r m => r = wordsV n) := by
  show w2V (orV (andV (n : Int) 63) 64) (orV (andV ((n : Int).fdiv 64) 63) 128) = wordsV n
  have e : (n : Int).fdiv 64 = ((n / 64 : Nat) : Int) := by rw [fdiv64]; omega
  have m1 : n &&& 63 = n % 64 := by rw [show (63 : Nat) = 2 ^ 6 - 1 from rfl, Nat.and_two_pow_sub_one_eq_mod]
  have m2 : n / 64 &&& 63 = n / 64 := by
    rw [show (63 : Nat) = 2 ^ 6 - 1 from rfl, Nat.and_two_pow_sub_one_eq_mod]
    omega
  have e1 : orV (andV (n : Int) 63) 64 = ((64 + n % 64 : Nat) : Int) := by
    rw [show (63 : Int) = ((63 : Nat) : Int) from rfl, show (64 : Int) = ((1 * 2 ^ 6 : Nat) : Int) from rfl, andV_nat (by omega) (by omega), m1, orV_nat (by omega) (by omega), or6 (by omega), Nat.one_mul]
  have e2 : orV (andV ((n : Int).fdiv 64) 63) 128 = ((128 + n / 64 : Nat) : Int) := by
    rw [e, show (63 : Int) = ((63 : Nat) : Int) from rfl, show (128 : Int) = ((2 * 2 ^ 6 : Nat) : Int) from rfl, andV_nat (by omega) (by omega), m2, orV_nat (by omega) (by omega), or6 (by omega)]
  rw [e1, e2]
  rfl
theorem words_ok (n : Nat) (hn : n ≤ 4095) {m : Mem} {K : CV → Mem → Prop} (h : K (wordsV n) m) : ACall Tryd.prog 35 [vInt .i64 n] m K :=
  acall_val Tryd.func35 l35 rfl (Nat.le_of_ble_eq_true rfl) (words_body n hn) rfl rfl h
theorem mod_succ (x k : Nat) : x % 2 ^ (k + 1) = x % 2 ^ k + if x.testBit k then 2 ^ k else 0 := by
  rw [Nat.mod_pow_succ, Nat.testBit_eq_decide_div_mod_eq]
  have h : x / 2 ^ k % 2 < 2 := Nat.mod_lt _ (by omega)
  generalize x / 2 ^ k % 2 = y at h
  match y, h with
  | 0, _ => simp
  | 1, _ => simp
def lowN (n k : Nat) : Nat := n % 2 ^ (min k 6)
def highN (n k : Nat) : Nat := n / 64 % 2 ^ (k - 6)
theorem lowN_succ (n k : Nat) (h : k < 6) : lowN n (k + 1) = lowN n k + if n.testBit k then 2 ^ k else 0 := by
  rw [lowN, lowN, Nat.min_eq_left (by omega), Nat.min_eq_left (by omega), mod_succ]
theorem highN_succ (n k : Nat) (h : 6 ≤ k) : highN n (k + 1) = highN n k + if n.testBit k then 2 ^ (k - 6) else 0 := by
  rw [highN, highN, show k + 1 - 6 = k - 6 + 1 by omega, mod_succ]
  have : (n / 64).testBit (k - 6) = n.testBit k := by
    rw [show (64 : Nat) = 2 ^ 6 from rfl, Nat.testBit_div_two_pow]
    congr 1
    omega
  rw [this]
theorem lowN_lt (n k : Nat) : lowN n k < 64 := by
  have h1 : n % 2 ^ (min k 6) < 2 ^ (min k 6) := Nat.mod_lt _ (Nat.two_pow_pos _)
  have h2 : 2 ^ (min k 6) ≤ 2 ^ 6 := Nat.pow_le_pow_right (by omega) (by omega)
  rw [lowN]
  omega
theorem highN_lt {n k : Nat} (hk : k ≤ 12) : highN n k < 64 := by
  have h1 : n / 64 % 2 ^ (k - 6) < 2 ^ (k - 6) := Nat.mod_lt _ (Nat.two_pow_pos _)
  have h2 : 2 ^ (k - 6) ≤ 2 ^ 6 := Nat.pow_le_pow_right (by omega) (by omega)
  rw [highN]
  omega
set_option maxRecDepth 100000 in
set_option maxHeartbeats 8000000 in
theorem rwords_body (n : Nat) (hn : n ≤ 4095) : body Tryd.prog c36 [vInt .i64 n] [] (fun r m => r = wordsV n) := by
  refine bits_ok n hn ?_
  refine loop_keep (fun k => k ≤ 12) [2, 9] (fun k => [(3, vInt .i64 (lowN n k : Nat)), (4, vInt .i64 (highN n k : Nat)), (10, vInt .i64 (k : Nat))]) (fun _ => [.var [.dat (.val (.int .i64 0)), .dat (.val (.int .i64 0))]]) (fun k => 12 - k) 0 (Nat.zero_le _) ?_ (fun k hk => ?_)
  · have e1 : lowN n 0 = 0 := by simp [lowN, Nat.mod_one]
    have e2 : highN n 0 = 0 := by simp [highN, Nat.mod_one]
    rw [e1, e2]
    refine View.of 1 [0] [] rfl rfl rfl rfl rfl rfl ?_ (.put (by simp [memN]) rfl (.eq rfl (by simp)) (.nil _))
    repeat (first | exact .nil | refine .junk ?_ | refine .eq rfl ?_)
  have hk : k ≤ 12 := hk
  refine bB_dec (fun h => ?_) (fun h => ?_)
  · have hlt : k < 12 := by
      have h : (k : Int) < 12 := h
      omega
    refine ok_some (idxZ_nat hlt) ?_
    refine ok_some (bits_fld hlt) ?_
    have hrem : (k : Int).tmod 6 = ((k % 6 : Nat) : Int) := by
      rw [show (6 : Int) = ((6 : Nat) : Int) from rfl, ← Int.ofNat_tmod]
    refine loop_keep (fun j => j ≤ k % 6) [2, 3, 4, 5, 6, 9, 10] (fun j => [(15, vInt .i64 ((k % 6 : Nat) : Int)), (7, vInt .i64 ((2 ^ j : Nat) : Int)), (16, vInt .i64 (j : Nat))]) (fun _ => [.var [.dat (.val (.int .i64 0)), .dat (.val (.int .i64 0))]]) (fun j => k % 6 - j) 0 (Nat.zero_le _) ?_ (fun j hj => ?_)
    · refine View.of 1 [0] [] rfl rfl rfl rfl rfl rfl ?_ (.put (by simp [memN]) rfl (.eq rfl (by simp)) (.nil _))
      repeat (first | exact .nil | refine .junk ?_ | refine .eq rfl ?_ | refine .put (.ren (congrArg (vInt .i64) hrem).symm) ?_)
    have hj : j ≤ k % 6 := hj
    have hp : 2 ^ j ≤ 2 ^ 6 := Nat.pow_le_pow_right (by omega) (by omega)
    refine bB_dec (fun h2 => ?_) (fun h2 => ?_)
    · have h2 : (j : Int) < ((k % 6 : Nat) : Int) := h2
      have hm : IntKind.i64.wrap (2 * ((2 ^ j : Nat) : Int)) = ((2 ^ (j + 1) : Nat) : Int) := by
        rw [show 2 * ((2 ^ j : Nat) : Int) = ((2 ^ (j + 1) : Nat) : Int) by rw [Nat.pow_succ]; omega]
        exact wrapN (by rw [Nat.pow_succ]; omega)
      refine ⟨j + 1, (show j + 1 ≤ k % 6 by omega), (show k % 6 - (j + 1) < k % 6 - j by omega), View.of 1 [0] [] rfl rfl rfl rfl rfl rfl ?_ (.put (by simp [memN]) rfl (.eq rfl (by simp)) (.nil _))⟩
      rw [← hm]
      repeat (first | exact .nil | refine .junk ?_ | refine .put (.ren (next_i64 (by omega)).symm) ?_ | refine .eq rfl ?_)
    · have hjk : j = k % 6 := by
        have h2 : ¬ (j : Int) < ((k % 6 : Nat) : Int) := h2
        omega
      subst hjk
      have hlow := lowN_lt n k
      have hhigh := highN_lt (n := n) hk
      have hp6 : 2 ^ (k % 6) ≤ 2 ^ 6 := hp
      have fin : ∀ (a b : Nat) (e : List CV), a = lowN n (k + 1) → b = highN n (k + 1) → View 1 ⟨e, [.var [.dat (.val (.int .i64 0)), .dat (.val (.int .i64 0))]]⟩ ⟨e, [.var [.dat (.val (.int .i64 0)), .dat (.val (.int .i64 0))]]⟩ := fun _ _ _ _ _ => View.refl (Nat.le_refl _)
      clear fin
      cases hb : n.testBit k with
      | false =>
        have s1 : lowN n (k + 1) = lowN n k := by
          rcases Nat.lt_or_ge k 6 with h6 | h6
          · rw [lowN_succ n k h6, hb]; simp
          · rw [lowN, lowN, Nat.min_eq_right (by omega), Nat.min_eq_right (by omega)]
        have s2 : highN n (k + 1) = highN n k := by
          rcases Nat.lt_or_ge k 6 with h6 | h6
          · rw [highN, highN, show k + 1 - 6 = 0 by omega, show k - 6 = 0 by omega]
          · rw [highN_succ n k h6, hb]; simp
        refine ⟨k + 1, hlt, (show 12 - (k + 1) < 12 - k by omega), View.of 1 [0] [] rfl rfl rfl rfl rfl rfl ?_ (.put (by simp [memN]) rfl (.eq rfl (by simp)) (.nil _))⟩
        rw [s1, s2]
        repeat (first | exact .nil | refine .junk ?_ | refine .put (.ren (next_i64 (by omega)).symm) ?_ | refine .eq rfl ?_)
      | true =>
        refine bB_dec (fun h6 => ?_) (fun h6 => ?_)
        · have h6 : k < 6 := by
            have h6 : (k : Int) < 6 := h6
            omega
          have s1 : IntKind.i64.wrap (((lowN n k : Nat) : Int) + ((2 ^ (k % 6) : Nat) : Int)) = ((lowN n (k + 1) : Nat) : Int) := by
            rw [lowN_succ n k h6, hb, if_pos rfl, show k % 6 = k by omega, ← Int.natCast_add]
            exact wrapN (by rw [show k % 6 = k by omega] at hp6; omega)
          have s2 : highN n (k + 1) = highN n k := by rw [highN, highN, show k + 1 - 6 = 0 by omega, show k - 6 = 0 by omega]
          refine bB_no (by rw [decide_eq_false_iff_not]; omega) ?_
          refine ⟨k + 1, hlt, (show 12 - (k + 1) < 12 - k by omega), View.of 1 [0] [] rfl rfl rfl rfl rfl rfl ?_ (.put (by simp [memN]) rfl (.eq rfl (by simp)) (.nil _))⟩
          rw [← s1, s2]
          repeat (first | exact .nil | refine .junk ?_ | refine .put (.ren (next_i64 (by omega)).symm) ?_ | refine .eq rfl ?_)
        · have h6 : 6 ≤ k := by
            have h6 : ¬ (k : Int) < 6 := h6
            omega
          have s1 : lowN n (k + 1) = lowN n k := by rw [lowN, lowN, Nat.min_eq_right (by omega), Nat.min_eq_right (by omega)]
          have s2 : IntKind.i64.wrap (((highN n k : Nat) : Int) + ((2 ^ (k % 6) : Nat) : Int)) = ((highN n (k + 1) : Nat) : Int) := by
            rw [highN_succ n k h6, hb, if_pos rfl, show k % 6 = k - 6 by omega, ← Int.natCast_add]
            exact wrapN (by rw [show k % 6 = k - 6 by omega] at hp6; omega)
          refine bB_yes (by rw [decide_eq_true_iff]; omega) ?_
          refine ⟨k + 1, hlt, (show 12 - (k + 1) < 12 - k by omega), View.of 1 [0] [] rfl rfl rfl rfl rfl rfl ?_ (.put (by simp [memN]) rfl (.eq rfl (by simp)) (.nil _))⟩
          rw [s1, ← s2]
          repeat (first | exact .nil | refine .junk ?_ | refine .put (.ren (next_i64 (by omega)).symm) ?_ | refine .eq rfl ?_)
  · have hk12 : k = 12 := by
      have h : ¬ (k : Int) < 12 := h
      omega
    subst hk12
    have e1 : lowN n 12 = n % 64 := rfl
    have e2 : highN n 12 = n / 64 := by
      show n / 64 % 64 = n / 64
      omega
    rw [e1, e2]
    show w2V (IntKind.i64.wrap (64 + ((n % 64 : Nat) : Int))) (IntKind.i64.wrap (128 + ((n / 64 : Nat) : Int))) = wordsV n
    rw [show (64 : Int) + ((n % 64 : Nat) : Int) = ((64 + n % 64 : Nat) : Int) by omega, show (128 : Int) + ((n / 64 : Nat) : Int) = ((128 + n / 64 : Nat) : Int) by omega, wrapN (by omega), wrapN (by omega)]
    rfl
theorem rwords_ok (n : Nat) (hn : n ≤ 4095) {m : Mem} {K : CV → Mem → Prop} (h : K (wordsV n) m) : ACall Tryd.prog 36 [vInt .i64 n] m K :=
  acall_val Tryd.func36 l36 rfl (Nat.le_of_ble_eq_true rfl) (rwords_body n hn) rfl rfl h

end Go.Proofs.YtoohefnephhmbaaDoor
