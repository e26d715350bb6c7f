import Derived.Test.YtflieebgiejjpaaAmZ2
import Derived.Test.YtflieebgiejjpaaDvGate1
import Derived.Test.YtflieebgiejjpaaAmY
set_option linter.unusedVariables false
set_option linter.unusedSimpArgs false
namespace Go.Proofs.Ytflieebgiejjpaa
open Go.AM Go.ChangeShapes Go.WideShapes Go.ChangeAt Go.RowKit
def c15 : LF := ⟨46, [.cell true 2 2], (.seq (.reg [
    ⟨(some 2), .alloc [(.dat (.val (.int .i64 (0)))), (.dat (.val (.int .i64 (0))))], none⟩]) (.seq (.seq (.reg [
    ⟨(some 5), .mov (.t 0), none⟩,
    ⟨(some 6), .len 1 (.t 5), none⟩,
    ⟨(some 7), .bin .gtr (.t 6) (.c (.rv (.one (.dat (.val (.int .i64 (30))))))), none⟩]) (.cond (.t 7) (.seq (.reg [
    ⟨(some 8), .build [(.dat (.val (.int .i64 (0)))), (.dat (.val (.int .i64 (0))))] [(0, 1, (.c (.rv (.one (.dat (.val (.int .i64 (5))))))))], none⟩,
    ⟨none, .store 2 (.t 2) (.t 8), none⟩]) .ret) .skip)) (.seq (.seq (.reg [
    ⟨(some 9), .mov (.t 0), none⟩,
    ⟨(some 10), .len 1 (.t 9), none⟩,
    ⟨(some 11), .mov (.c (.rv (.one (.dat (.val (.int .i64 (0))))))), none⟩]) (.block 0 (.loop (.seq (.reg [
    ⟨(some 12), .bin .lss (.t 11) (.t 10), none⟩]) (.seq (.cond (.t 12) .skip (.exit 0)) (.seq (.block 1 (.seq (.reg [
    ⟨(some 13), .mov (.t 11), none⟩,
    ⟨(some 14), .idx 2 (.t 9) (.t 11), none⟩,
    ⟨(some 15), .load true 2 (.t 14), none⟩,
    ⟨(some 4), .alloc [(.dat (.val (.int .i64 (0)))), .esl], none⟩,
    ⟨(some 3), .mov (.t 13), none⟩,
    ⟨none, .store 2 (.t 4) (.t 15), none⟩]) (.seq (.seq (.reg [
    ⟨(some 16), .fadr 0 (.t 4), none⟩,
    ⟨(some 17), .load false 1 (.t 16), none⟩,
    ⟨(some 18), .bin .lss (.t 17) (.c (.rv (.one (.dat (.val (.int .i64 (0))))))), none⟩,
    ⟨(some 19), .mov (.t 18), none⟩,
    ⟨(some 20), .fadr 0 (.t 4), (some (19, false))⟩,
    ⟨(some 21), .load false 1 (.t 20), (some (19, false))⟩,
    ⟨(some 22), .bin .geq (.t 21) (.c (.rv (.one (.dat (.val (.int .i64 (2147483648))))))), (some (19, false))⟩,
    ⟨(some 23), .pick (.t 19) (.c (.rv (.one (.dat (.val (.bool true)))))) (.t 22), none⟩]) (.cond (.t 23) (.seq (.reg [
    ⟨(some 24), .mov (.t 3), none⟩,
    ⟨(some 25), .build [(.dat (.val (.int .i64 (0)))), (.dat (.val (.int .i64 (0))))] [(0, 1, (.c (.rv (.one (.dat (.val (.int .i64 (3)))))))), (1, 1, (.t 24))], none⟩,
    ⟨none, .store 2 (.t 2) (.t 25), none⟩]) .ret) .skip)) (.seq (.seq (.reg [
    ⟨(some 26), .mov (.t 0), none⟩,
    ⟨(some 27), .mov (.t 3), none⟩,
    ⟨(some 28), .slc 2 (.t 26) none (some (.t 27)) none, none⟩,
    ⟨(some 29), .fn 63 [(.t 4)], none⟩,
    ⟨(some 30), .call (.c (.rv (.one (.fn 62 [])))) [(.t 28), (.t 29)], none⟩]) (.cond (.t 30) (.seq (.reg [
    ⟨(some 31), .mov (.t 3), none⟩,
    ⟨(some 32), .build [(.dat (.val (.int .i64 (0)))), (.dat (.val (.int .i64 (0))))] [(0, 1, (.c (.rv (.one (.dat (.val (.int .i64 (7)))))))), (1, 1, (.t 31))], none⟩,
    ⟨none, .store 2 (.t 2) (.t 32), none⟩]) .ret) .skip)) (.seq (.seq (.reg [
    ⟨(some 33), .fadr 1 (.t 4), none⟩,
    ⟨(some 34), .load false 1 (.t 33), none⟩,
    ⟨(some 35), .len 1 (.t 34), none⟩,
    ⟨(some 36), .bin .gtr (.t 35) (.c (.rv (.one (.dat (.val (.int .i64 (3))))))), none⟩]) (.cond (.t 36) (.seq (.reg [
    ⟨(some 37), .mov (.t 3), none⟩,
    ⟨(some 38), .build [(.dat (.val (.int .i64 (0)))), (.dat (.val (.int .i64 (0))))] [(0, 1, (.c (.rv (.one (.dat (.val (.int .i64 (5)))))))), (1, 1, (.t 37))], none⟩,
    ⟨none, .store 2 (.t 2) (.t 38), none⟩]) .ret) .skip)) (.seq (.reg [
    ⟨(some 39), .fadr 1 (.t 4), none⟩,
    ⟨(some 40), .load false 1 (.t 39), none⟩,
    ⟨(some 41), .call (.c (.rv (.one (.fn 64 [])))) [(.t 40), (.c (.rv (.one (.fn 65 []))))], none⟩]) (.cond (.t 41) (.seq (.reg [
    ⟨(some 42), .mov (.t 3), none⟩,
    ⟨(some 43), .build [(.dat (.val (.int .i64 (0)))), (.dat (.val (.int .i64 (0))))] [(0, 1, (.c (.rv (.one (.dat (.val (.int .i64 (3)))))))), (1, 1, (.t 42))], none⟩,
    ⟨none, .store 2 (.t 2) (.t 43), none⟩]) .ret) .skip))))))) (.reg [
    ⟨(some 44), .bin .add (.t 11) (.c (.rv (.one (.dat (.val (.int .i64 (1))))))), none⟩,
    ⟨(some 11), .mov (.t 44), none⟩]))))))) (.seq (.reg [
    ⟨(some 45), .build [(.dat (.val (.int .i64 (0)))), (.dat (.val (.int .i64 (0))))] [], none⟩,
    ⟨none, .store 2 (.t 2) (.t 45), none⟩]) .ret))))⟩
def c16 : LF := ⟨77, [.cell true 2 2], (.seq (.reg [
    ⟨(some 2), .alloc [(.dat (.val (.int .i64 (0)))), (.dat (.val (.int .i64 (0))))], none⟩]) (.seq (.seq (.reg [
    ⟨(some 9), .mov (.t 0), none⟩,
    ⟨(some 10), .len 1 (.t 9), none⟩,
    ⟨(some 11), .bin .gtr (.t 10) (.c (.rv (.one (.dat (.val (.int .i64 (30))))))), none⟩]) (.cond (.t 11) (.seq (.reg [
    ⟨(some 12), .build [(.dat (.val (.int .i64 (0)))), (.dat (.val (.int .i64 (0))))] [(0, 1, (.c (.rv (.one (.dat (.val (.int .i64 (5))))))))], none⟩,
    ⟨none, .store 2 (.t 2) (.t 12), none⟩]) .ret) .skip)) (.seq (.reg [
    ⟨(some 13), .mkmap, none⟩,
    ⟨(some 3), .mov (.t 13), none⟩]) (.seq (.seq (.reg [
    ⟨(some 14), .mov (.t 0), none⟩,
    ⟨(some 15), .len 1 (.t 14), none⟩,
    ⟨(some 16), .mov (.c (.rv (.one (.dat (.val (.int .i64 (0))))))), none⟩]) (.block 0 (.loop (.seq (.reg [
    ⟨(some 17), .bin .lss (.t 16) (.t 15), none⟩]) (.seq (.cond (.t 17) .skip (.exit 0)) (.seq (.block 1 (.seq (.reg [
    ⟨(some 18), .mov (.t 16), none⟩,
    ⟨(some 19), .idx 2 (.t 14) (.t 16), none⟩,
    ⟨(some 20), .load true 2 (.t 19), none⟩,
    ⟨(some 4), .alloc [(.dat (.val (.int .i64 (0))))], none⟩,
    ⟨(some 5), .alloc [(.dat (.val (.int .i64 (0)))), .esl], none⟩,
    ⟨none, .store 1 (.t 4) (.t 18), none⟩,
    ⟨none, .store 2 (.t 5) (.t 20), none⟩]) (.seq (.reg [
    ⟨(some 21), .fn 66 [(.t 4)], none⟩,
    ⟨(some 6), .mov (.t 21), none⟩]) (.seq (.seq (.reg [
    ⟨(some 22), .fadr 0 (.t 5), none⟩,
    ⟨(some 23), .load false 1 (.t 22), none⟩,
    ⟨(some 24), .bin .lss (.t 23) (.c (.rv (.one (.dat (.val (.int .i64 (0))))))), none⟩,
    ⟨(some 25), .mov (.t 24), none⟩,
    ⟨(some 26), .fadr 0 (.t 5), (some (25, false))⟩,
    ⟨(some 27), .load false 1 (.t 26), (some (25, false))⟩,
    ⟨(some 28), .bin .geq (.t 27) (.c (.rv (.one (.dat (.val (.int .i64 (2147483648))))))), (some (25, false))⟩,
    ⟨(some 29), .pick (.t 25) (.c (.rv (.one (.dat (.val (.bool true)))))) (.t 28), none⟩]) (.cond (.t 29) (.seq (.reg [
    ⟨(some 30), .mov (.t 6), none⟩,
    ⟨(some 31), .call (.t 30) [(.c (.rv (.one (.dat (.val (.int .i64 (3)))))))], none⟩,
    ⟨none, .store 2 (.t 2) (.t 31), none⟩]) .ret) .skip)) (.seq (.seq (.reg [
    ⟨(some 32), .mov (.t 3), none⟩,
    ⟨(some 33), .fadr 0 (.t 5), none⟩,
    ⟨(some 34), .load false 1 (.t 33), none⟩,
    ⟨(some 35), .mget (.one (.dat (.val (.bool false)))) (.i .i64) (.t 32) (.t 34) false, none⟩]) (.cond (.t 35) (.seq (.reg [
    ⟨(some 36), .mov (.t 6), none⟩,
    ⟨(some 37), .call (.t 36) [(.c (.rv (.one (.dat (.val (.int .i64 (7)))))))], none⟩,
    ⟨none, .store 2 (.t 2) (.t 37), none⟩]) .ret) .skip)) (.seq (.reg [
    ⟨(some 38), .mov (.t 3), none⟩,
    ⟨(some 39), .fadr 0 (.t 5), none⟩,
    ⟨(some 40), .load false 1 (.t 39), none⟩,
    ⟨none, .mset (.i .i64) (.t 38) (.t 40) (.c (.rv (.one (.dat (.val (.bool true)))))), none⟩]) (.seq (.seq (.reg [
    ⟨(some 41), .fadr 1 (.t 5), none⟩,
    ⟨(some 42), .load false 1 (.t 41), none⟩,
    ⟨(some 43), .len 1 (.t 42), none⟩,
    ⟨(some 44), .bin .gtr (.t 43) (.c (.rv (.one (.dat (.val (.int .i64 (3))))))), none⟩]) (.cond (.t 44) (.seq (.reg [
    ⟨(some 45), .mov (.t 6), none⟩,
    ⟨(some 46), .call (.t 45) [(.c (.rv (.one (.dat (.val (.int .i64 (5)))))))], none⟩,
    ⟨none, .store 2 (.t 2) (.t 46), none⟩]) .ret) .skip)) (.seq (.reg [
    ⟨(some 47), .fadr 1 (.t 5), none⟩,
    ⟨(some 48), .load false 1 (.t 47), none⟩,
    ⟨(some 49), .len 1 (.t 48), none⟩,
    ⟨(some 50), .mov (.c (.rv (.one (.dat (.val (.int .i64 (0))))))), none⟩]) (.block 2 (.loop (.seq (.reg [
    ⟨(some 51), .bin .lss (.t 50) (.t 49), none⟩]) (.seq (.cond (.t 51) .skip (.exit 2)) (.seq (.block 3 (.seq (.reg [
    ⟨(some 52), .idx 2 (.t 48) (.t 50), none⟩,
    ⟨(some 53), .load true 2 (.t 52), none⟩,
    ⟨(some 8), .alloc [(.dat (.val (.int .i64 (0)))), (.dat (.val (.int .i64 (0))))], none⟩,
    ⟨none, .store 2 (.t 8) (.t 53), none⟩]) (.seq (.reg [
    ⟨(some 54), .fadr 0 (.t 8), none⟩,
    ⟨(some 55), .load false 1 (.t 54), none⟩,
    ⟨(some 56), .bin .lss (.t 55) (.c (.rv (.one (.dat (.val (.int .i64 (1))))))), none⟩,
    ⟨(some 57), .mov (.t 56), none⟩,
    ⟨(some 58), .fadr 0 (.t 8), (some (57, false))⟩,
    ⟨(some 59), .load false 1 (.t 58), (some (57, false))⟩,
    ⟨(some 60), .bin .gtr (.t 59) (.c (.rv (.one (.dat (.val (.int .i64 (5))))))), (some (57, false))⟩,
    ⟨(some 61), .pick (.t 57) (.c (.rv (.one (.dat (.val (.bool true)))))) (.t 60), none⟩,
    ⟨(some 62), .mov (.t 61), none⟩,
    ⟨(some 63), .fadr 1 (.t 8), (some (62, false))⟩,
    ⟨(some 64), .load false 1 (.t 63), (some (62, false))⟩,
    ⟨(some 65), .bin .lss (.t 64) (.c (.rv (.one (.dat (.val (.int .i64 (1))))))), (some (62, false))⟩,
    ⟨(some 66), .pick (.t 62) (.c (.rv (.one (.dat (.val (.bool true)))))) (.t 65), none⟩,
    ⟨(some 67), .mov (.t 66), none⟩,
    ⟨(some 68), .fadr 1 (.t 8), (some (67, false))⟩,
    ⟨(some 69), .load false 1 (.t 68), (some (67, false))⟩,
    ⟨(some 70), .bin .geq (.t 69) (.c (.rv (.one (.dat (.val (.int .i64 (2147483648))))))), (some (67, false))⟩,
    ⟨(some 71), .pick (.t 67) (.c (.rv (.one (.dat (.val (.bool true)))))) (.t 70), none⟩]) (.cond (.t 71) (.seq (.reg [
    ⟨(some 72), .mov (.t 6), none⟩,
    ⟨(some 73), .call (.t 72) [(.c (.rv (.one (.dat (.val (.int .i64 (3)))))))], none⟩,
    ⟨none, .store 2 (.t 2) (.t 73), none⟩]) .ret) .skip)))) (.reg [
    ⟨(some 74), .bin .add (.t 50) (.c (.rv (.one (.dat (.val (.int .i64 (1))))))), none⟩,
    ⟨(some 50), .mov (.t 74), none⟩])))))))))))))) (.reg [
    ⟨(some 75), .bin .add (.t 16) (.c (.rv (.one (.dat (.val (.int .i64 (1))))))), none⟩,
    ⟨(some 16), .mov (.t 75), none⟩]))))))) (.seq (.reg [
    ⟨(some 76), .build [(.dat (.val (.int .i64 (0)))), (.dat (.val (.int .i64 (0))))] [], none⟩,
    ⟨none, .store 2 (.t 2) (.t 76), none⟩]) .ret)))))⟩
/-! Wrong -/
def wrong1 (pre : List Pol) (p : Pol) : Int :=
  if p.call < 0 ∨ p.call ≥ 2147483648 then 3 else if pre.any (fun q => q.call == p.call) = true then 7 else if p.masks.length > 3 then 5 else if p.masks.any badM = true then 3 else 0
def wrongAt (l : List Pol) (k : Nat) : Int := match l[k]? with | some p => wrong1 (l.take k) p | none => 0
def firstE (f : Nat → Int) : Nat → Nat → Int × Int
  | 0, _ => (0, 0)
  | n + 1, k => if f k = 0 then firstE f n (k + 1) else (f k, (k : Int))
theorem firstE_ok {f : Nat → Int} : ∀ (n k : Nat), (∀ j, k ≤ j → j < k + n → f j = 0) → firstE f n k = (0, 0)
  | 0, _, _ => rfl
  | n + 1, k, h => by
    rw [firstE, if_pos (h k (Nat.le_refl k) (by omega))]
    exact firstE_ok n (k + 1) fun j h1 h2 => h j (by omega) (by omega)
theorem firstE_bad {f : Nat → Int} : ∀ (n k j : Nat), k ≤ j → j < k + n → (∀ i, k ≤ i → i < j → f i = 0) → f j ≠ 0 → firstE f n k = (f j, (j : Int))
  | 0, _, _, _, _, _, _ => by omega
  | n + 1, k, j, h1, h2, h3, h4 => by
    rw [firstE]
    rcases Nat.lt_or_ge k j with h | h
    · rw [if_pos (h3 k (Nat.le_refl k) h)]
      exact firstE_bad n (k + 1) j (by omega) (by omega) (fun i a b => h3 i (by omega) b) h4
    · have : k = j := by omega
      subst this
      rw [if_neg h4]
def wrongS (l : List Pol) : Int × Int := if l.length > 30 then (5, 0) else firstE (wrongAt l) l.length 0
theorem wrong_bad {l : List Pol} {k : Nat} (h0 : ¬ l.length > 30) (hk : k < l.length) (hg : ∀ j, j < k → wrongAt l j = 0) {e : Int} (h : wrong1 (l.take k) l[k] = e) (he : e ≠ 0) : fltV (e, (k : Int)) = fltV (wrongS l) := by
  have hw : wrongAt l k = e := by
    rw [wrongAt, List.getElem?_eq_getElem hk]; exact h
  rw [wrongS, if_neg h0, firstE_bad l.length 0 k (by omega) (by omega) (fun i _ hi => hg i hi) (by rw [hw]; exact he), hw]
theorem wrong_next {l : List Pol} {k : Nat} (hk : k < l.length) (hg : ∀ j, j < k → wrongAt l j = 0) (h : wrong1 (l.take k) l[k] = 0) : ∀ j, j < k + 1 → wrongAt l j = 0 := by
  intro j hj
  rcases Nat.lt_or_ge j k with h1 | h1
  · exact hg j h1
  · have : j = k := by omega
    subst this
    rw [wrongAt, List.getElem?_eq_getElem hk]; exact h
theorem l15 : lowF Try.prog Try.f15 = some c15 := by kernel_rfl
set_option maxRecDepth 100000 in
set_option maxHeartbeats 8000000 in
theorem wrong_body (l : List Pol) : body Try.prog c15 [polsV l] [] (fun r m => r = fltV (wrongS l)) := by
  refine bB_dec (fun h => ?_) (fun h0 => ?_)
  · have h : l.length > 30 := by
      have h : (((l.map Pol.enc).length : Nat) : Int) > 30 := h
      rw [List.length_map] at h; omega
    rw [wrongS, if_pos h]; exact rfl
  have h0 : ¬ l.length > 30 := by
    have h : ¬ (((l.map Pol.enc).length : Nat) : Int) > 30 := h0
    rw [List.length_map] at h; omega
  refine loop_keep (fun k => k ≤ l.length ∧ ∀ (j : Nat), j < k → wrongAt l j = 0) [0, 2, 9, 10] (fun k => [(11, vInt .i64 (k : Nat))]) (fun _ => [.var [.dat (.val (.int .i64 0)), .dat (.val (.int .i64 0))]]) (fun k => l.length - k) 0 ⟨Nat.zero_le _, fun j h => absurd h (Nat.not_lt_zero j)⟩ ?_ (fun k hk => ?_)
  · refine View.of 1 [0] [] rfl rfl rfl rfl rfl rfl ?_ ?_
    · repeat (first | exact .nil | refine .junk ?_ | refine .eq rfl ?_)
    · exact .put (by simp [memN]) rfl (.eq rfl (by simp)) (.nil _)
  · refine bB_dec (fun h => ?_) (fun h => ?_)
    · have hlt : k < l.length := by
        have h : (k : Int) < ((l.map Pol.enc).length : Int) := h
        rw [List.length_map] at h
        omega
      have bad : ∀ {e : Int}, wrong1 (l.take k) l[k] = e → e ≠ 0 → fltV (e, (k : Int)) = fltV (wrongS l) := fun a b => wrong_bad h0 hlt hk.2 a b
      have good := wrong_next hlt hk.2
      have hg : getZ (l.map Pol.enc) (k : Nat) = some [.val (.int .i64 l[k].call), .sl 2 (l[k].masks.map Msk.enc)] := by
        rw [getZ_nat, List.getElem?_map, List.getElem?_eq_getElem hlt]; rfl
      generalize l[k] = p at bad good hg
      obtain ⟨call, masks⟩ := p
      refine ok_some hg ?_
      refine bB_dec (fun h => ?_) (fun h1 => ?_)
      · exact bad (by rw [wrong1, if_pos (.inl h)]) (by decide)
      refine bB_dec (fun h => ?_) (fun h2 => ?_)
      · exact bad (by rw [wrong1, if_pos (.inr h)]) (by decide)
      have n1 : ¬ ((⟨call, masks⟩ : Pol).call < 0 ∨ (⟨call, masks⟩ : Pol).call ≥ 2147483648) := fun h => h.elim h1 h2
      have hcall : ∀ {m : Mem} {K : CV → Mem → Prop}, nth m 1 = some (.var ((⟨call, masks⟩ : Pol).enc.map .dat)) → K (vBool ((l.take k).any fun q => q.call == (⟨call, masks⟩ : Pol).call)) m → ACall Try.prog 62 [.rv (.one (.dat (.sl 2 (((l.map Pol.enc).take k).drop 0)))), .rv (.one (.fn 63 [1]))] m K := by
        intro m K hm hK
        have e : ((l.map Pol.enc).take k).drop 0 = (l.take k).map Pol.enc := by simp
        rw [e]
        exact acall_look 1 hm rfl rfl (any62B_ok (l.take k) (by simp; omega) 63 (⟨call, masks⟩ : Pol).enc (fun q => q.call == (⟨call, masks⟩ : Pol).call) fun s _ K hs => clo63 _ s K hs) hK
      refine bB_yes (by simp [Nat.ble_eq]; omega) ?_
      refine hcall rfl ?_
      refine bB_split (fun h => ?_) (fun h3 => ?_)
      · exact bad (by rw [wrong1, if_neg n1, if_pos h]) (by decide)
      have n2 : ¬ ((l.take k).any fun q => q.call == (⟨call, masks⟩ : Pol).call) = true := by rw [h3]; simp
      refine bB_dec (fun h => ?_) (fun h4 => ?_)
      · have h : (⟨call, masks⟩ : Pol).masks.length > 3 := by
          have h : (((masks.map Msk.enc).length : Nat) : Int) > 3 := h
          rw [List.length_map] at h
          show masks.length > 3
          omega
        exact bad (by rw [wrong1, if_neg n1, if_neg n2, if_pos h]) (by decide)
      have n3 : ¬ (⟨call, masks⟩ : Pol).masks.length > 3 := by
        have h : ¬ (((masks.map Msk.enc).length : Nat) : Int) > 3 := h4
        rw [List.length_map] at h
        show ¬ masks.length > 3
        omega
      refine any64A_ok masks (by have : ¬ masks.length > 3 := n3; omega) 65 badM (fun s _ K hs => clo65 s K hs) ?_
      refine bB_split (fun h => ?_) (fun h5 => ?_)
      · exact bad (by rw [wrong1, if_neg n1, if_neg n2, if_neg n3, if_pos h]) (by decide)
      have n4 : ¬ (⟨call, masks⟩ : Pol).masks.any badM = true := by
        show ¬ masks.any badM = true
        rw [h5]; simp
      refine ⟨k + 1, ⟨hlt, good (by rw [wrong1, if_neg n1, if_neg n2, if_neg n3, if_neg n4])⟩, (show l.length - (k + 1) < l.length - k by omega), View.of 2 [0] [] rfl rfl rfl rfl rfl rfl ?_ ?_⟩
      · repeat (first | exact .nil | refine .junk ?_ | refine .put (.ren (next_i64 (by omega)).symm) ?_ | refine .eq rfl ?_)
      · exact .put (by simp [memN]) rfl (.eq rfl (by simp)) (.nil _)
    · have hge : ¬ (k : Int) < ((l.map Pol.enc).length : Int) := h
      rw [List.length_map] at hge
      rw [wrongS, if_neg h0, firstE_ok l.length 0 fun j _ hj => hk.2 j (by omega)]
      exact rfl
set_option maxRecDepth 100000 in
theorem wrong_ok (l : List Pol) {m : Mem} {K : CV → Mem → Prop} (h : K (fltV (wrongS l)) m) : ACall Try.prog 15 [polsV l] m K :=
  acall_val Try.func15 l15 rfl (Nat.le_of_ble_eq_true rfl) (wrong_body l) rfl rfl h
/-! Wrong of the document -/
def entM (p : Pol) : ME := ⟨.int .i64 p.call, .one (.dat (.val (.bool true)))⟩
theorem mFind_calls (c : Int) : ∀ L : List Pol, mFind (.int .i64 c) (L.map entM) = if L.any (fun q => q.call == c) = true then some (some (.one (.dat (.val (.bool true))))) else some none
  | [] => rfl
  | p :: r => by
    have ih := mFind_calls c r
    simp only [List.map_cons, mFind, entM, keyEq, decide_true, List.any_cons]
    by_cases h : c = p.call
    · subst h
      simp
    · have h1 : (c == p.call) = false := by simpa using h
      have h2 : (p.call == c) = false := by simpa using fun e => h e.symm
      simp only [h1, h2, Bool.false_or]
      exact ih
theorem mSet_calls (c : Int) (v : RV) : ∀ L : List Pol, L.any (fun q => q.call == c) = false → mSet (.int .i64 c) v (L.map entM) = some (L.map entM ++ [⟨.int .i64 c, v⟩])
  | [], _ => rfl
  | p :: r, h => by
    simp only [List.any_cons, Bool.or_eq_false_iff] at h
    have ih := mSet_calls c v r h.2
    have h1 : (c == p.call) = false := by
      have := h.1
      simp only [beq_eq_false_iff_ne, ne_eq] at this ⊢
      exact fun e => this e.symm
    simp only [List.map_cons, mSet, entM, keyEq, decide_true, h1]
    rw [ih]
    rfl
theorem mp_ren {σ : Nat → Nat} (L : List Pol) : (Bk.mp (L.map entM)).ren σ = .mp (L.map entM) := by
  simp [Bk.ren, RV.ren, CC.ren, entM, Function.comp_def]
theorem l16 : lowF Try.prog Try.f16 = some c16 := by kernel_rfl
set_option maxRecDepth 100000 in
set_option maxHeartbeats 8000000 in
theorem rwrong_body (l : List Pol) : body Try.prog c16 [polsV l] [] (fun r m => r = fltV (wrongS l)) := by
  refine bB_dec (fun h => ?_) (fun h0 => ?_)
  · have h : l.length > 30 := by
      have h : (((l.map Pol.enc).length : Nat) : Int) > 30 := h
      rw [List.length_map] at h; omega
    rw [wrongS, if_pos h]; exact rfl
  have h0 : ¬ l.length > 30 := by
    have h : ¬ (((l.map Pol.enc).length : Nat) : Int) > 30 := h0
    rw [List.length_map] at h; omega
  refine loop_keep (fun k => k ≤ l.length ∧ ∀ (j : Nat), j < k → wrongAt l j = 0) [0, 2, 3, 14, 15] (fun k => [(16, vInt .i64 (k : Nat))]) (fun k => [.var [.dat (.val (.int .i64 0)), .dat (.val (.int .i64 0))], .mp ((l.take k).map entM)]) (fun k => l.length - k) 0 ⟨Nat.zero_le _, fun j h => absurd h (Nat.not_lt_zero j)⟩ ?_ (fun k hk => ?_)
  · refine View.of 2 [0, 1] [] rfl rfl rfl rfl rfl rfl ?_ ?_
    · repeat (first | exact .nil | refine .junk ?_ | refine .eq rfl ?_)
    · exact .put (by simp [memN]) rfl (.eq rfl (by simp)) (.put (by simp [memN]) rfl (.eq rfl (by simp)) (.nil _))
  · refine bB_dec (fun h => ?_) (fun h => ?_)
    · have hlt : k < l.length := by
        have h : (k : Int) < ((l.map Pol.enc).length : Int) := h
        rw [List.length_map] at h
        omega
      have bad : ∀ {e : Int}, wrong1 (l.take k) l[k] = e → e ≠ 0 → fltV (e, (k : Int)) = fltV (wrongS l) := fun a b => wrong_bad h0 hlt hk.2 a b
      have good := wrong_next hlt hk.2
      have htk : l.take (k + 1) = l.take k ++ [l[k]] := by
        rw [List.take_add_one, List.getElem?_eq_getElem hlt]; rfl
      have hg : getZ (l.map Pol.enc) (k : Nat) = some [.val (.int .i64 l[k].call), .sl 2 (l[k].masks.map Msk.enc)] := by
        rw [getZ_nat, List.getElem?_map, List.getElem?_eq_getElem hlt]; rfl
      generalize l[k] = p at bad good hg htk
      obtain ⟨call, masks⟩ := p
      have hbad : ∀ (e : Int) {m : Mem} {K : CV → Mem → Prop}, nth m 2 = some (.var ([Dt.val (.int .i64 (k : Nat))].map .dat)) → K (fltV (e, (k : Int))) m → ACall Try.prog 66 [vInt .i64 e, .rv (.one (.ptr 2 0))] m K := by
        intro e m K hm hK
        exact acall_look 2 hm rfl rfl (clo66 e (k : Nat)) hK
      refine ok_some hg ?_
      refine bB_dec (fun h => ?_) (fun h1 => ?_)
      · refine hbad 3 rfl ?_
        exact bad (by rw [wrong1, if_pos (.inl h)]) (by decide)
      refine bB_dec (fun h => ?_) (fun h2 => ?_)
      · refine hbad 3 rfl ?_
        exact bad (by rw [wrong1, if_pos (.inr h)]) (by decide)
      have n1 : ¬ ((⟨call, masks⟩ : Pol).call < 0 ∨ (⟨call, masks⟩ : Pol).call ≥ 2147483648) := fun h => h.elim h1 h2
      have hf := mFind_calls call (l.take k)
      cases h3 : (l.take k).any (fun q => q.call == call) with
      | true =>
        rw [h3, if_pos rfl] at hf
        refine ok_some hf ?_
        refine hbad 7 rfl ?_
        exact bad (by rw [wrong1, if_neg n1, if_pos h3]) (by decide)
      | false =>
        rw [h3, if_neg (by simp)] at hf
        refine ok_some hf ?_
        have n2 : ¬ ((l.take k).any fun q => q.call == (⟨call, masks⟩ : Pol).call) = true := by
          show ¬ ((l.take k).any fun q => q.call == call) = true
          rw [h3]; simp
        refine ok_some (mSet_calls call (.one (.dat (.val (.bool true)))) (l.take k) h3) ?_
        refine bB_dec (fun h => ?_) (fun h4 => ?_)
        · have h : (⟨call, masks⟩ : Pol).masks.length > 3 := by
            have h : (((masks.map Msk.enc).length : Nat) : Int) > 3 := h
            rw [List.length_map] at h
            show masks.length > 3
            omega
          refine hbad 5 rfl ?_
          exact bad (by rw [wrong1, if_neg n1, if_neg n2, if_pos h]) (by decide)
        have n3 : ¬ (⟨call, masks⟩ : Pol).masks.length > 3 := by
          have h : ¬ (((masks.map Msk.enc).length : Nat) : Int) > 3 := h4
          rw [List.length_map] at h
          show ¬ masks.length > 3
          omega
        have hm3 : masks.length ≤ 3 := by
          have : ¬ masks.length > 3 := n3
          omega
        have hmp : (l.take k).map entM ++ [⟨.int .i64 call, .one (.dat (.val (.bool true)))⟩] = (l.take (k + 1)).map entM := by
          rw [htk, List.map_append]; rfl
        refine loop_keep (fun j => j ≤ masks.length ∧ ∀ (i : Nat) s, i < j → masks[i]? = some s → badM s = false) [0, 2, 3, 6, 14, 15, 16, 48, 49] (fun j => [(50, vInt .i64 (j : Nat))])
          (fun _ => [.var [.dat (.val (.int .i64 0)), .dat (.val (.int .i64 0))], .mp ((l.take (k + 1)).map entM), .var ([Dt.val (.int .i64 (k : Nat))].map .dat)]) (fun j => masks.length - j) 0 ⟨Nat.zero_le _, fun j s h => absurd h (Nat.not_lt_zero j)⟩ ?_ (fun j hj => ?_)
        · refine View.of 4 [0, 1, 2] [] rfl rfl rfl rfl rfl rfl ?_ ?_
          · repeat (first | exact .nil | refine .junk ?_ | refine .eq rfl ?_)
          · exact .put (by simp [memN]) rfl (.eq rfl (by simp)) (.put (by simp [memN]) rfl (.eq (by rw [hmp]; exact mp_ren _) (by simp)) (.put (by simp [memN]) rfl (.eq rfl (by simp)) (.nil _)))
        · refine bB_dec (fun h => ?_) (fun h => ?_)
          · have hjlt : j < masks.length := by
              have h : (j : Int) < ((masks.map Msk.enc).length : Int) := h
              rw [List.length_map] at h
              omega
            have hi := List.getElem?_eq_getElem hjlt
            generalize masks[j] = s at hi
            have hbm : badM s = true → masks.any badM = true := fun h => List.any_eq_true.2 ⟨s, List.mem_of_getElem? hi, h⟩
            obtain ⟨w, bits⟩ := s
            have hg2 : getZ (masks.map Msk.enc) (j : Nat) = some [.val (.int .i64 w), .val (.int .i64 bits)] := by
              rw [getZ_nat, List.getElem?_map, hi]; rfl
            have hbd : badM ⟨w, bits⟩ = (decide (w < 1) || decide (w > 5) || decide (bits < 1) || decide (bits ≥ 2147483648)) := by
              have e : decide (w ≥ 6) = decide (w > 5) := by
                rw [Bool.eq_iff_iff]; simp; omega
              simp only [badM, e]
            have out : badM ⟨w, bits⟩ = true → fltV (3, (k : Int)) = fltV (wrongS l) := fun h => bad (by rw [wrong1, if_neg n1, if_neg n2, if_neg n3, if_pos (hbm h)]) (by decide)
            refine ok_some hg2 ?_
            refine bB_split (fun h => ?_) (fun m1 => ?_)
            · refine hbad 3 rfl ?_
              exact out (by rw [hbd, h]; rfl)
            refine bB_split (fun h => ?_) (fun m2 => ?_)
            · refine hbad 3 rfl ?_
              exact out (by rw [hbd, m1, h]; rfl)
            refine bB_split (fun h => ?_) (fun m3 => ?_)
            · refine hbad 3 rfl ?_
              exact out (by rw [hbd, m1, m2, h]; rfl)
            refine bB_split (fun h => ?_) (fun m4 => ?_)
            · refine hbad 3 rfl ?_
              exact out (by rw [hbd, m1, m2, m3, h]; rfl)
            refine ⟨j + 1, ⟨hjlt, fun i s hij hs => ?_⟩, (show masks.length - (j + 1) < masks.length - j by omega), View.of 4 [0, 1, 2] [] rfl rfl rfl rfl rfl rfl ?_ ?_⟩
            · rcases Nat.lt_or_ge i j with h5 | h5
              · exact hj.2 i s h5 hs
              · have : i = j := by omega
                subst this
                rw [hi] at hs
                cases hs
                rw [hbd, m1, m2, m3, m4]; rfl
            · repeat (first | exact .nil | refine .junk ?_ | refine .put (.ren (next_i64 (by omega)).symm) ?_ | refine .eq rfl ?_)
            · exact .put (by simp [memN]) rfl (.eq rfl (by simp)) (.put (by simp [memN]) rfl (.eq (mp_ren _) (by simp)) (.put (by simp [memN]) rfl (.eq rfl (by simp)) (.nil _)))
          · have hge : ¬ (j : Int) < ((masks.map Msk.enc).length : Int) := h
            rw [List.length_map] at hge
            have n4 : ¬ (⟨call, masks⟩ : Pol).masks.any badM = true := by
              show ¬ masks.any badM = true
              intro h
              obtain ⟨s, hs, hb⟩ := List.any_eq_true.1 h
              obtain ⟨i, hi⟩ := List.getElem?_of_mem hs
              have := (List.getElem?_eq_some_iff.1 hi).1
              rw [hj.2 i s (by omega) hi] at hb
              cases hb
            refine ⟨k + 1, ⟨hlt, good (by rw [wrong1, if_neg n1, if_neg n2, if_neg n3, if_neg n4])⟩, (show l.length - (k + 1) < l.length - k by omega), View.of 3 [0, 1] [] rfl rfl rfl rfl rfl rfl ?_ ?_⟩
            · repeat (first | exact .nil | refine .junk ?_ | refine .put (.ren (next_i64 (by omega)).symm) ?_ | refine .eq rfl ?_)
            · exact .put (by simp [memN]) rfl (.eq rfl (by simp)) (.put (by simp [memN]) rfl (.eq (mp_ren _) (by simp)) (.nil _))
    · have hge : ¬ (k : Int) < ((l.map Pol.enc).length : Int) := h
      rw [List.length_map] at hge
      rw [wrongS, if_neg h0, firstE_ok l.length 0 fun j _ hj => hk.2 j (by omega)]
      exact rfl
set_option maxRecDepth 100000 in
theorem rwrong_ok (l : List Pol) {m : Mem} {K : CV → Mem → Prop} (h : K (fltV (wrongS l)) m) : ACall Try.prog 16 [polsV l] m K :=
  acall_val Try.func16 l16 rfl (Nat.le_of_ble_eq_true rfl) (rwrong_body l) rfl rfl h
end Go.Proofs.Ytflieebgiejjpaa
