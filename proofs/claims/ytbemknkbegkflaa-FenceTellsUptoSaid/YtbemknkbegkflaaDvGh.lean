import Derived.Test.YtbemknkbegkflaaAmZ2
import Derived.Test.YtbemknkbegkflaaDvGg
import Derived.Test.YtbemknkbegkflaaAmY
set_option linter.unusedVariables false
set_option linter.unusedSimpArgs false
namespace Go.Proofs.Ytbemknkbegkflaa
open Go.AM Go.ChangeShapes Go.WideShapes Go.ChangeAt Go.RowKit
def c6 : LF := ⟨124, [.tmp 4], (.seq (.reg [
    ⟨(some 2), .box (.t 0), none⟩,
    ⟨(some 4), .mov (.c (.rv (.one .esl))), none⟩]) (.seq (.reg [
    ⟨(some 17), .fadr 0 (.t 2), none⟩,
    ⟨(some 18), .load false 1 (.t 17), none⟩,
    ⟨(some 19), .len 1 (.t 18), none⟩,
    ⟨(some 20), .mkslice 1 1 [(.dat (.val (.bool false)))] (.t 19) (.t 19), none⟩,
    ⟨(some 21), .build [(.dat (.val (.pointer none))), .esl, .esl] [(0, 1, (.t 2)), (1, 1, (.t 20))], none⟩,
    ⟨(some 22), .box (.t 21), none⟩,
    ⟨(some 5), .mov (.t 22), none⟩]) (.seq (.seq (.reg [
    ⟨(some 23), .mov (.t 1), none⟩,
    ⟨(some 24), .len 1 (.t 23), none⟩,
    ⟨(some 25), .mov (.c (.rv (.one (.dat (.val (.int .i64 (0))))))), none⟩]) (.block 0 (.loop (.seq (.reg [
    ⟨(some 26), .bin .lss (.t 25) (.t 24), none⟩]) (.seq (.cond (.t 26) .skip (.exit 0)) (.seq (.block 1 (.seq (.reg [
    ⟨(some 27), .idx 1 (.t 23) (.t 25), none⟩,
    ⟨(some 28), .load false 1 (.t 27), none⟩,
    ⟨(some 7), .mov (.t 28), none⟩]) (.reg [
    ⟨(some 29), .mov (.t 5), none⟩,
    ⟨(some 30), .mov (.t 7), none⟩,
    ⟨(some 31), .call (.c (.rv (.one (.fn 19 [])))) [(.t 29), (.t 30)], none⟩]))) (.reg [
    ⟨(some 32), .bin .add (.t 25) (.c (.rv (.one (.dat (.val (.int .i64 (1))))))), none⟩,
    ⟨(some 25), .mov (.t 32), none⟩]))))))) (.seq (.block 2 (.loop (.seq (.seq (.reg [
    ⟨(some 33), .mov (.t 5), none⟩,
    ⟨(some 34), .nilc (.t 33), none⟩,
    ⟨(some 35), .fadr 2 (.t 34), none⟩,
    ⟨(some 36), .load false 1 (.t 35), none⟩,
    ⟨(some 37), .len 1 (.t 36), none⟩,
    ⟨(some 38), .bin .gtr (.t 37) (.c (.rv (.one (.dat (.val (.int .i64 (0))))))), none⟩]) (.cond (.t 38) .skip (.exit 2))) (.block 3 (.seq (.reg [
    ⟨(some 39), .mov (.t 5), none⟩,
    ⟨(some 40), .nilc (.t 39), none⟩,
    ⟨(some 41), .fadr 2 (.t 40), none⟩,
    ⟨(some 42), .load false 1 (.t 41), none⟩,
    ⟨(some 43), .idx 1 (.t 42) (.c (.rv (.one (.dat (.val (.int .i64 (0))))))), none⟩,
    ⟨(some 44), .load false 1 (.t 43), none⟩,
    ⟨(some 8), .mov (.t 44), none⟩]) (.seq (.reg [
    ⟨(some 45), .mov (.t 5), none⟩,
    ⟨(some 46), .mov (.t 5), none⟩,
    ⟨(some 47), .nilc (.t 46), none⟩,
    ⟨(some 48), .fadr 2 (.t 47), none⟩,
    ⟨(some 49), .load false 1 (.t 48), none⟩,
    ⟨(some 50), .slc 1 (.t 49) (some (.c (.rv (.one (.dat (.val (.int .i64 (1)))))))) none none, none⟩,
    ⟨(some 51), .nilc (.t 45), none⟩,
    ⟨(some 52), .fadr 2 (.t 51), none⟩,
    ⟨none, .store 1 (.t 52) (.t 50), none⟩]) (.seq (.reg [
    ⟨(some 53), .fadr 0 (.t 2), none⟩,
    ⟨(some 54), .load false 1 (.t 53), none⟩,
    ⟨(some 55), .mov (.t 8), none⟩,
    ⟨(some 56), .idx 9 (.t 54) (.t 55), none⟩,
    ⟨(some 9), .mov (.t 56), none⟩]) (.seq (.seq (.reg [
    ⟨(some 57), .mov (.t 9), none⟩,
    ⟨(some 58), .nilc (.t 57), none⟩,
    ⟨(some 59), .fadr 2 (.t 58), none⟩,
    ⟨(some 60), .load false 1 (.t 59), none⟩,
    ⟨(some 61), .len 1 (.t 60), none⟩,
    ⟨(some 62), .mov (.c (.rv (.one (.dat (.val (.int .i64 (0))))))), none⟩]) (.block 4 (.loop (.seq (.reg [
    ⟨(some 63), .bin .lss (.t 62) (.t 61), none⟩]) (.seq (.cond (.t 63) .skip (.exit 4)) (.seq (.block 5 (.seq (.reg [
    ⟨(some 64), .idx 2 (.t 60) (.t 62), none⟩,
    ⟨(some 65), .load true 2 (.t 64), none⟩,
    ⟨(some 11), .alloc [(.dat (.val (.string ⟨#[]⟩))), (.dat (.val (.int .i64 (0))))], none⟩,
    ⟨none, .store 2 (.t 11) (.t 65), none⟩]) (.reg [
    ⟨(some 66), .mov (.t 5), none⟩,
    ⟨(some 67), .fadr 1 (.t 11), none⟩,
    ⟨(some 68), .load false 1 (.t 67), none⟩,
    ⟨(some 69), .call (.c (.rv (.one (.fn 20 [])))) [(.t 66), (.t 68)], none⟩]))) (.reg [
    ⟨(some 70), .bin .add (.t 62) (.c (.rv (.one (.dat (.val (.int .i64 (1))))))), none⟩,
    ⟨(some 62), .mov (.t 70), none⟩]))))))) (.seq (.seq (.reg [
    ⟨(some 71), .mov (.t 9), none⟩,
    ⟨(some 72), .nilc (.t 71), none⟩,
    ⟨(some 73), .fadr 0 (.t 72), none⟩,
    ⟨(some 74), .load false 1 (.t 73), none⟩]) (.block 6 (.seq (.reg [
    ⟨(some 76), .bin .eql (.t 74) (.c (.rv (.one (.dat (.val (.int .i64 (4))))))), none⟩,
    ⟨(some 75), .mov (.t 76), none⟩]) (.cond (.t 75) (.reg [
    ⟨(some 77), .mov (.t 5), none⟩,
    ⟨(some 78), .mov (.t 9), none⟩,
    ⟨(some 79), .nilc (.t 78), none⟩,
    ⟨(some 80), .fadr 4 (.t 79), none⟩,
    ⟨(some 81), .load false 1 (.t 80), none⟩,
    ⟨(some 82), .call (.c (.rv (.one (.fn 20 [])))) [(.t 77), (.t 81)], none⟩]) (.seq (.reg [
    ⟨(some 84), .bin .eql (.t 74) (.c (.rv (.one (.dat (.val (.int .i64 (5))))))), none⟩,
    ⟨(some 83), .mov (.t 84), none⟩]) (.cond (.t 83) (.reg [
    ⟨(some 85), .mov (.t 5), none⟩,
    ⟨(some 86), .mov (.t 9), none⟩,
    ⟨(some 87), .nilc (.t 86), none⟩,
    ⟨(some 88), .fadr 6 (.t 87), none⟩,
    ⟨(some 89), .load false 1 (.t 88), none⟩,
    ⟨(some 90), .call (.c (.rv (.one (.fn 19 [])))) [(.t 85), (.t 89)], none⟩]) .skip)))))) (.seq (.reg [
    ⟨(some 91), .mov (.t 9), none⟩,
    ⟨(some 92), .nilc (.t 91), none⟩,
    ⟨(some 93), .fadr 5 (.t 92), none⟩,
    ⟨(some 94), .load false 1 (.t 93), none⟩,
    ⟨(some 95), .len 1 (.t 94), none⟩,
    ⟨(some 96), .mov (.c (.rv (.one (.dat (.val (.int .i64 (0))))))), none⟩]) (.block 7 (.loop (.seq (.reg [
    ⟨(some 97), .bin .lss (.t 96) (.t 95), none⟩]) (.seq (.cond (.t 97) .skip (.exit 7)) (.seq (.block 8 (.seq (.reg [
    ⟨(some 98), .idx 4 (.t 94) (.t 96), none⟩,
    ⟨(some 99), .load true 4 (.t 98), none⟩,
    ⟨(some 13), .alloc [.esl, (.dat (.val (.bool false))), (.dat (.val (.int .i64 (0)))), (.dat (.val (.int .i64 (0))))], none⟩,
    ⟨none, .store 4 (.t 13) (.t 99), none⟩]) (.seq (.reg [
    ⟨(some 100), .fadr 1 (.t 13), none⟩,
    ⟨(some 101), .load false 1 (.t 100), none⟩]) (.cond (.t 101) (.reg [
    ⟨(some 102), .mov (.t 5), none⟩,
    ⟨(some 103), .fadr 2 (.t 13), none⟩,
    ⟨(some 104), .load true 2 (.t 103), none⟩,
    ⟨(some 105), .call (.c (.rv (.one (.fn 21 [])))) [(.t 102), (.t 104)], none⟩]) .skip)))) (.reg [
    ⟨(some 106), .bin .add (.t 96) (.c (.rv (.one (.dat (.val (.int .i64 (1))))))), none⟩,
    ⟨(some 96), .mov (.t 106), none⟩])))))))))))))))) (.seq (.reg [
    ⟨(some 14), .mov (.c (.rv (.one .esl))), none⟩]) (.seq (.seq (.reg [
    ⟨(some 107), .mov (.t 5), none⟩,
    ⟨(some 108), .nilc (.t 107), none⟩,
    ⟨(some 109), .fadr 1 (.t 108), none⟩,
    ⟨(some 110), .load false 1 (.t 109), none⟩,
    ⟨(some 111), .len 1 (.t 110), none⟩,
    ⟨(some 112), .mov (.c (.rv (.one (.dat (.val (.int .i64 (0))))))), none⟩]) (.block 9 (.loop (.seq (.reg [
    ⟨(some 113), .bin .lss (.t 112) (.t 111), none⟩]) (.seq (.cond (.t 113) .skip (.exit 9)) (.seq (.block 10 (.seq (.reg [
    ⟨(some 114), .mov (.t 112), none⟩,
    ⟨(some 115), .idx 1 (.t 110) (.t 112), none⟩,
    ⟨(some 116), .load false 1 (.t 115), none⟩,
    ⟨(some 15), .mov (.t 114), none⟩,
    ⟨(some 16), .mov (.t 116), none⟩]) (.seq (.reg [
    ⟨(some 117), .mov (.t 16), none⟩]) (.cond (.t 117) (.reg [
    ⟨(some 118), .mov (.t 14), none⟩,
    ⟨(some 119), .mov (.t 15), none⟩,
    ⟨(some 120), .bsl 1 [(.dat (.val (.int .i64 (0))))] 1 [(0, (.t 119))], none⟩,
    ⟨(some 121), .app 1 8 (.t 118) (.t 120), none⟩,
    ⟨(some 14), .mov (.t 121), none⟩]) .skip)))) (.reg [
    ⟨(some 122), .bin .add (.t 112) (.c (.rv (.one (.dat (.val (.int .i64 (1))))))), none⟩,
    ⟨(some 112), .mov (.t 122), none⟩]))))))) (.seq (.reg [
    ⟨(some 123), .mov (.t 14), none⟩,
    ⟨(some 4), .mov (.t 123), none⟩]) .ret)))))))⟩
/-! Fence: fence.Reach -/
namespace Fe
theorem l6 : lowF Try.prog Try.f6 = some c6 := by kernel_rfl
def WS (l : List Obj) (ops : List Opn) (ps : List Prc) (s : List Nat × List Nat × Nat) : Mem := W4 l ops ps s.1 s.2
theorem vwC (l : List Obj) (ops : List Opn) (ps : List Prc) (H T : List Nat) (b : Bk) (R : Mem) (n : Nat) : MemVw (sg [0, 1, 2, 4] n) (kB l ops ps :: hadR l.length H :: wkB 4 0 :: b :: .row 1 (dRows (T.map nI)) :: R) (fun k => memN [] k = true) 0 (WS l ops ps (H, T, 0)) :=
  .put (notF rfl) rfl (.eq rfl (by simp [kB])) (.put (notF rfl) rfl (.rowDE rfl) (.put (notF rfl) rfl (.eq rfl (by simp [wkB])) (.put (notF rfl) rfl (.rowDE rfl) (.nil _))))
theorem vwD (l : List Obj) (ops : List Opn) (ps : List Prc) (H T : List Nat) (b x : Bk) (R : Mem) (n : Nat) : MemVw (sg [0, 1, 2, 5] n) (kB l ops ps :: hadR l.length H :: wkB 5 0 :: b :: x :: .row 1 (dRows (T.map nI)) :: R) (fun k => memN [] k = true) 0 (WS l ops ps (H, T, 0)) :=
  .put (notF rfl) rfl (.eq rfl (by simp [kB])) (.put (notF rfl) rfl (.rowDE rfl) (.put (notF rfl) rfl (.eq rfl (by simp [wkB])) (.put (notF rfl) rfl (.rowDE rfl) (.nil _))))
structure BI (l : List Obj) (ops : List Opn) (ps : List Prc) (pl : List Int) (s : List Nat × List Nat × Nat) : Prop where
  inv : Inv l ops ps pl s.1
  wi : WI l.length s
  rt : ∀ z, z ∈ rtZ ops ps pl → ∀ n, vO l z n → n ∈ s.1
  bf : ∃ p, p ≤ s.1.length ∧ s.2.1.drop s.2.2 = s.1.drop p ∧ ∀ (j i : Nat), j < p → s.1[j]? = some i → ∀ o, l[i]? = some o → ∀ z, z ∈ edZ ops ps o → ∀ n, vO l z n → n ∈ s.1
theorem vwE (l : List Obj) (ops : List Opn) (ps : List Prc) (H T : List Nat) (c n : Nat) (hc : c < T.length) (R : Mem) : MemVw (sg [0, 1, 2, 3] n) (kB l ops ps :: hadR l.length H :: .var [.ptr 0 0, .row 1 1 0 none, .row 3 1 (addN c 1) (some (addN c (lenOf (dRows (T.map nI)).length c none)))] :: .row 1 (dRows (T.map nI)) :: R) (fun k => memN [] k = true) 0 (WS l ops ps (H, T, c + 1)) := by
  have e1 : addN c 1 = c + 1 := by cases c <;> rfl
  have hTl : (dRows (T.map nI)).length = T.length := by rw [dRows_len, List.length_map]
  have e2 : addN c (lenOf (dRows (T.map nI)).length c none) = (dRows (T.map nI)).length := by
    rw [hTl]
    cases c with
    | zero => rfl
    | succ c => show c + 1 + (T.length - (c + 1)) = T.length; omega
  rw [e1, e2]
  refine .put (notF rfl) rfl (.eq rfl (by simp [kB])) (.put (notF rfl) rfl (.rowDE rfl) (.put (notF rfl) rfl (.var fun i c' hi => ?_) (.put (notF rfl) rfl (.rowDE rfl) (.nil _))))
  match i, hi with
  | 0, hi => cases hi; exact ⟨_, rfl, .ren (.ptr 0 0)⟩
  | 1, hi => cases hi; exact ⟨_, rfl, .ren (.row 1 1 0 none)⟩
  | 2, hi => cases hi; exact ⟨_, rfl, VwC.lo (σ := sg [0, 1, 2, 3] n) 3 1 (c + 1) (show (kB l ops ps :: hadR l.length H :: _ :: .row 1 (dRows (T.map nI)) :: R)[3]? = _ from rfl)⟩
  | n + 3, hi => simp at hi
theorem edZ_mem {ops : List Opn} {ps : List Prc} {o : Obj} {es : List NE} (he : o.entries = es.map entD) {pre : List Int} (hp : (if o.kind = 4 then [o.peer] else []) ++ (if o.kind = 5 then prZ ops ps o.proc else []) = pre) (z : Int) : z ∈ es.map (·.2) ++ (pre ++ quL ops o.queue) ↔ z ∈ edZ ops ps o := by
  subst hp
  have e1 : enZ o = es.map (·.2) := by rw [enZ, he, unE_map]
  have e2 : quZ ops o = quL ops o.queue := rfl
  rw [edZ, e1, e2]
  simp only [List.mem_append]
  constructor
  · rintro (h | (h | h) | h)
    · exact .inr (.inr (.inl h))
    · exact .inl h
    · exact .inr (.inl h)
    · exact .inr (.inr (.inr h))
  · rintro (h | h | h | h)
    · exact .inr (.inl (.inl h))
    · exact .inr (.inl (.inr h))
    · exact .inl h
    · exact .inr (.inr h)
theorem BI.end {l : List Obj} {ops : List Opn} {ps : List Prc} {pl : List Int} {s : List Nat × List Nat × Nat} (h : BI l ops ps pl s) (h0 : s.2.1.drop s.2.2 = []) : FOK l ops ps pl s.1 := by
  obtain ⟨p, h1, h2, h3⟩ := h.bf
  have hp : s.1.length ≤ p := by
    rw [h2] at h0
    exact List.drop_eq_nil_iff.1 h0
  refine { h.inv with clo := ⟨fun z hz n hn => h.rt z hz n hn, fun i o hi ho z hz n hn => ?_⟩ }
  obtain ⟨j, hj⟩ := List.getElem?_of_mem hi
  exact h3 j i (by have := (List.getElem?_eq_some_iff.1 hj).1; omega) hj o ho z hz n hn
def muB (N : Nat) (s : List Nat × List Nat × Nat) : Nat := 2 * (N - s.1.length) + (s.2.1.drop s.2.2).length
theorem BI.next {l : List Obj} {ops : List Opn} {ps : List Prc} {pl : List Int} {H T : List Nat} {c x : Nat} {r : List Nat} {o : Obj} {zs : List Int} (h : BI l ops ps pl (H, T, c)) (hx : T.drop c = x :: r) (ho : l[x]? = some o) (hz : ∀ z, z ∈ zs ↔ z ∈ edZ ops ps o) :
    BI l ops ps pl (wk2 l zs (H, T, c + 1)) ∧ muB l.length (wk2 l zs (H, T, c + 1)) < muB l.length (H, T, c) := by
  obtain ⟨p, h1, h2, h3⟩ := h.bf
  have h1 : p ≤ H.length := h1
  have h2 : T.drop c = H.drop p := h2
  have h3 : ∀ (j i : Nat), j < p → H[j]? = some i → ∀ o, l[i]? = some o → ∀ z, z ∈ edZ ops ps o → ∀ n, vO l z n → n ∈ H := h3
  have hd : H.drop p = x :: r := h2.symm.trans hx
  have hpl : p < H.length := by
    rcases Nat.lt_or_ge p H.length with h | h
    · exact h
    · rw [List.drop_eq_nil_of_le h] at hd; cases hd
  have hxp : H[p]? = some x := by
    have := congrArg (fun l => l[0]?) hd
    simpa using this
  have hr : T.drop (c + 1) = H.drop (p + 1) := by
    have e1 : T.drop (c + 1) = (T.drop c).drop 1 := by rw [List.drop_drop]
    have e2 : H.drop (p + 1) = (H.drop p).drop 1 := by rw [List.drop_drop]
    rw [e1, e2, h2]
  have hI0 : WI l.length (H, T, c + 1) := ⟨h.wi.nd, h.wi.lt, h.wi.le⟩
  have hI1 : WI l.length (wk2 l zs (H, T, c + 1)) := hI0.wk2
  obtain ⟨d, d1, d2⟩ := wk2_step l zs (H, T, c + 1)
  have d1 : (wk2 l zs (H, T, c + 1)).1 = H ++ d := d1
  have d2 : (wk2 l zs (H, T, c + 1)).2.1.drop (wk2 l zs (H, T, c + 1)).2.2 = T.drop (c + 1) ++ d := d2
  have hmk : (wk2 l zs (H, T, c + 1)).1 = mkL l zs H := wk2_fst l zs _
  have hle := hI1.len
  refine ⟨⟨?_, hI1, fun z hz' n hn => ?_, p + 1, ?_, ?_, fun j i hj hji o' ho' z hz' n hn => ?_⟩, ?_⟩
  · rw [hmk]
    exact h.inv.mkL fun z hz' S hS hm n hn => hS.s x o (hm x (List.mem_of_getElem? hxp)) ho z ((hz z).1 hz') n hn
  · rw [hmk]; exact mkL_sub (h.rt z hz' n hn)
  · rw [d1, List.length_append]; omega
  · rw [d2, d1, hr, List.drop_append_of_le_length (by omega)]
  · rw [hmk]
    rw [d1] at hji
    rcases Nat.lt_or_ge j p with h4 | h4
    · rw [List.getElem?_append_left (by omega)] at hji
      exact mkL_sub (h3 j i h4 hji o' ho' z hz' n hn)
    · have : j = p := by omega
      subst this
      rw [List.getElem?_append_left hpl, hxp] at hji
      cases hji
      rw [ho] at ho'
      cases ho'
      exact mkL_on ((hz z).2 hz') hn
  · show 2 * (l.length - (wk2 l zs (H, T, c + 1)).1.length) + ((wk2 l zs (H, T, c + 1)).2.1.drop (wk2 l zs (H, T, c + 1)).2.2).length < 2 * (l.length - H.length) + (T.drop c).length
    rw [d2, d1, List.length_append, List.length_append]
    have e1 : (T.drop c).length = r.length + 1 := by rw [hx]; rfl
    have e2 : (T.drop (c + 1)).length = r.length := by rw [List.length_drop] at e1 ⊢; omega
    have := h.wi.len
    rw [d1, List.length_append] at hle
    have : H.length ≤ l.length := this
    omega
def outL (N : Nat) (H : List Nat) (i : Nat) : List Nat := (List.range i).filter fun k => decide (k ∈ H)
theorem outL_succ (N : Nat) (H : List Nat) (i : Nat) : outL N H (i + 1) = outL N H i ++ (if i ∈ H then [i] else []) := by
  unfold outL
  rw [List.range_succ, List.filter_append]
  by_cases h : i ∈ H <;> simp [h]
theorem outL_len (N : Nat) (H : List Nat) (i : Nat) : (outL N H i).length ≤ i := Nat.le_trans (List.length_filter_le _ _) (by simp)
def natsV (L : List Nat) : CV := .rv (.one (.dat (.sl 1 (L.map nI))))
theorem hadL_nil (N : Nat) : hadL N [] = List.replicate N false := by
  unfold hadL
  rw [List.eq_replicate_iff]
  simp
set_option maxRecDepth 100000 in
set_option maxHeartbeats 64000000 in
theorem sreach_body (l : List Obj) (ops : List Opn) (ps : List Prc) (pl : List Int) (hl : l.length ≤ 4194304) (hen : ∀ o, o ∈ l → ∃ es : List NE, o.entries = es.map entD) (hsz : ∀ o, o ∈ l → o.entries.length ≤ 4194304 ∧ o.queue.length ≤ 4194304) (hpl : pl.length ≤ 4194304) (hps : ∀ p, p ∈ ps → p.slots.length ≤ 4194304) :
    body Try.prog c6 [kernV l ops ps, intsV pl] [] (fun r m => ∃ L, FOK l ops ps pl L ∧ FrzV m r (natsV (outL l.length L l.length))) := by
  refine bB_yes (Nat.beq_refl _) ?_
  refine ⟨by rw [List.length_map]; omega, ?_⟩
  refine loop_keep (fun i => i ≤ pl.length) [2, 5, 23, 24] (fun i => [(25, vInt .i64 (i : Nat))]) (fun i => WS l ops ps (wk2 l (rtZ ops ps (pl.take i)) ([], [], 0))) (fun i => pl.length - i) 0 (Nat.zero_le _) ?_ (fun i hi => ?_)
  · refine View.trans (View.eslc 2 2 1 3 rfl rfl rfl rfl) (View.of 4 [0, 1, 2, 3] [] rfl rfl rfl rfl rfl rfl ?_ ?_)
    · repeat (first | exact .nil | refine .junk ?_ | refine .eq rfl ?_)
    · exact .put (notF rfl) rfl (.eq rfl (by simp [kB])) (.put (notF rfl) rfl (.rowDE (ds := (hadL l.length []).map bE) (by rw [hadL_nil, repl_eq, List.length_map]; simp [dRows, bE])) (.put (notF rfl) rfl (.eq (show (wkB 3 0).ren _ = _ from rfl) (by simp [wkB])) (.put (notF rfl) rfl (.rowDE (ds := ([] : List Nat).map nI) rfl) (.nil _))))
  have hi : i ≤ pl.length := hi
  have hW0 : WI l.length (([] : List Nat), ([] : List Nat), 0) := ⟨by simp, by simp, by simp⟩
  have hWi : WI l.length (wk2 l (rtZ ops ps (pl.take i)) ([], [], 0)) := hW0.wk2
  refine bB_dec (fun h => ?_) (fun h => ?_)
  · have hilt : i < pl.length := by
      have h : (i : Int) < ((pl.map iE).length : Int) := h
      rw [List.length_map] at h
      omega
    have e : wk2 l (rtZ ops ps (pl.take (i + 1))) ([], [], 0) = wk2 l (prZ ops ps pl[i]) (wk2 l (rtZ ops ps (pl.take i)) ([], [], 0)) := by
      rw [takeO (List.getElem?_eq_getElem hilt), rtZ, List.flatMap_append, wk2_app]; simp [rtZ]
    refine ok_some (int_get hilt) ?_
    refine wcallA (wproc_c l ops ps hl hps pl[i] _ _ hWi) [] rfl (fun e1 => ?_) (fun H' T' e1 => ?_)
    · refine ⟨i + 1, hilt, (show pl.length - (i + 1) < pl.length - i by omega), View.of 4 [0, 1, 2, 3] [] rfl rfl rfl rfl rfl rfl ?_ (show MemVw _ _ _ 0 (WS l ops ps (wk2 l (rtZ ops ps (pl.take (i + 1))) ([], [], 0))) from by rw [e.trans e1]; exact vw4 l ops ps _ _ 4 [])⟩
      repeat (first | exact .nil | refine .junk ?_ | refine .put (.ren (next_i64 (by omega)).symm) ?_ | refine .eq rfl ?_)
    · refine ⟨i + 1, hilt, (show pl.length - (i + 1) < pl.length - i by omega), View.of 5 [0, 1, 2, 4] [] rfl rfl rfl rfl rfl rfl ?_ (show MemVw _ _ _ 0 (WS l ops ps (wk2 l (rtZ ops ps (pl.take (i + 1))) ([], [], 0))) from by rw [e.trans e1]; exact vwC l ops ps H' T' _ [] 5)⟩
      repeat (first | exact .nil | refine .junk ?_ | refine .put (.ren (next_i64 (by omega)).symm) ?_ | refine .eq rfl ?_)
  · have hie : i = pl.length := by
      have h : ¬ (i : Int) < ((pl.map iE).length : Int) := h
      rw [List.length_map] at h
      omega
    subst hie
    rw [List.take_length] at hWi
    rw [List.take_length]
    have hB0 : BI l ops ps pl (wk2 l (rtZ ops ps pl) ([], [], 0)) := by
      obtain ⟨d, d1, d2⟩ := wk2_step l (rtZ ops ps pl) ([], [], 0)
      have d1 : (wk2 l (rtZ ops ps pl) ([], [], 0)).1 = d := d1
      have d2 : (wk2 l (rtZ ops ps pl) ([], [], 0)).2.1.drop (wk2 l (rtZ ops ps pl) ([], [], 0)).2.2 = d := d2
      have hI : Inv l ops ps pl ([] : List Nat) := ⟨by simp, by simp, by simp⟩
      refine ⟨?_, hWi, fun z hz n hn => by rw [wk2_fst]; exact mkL_on hz hn, 0, Nat.zero_le _, by rw [d2, d1]; rfl, fun j i hj => absurd hj (Nat.not_lt_zero j)⟩
      rw [wk2_fst]
      exact hI.mkL fun z hz S hS _ n hn => hS.r z hz n hn
    generalize wk2 l (rtZ ops ps pl) ([], [], 0) = s0 at hB0
    clear hWi
    refine loop_keep (fun s => BI l ops ps pl s) [2, 5] (fun _ => []) (fun s => WS l ops ps s) (fun s => muB l.length s) s0 hB0 ?_ (fun s hB => ?_)
    · refine View.of 4 [0, 1, 2, 3] [] rfl rfl rfl rfl rfl rfl ?_ (vw4 l ops ps _ _ 4 [])
      repeat (first | exact .nil | refine .junk ?_ | refine .eq rfl ?_)
    obtain ⟨H, T, c⟩ := s
    have hB : BI l ops ps pl (H, T, c) := hB
    have hTl : (dRows (T.map nI)).length = T.length := by rw [dRows_len, List.length_map]
    have hlo : lenOf (dRows (T.map nI)).length c none = T.length - c := by rw [hTl]; cases c <;> simp [lenOf]
    refine bB_dec (fun h => ?_) (fun h => ?_)
    · have h : ((lenOf (dRows (T.map nI)).length c none : Nat) : Int) > 0 := h
      rw [hlo] at h
      have hcT : c < T.length := by omega
      have hx : T.drop c = T[c] :: T.drop (c + 1) := List.drop_eq_getElem_cons hcT
      have hxv : vO l (T[c] : Nat) T[c] := hB.inv.val _ (by
        obtain ⟨p, h1, h2, h3⟩ := hB.bf
        have h2 : T.drop c = H.drop p := h2
        have : T[c] ∈ T.drop c := by
          have h9 := List.mem_cons_self (a := T[c]) (l := T.drop (c + 1))
          rw [← hx] at h9
          exact h9
        rw [h2] at this
        exact List.mem_of_mem_drop this)
      obtain ⟨_, o, ho, _⟩ := hxv
      have hn : T[c] < l.length := (List.getElem?_eq_some_iff.1 ho).1
      have hoe : l[T[c]] = o := (List.getElem?_eq_some_iff.1 ho).2
      refine ok_some (x := 0) (by rw [hlo]; exact idxZ_nat (k := 0) (by omega)) ?_
      refine ok_some (x := [.dat (.val (.int .i64 (T[c] : Nat)))]) (by
        rw [nth_eq, show addN c 0 = c from by cases c <;> rfl]
        simp [dRows, nI, hcT]) ?_
      refine bB_yes (by show (Nat.ble 1 (lenOf (dRows (T.map nI)).length c none) && Nat.ble (lenOf (dRows (T.map nI)).length c none) ((dRows (T.map nI)).length - c)) = true; rw [hlo, hTl]; simp [Nat.ble_eq]; omega) ?_
      have hg := obj_get hn
      rw [hoe] at hg
      refine ok_some hg ?_
      have hol : o ∈ l := List.mem_of_getElem? ho
      obtain ⟨es, hes⟩ := hen o hol
      have hz := hsz o hol
      have fin : ∀ pre, (if o.kind = 4 then [o.peer] else []) ++ (if o.kind = 5 then prZ ops ps o.proc else []) = pre → BI l ops ps pl (wk2 l (es.map (·.2) ++ (pre ++ quL ops o.queue)) (H, T, c + 1)) ∧ muB l.length (wk2 l (es.map (·.2) ++ (pre ++ quL ops o.queue)) (H, T, c + 1)) < muB l.length (H, T, c) := fun pre hp => hB.next hx ho (edZ_mem hes hp)
      have hWc : WI l.length (H, T, c + 1) := ⟨hB.wi.nd, hB.wi.lt, hB.wi.le⟩
      clear hg hoe ho
      obtain ⟨kind, data, entries, target, peer, queue, proc, links, up⟩ := o
      have hes : entries = es.map entD := hes
      subst hes
      have hel : es.length ≤ 4194304 := by have h := hz.1; have h : (es.map entD).length ≤ 4194304 := h; rw [List.length_map] at h; exact h
      have hql : queue.length ≤ 4194304 := hz.2
      have fin : ∀ pre, (if kind = 4 then [peer] else []) ++ (if kind = 5 then prZ ops ps proc else []) = pre → BI l ops ps pl (wk2 l (es.map (·.2) ++ (pre ++ quL ops queue)) (H, T, c + 1)) ∧ muB l.length (wk2 l (es.map (·.2) ++ (pre ++ quL ops queue)) (H, T, c + 1)) < muB l.length (H, T, c) := fin
      refine loop_keep (fun k => k ≤ es.length) [2, 5, 9, 60, 61] (fun k => [(62, vInt .i64 (k : Nat))]) (fun k => WS l ops ps (wk2 l ((es.take k).map (·.2)) (H, T, c + 1))) (fun k => es.length - k) 0 (Nat.zero_le _) ?_ (fun k hk => ?_)
      · refine View.of 4 [0, 1, 2, 3] [] rfl rfl rfl rfl rfl rfl ?_ (vwE l ops ps H T c 4 hcT [])
        repeat (first | exact .nil | refine .junk ?_ | refine .eq rfl ?_)
      have hk : k ≤ es.length := hk
      have hWk : WI l.length (wk2 l ((es.take k).map (·.2)) (H, T, c + 1)) := hWc.wk2
      refine bB_dec (fun hkl => ?_) (fun hkl => ?_)
      · have hklt : k < es.length := by
          have h : (k : Int) < ((es.map entD).length : Int) := hkl
          rw [List.length_map] at h
          omega
        have e : wk2 l ((es.take (k + 1)).map (·.2)) (H, T, c + 1) = wk2 l [es[k].2] (wk2 l ((es.take k).map (·.2)) (H, T, c + 1)) := by
          rw [takeO (List.getElem?_eq_getElem hklt), List.map_append, wk2_app]; rfl
        refine ok_some (ent_get hklt) ?_
        refine wcallA (wadd_c l ops ps hl es[k].2 _ _ (Nat.le_trans hWk.le (Nat.le_trans hWk.len hl))) [.var [.dat (.val (.string es[k].1)), .dat (.val (.int .i64 es[k].2))]] rfl (fun e1 => ?_) (fun H' T' e1 => ?_)
        · refine ⟨k + 1, hklt, (show es.length - (k + 1) < es.length - k by omega), View.of 5 [0, 1, 2, 3] [] rfl rfl rfl rfl rfl rfl ?_ (show MemVw _ _ _ 0 (WS l ops ps (wk2 l ((es.take (k + 1)).map (·.2)) (H, T, c + 1))) from by rw [e.trans e1]; exact vw4 l ops ps _ _ 5 [_])⟩
          repeat (first | exact .nil | refine .junk ?_ | refine .put (.ren (next_i64 (by omega)).symm) ?_ | refine .eq rfl ?_)
        · refine ⟨k + 1, hklt, (show es.length - (k + 1) < es.length - k by omega), View.of 6 [0, 1, 2, 5] [] rfl rfl rfl rfl rfl rfl ?_ (show MemVw _ _ _ 0 (WS l ops ps (wk2 l ((es.take (k + 1)).map (·.2)) (H, T, c + 1))) from by rw [e.trans e1]; exact vwD l ops ps H' T' _ _ [] 6)⟩
          repeat (first | exact .nil | refine .junk ?_ | refine .put (.ren (next_i64 (by omega)).symm) ?_ | refine .eq rfl ?_)
      · have hke : k = es.length := by
          have h : ¬ (k : Int) < ((es.map entD).length : Int) := hkl
          rw [List.length_map] at h
          omega
        subst hke
        rw [List.take_length] at hWk
        rw [List.take_length]
        obtain ⟨⟨H1, T1, c1⟩, hs1⟩ : ∃ s1, wk2 l (es.map (·.2)) (H, T, c + 1) = s1 := ⟨_, rfl⟩
        rw [hs1]
        have hWI1 : WI l.length (H1, T1, c1) := hs1 ▸ hWk
        have hq1 : T1.length ≤ 4194304 := Nat.le_trans hWI1.le (Nat.le_trans hWI1.len hl)
        refine bB_beq (fun h4 => ?_) (fun h4 => ?_)
        · have h4 : kind = 4 := h4
          have h5 : ¬ kind = 5 := by omega
          refine wcallA (wadd_c l ops ps hl peer H1 (T1, c1) hq1) [] rfl (fun e1 => ?_) (fun H' T' e1 => ?_)
          · refine loop_keep (fun k => k ≤ queue.length) [2, 5, 94, 95] (fun k => [(96, vInt .i64 (k : Nat))]) (fun k => WS l ops ps (wk2 l (quL ops (queue.take k)) (wk2 l [peer] (H1, T1, c1)))) (fun k => queue.length - k) 0 (Nat.zero_le _) ?_ (fun k hk => ?_)
            · refine View.of 4 [0, 1, 2, 3] [] rfl rfl rfl rfl rfl rfl ?_ (show MemVw _ _ _ 0 (WS l ops ps (wk2 l [peer] (H1, T1, c1))) from by rw [e1]; exact vw4 l ops ps H1 (T1, c1) 4 [])
              repeat (first | exact .nil | refine .junk ?_ | refine .eq rfl ?_)
            have hk : k ≤ queue.length := hk
            have hWI : WI l.length (wk2 l (quL ops (queue.take k)) (wk2 l [peer] (H1, T1, c1))) := (show WI l.length (wk2 l [peer] (H1, T1, c1)) from hWI1.wk2).wk2
            refine bB_dec (fun hkl => ?_) (fun hkl => ?_)
            · have hklt : k < queue.length := by
                have h : (k : Int) < ((queue.map Msg.enc).length : Int) := hkl
                rw [List.length_map] at h
                omega
              have ht := quL_take (ops := ops) hklt
              have hg3 : getZ (queue.map Msg.enc) (k : Nat) = some (queue[k].enc) := by rw [getZ_nat, List.getElem?_map, List.getElem?_eq_getElem hklt]; rfl
              generalize queue[k] = ms at ht hg3
              obtain ⟨mdata, has, opn, rts⟩ := ms
              refine ok_some (x := [.sl 1 mdata, .val (.bool has), .val (.int .i64 opn), .val (.int .i64 rts)]) hg3 ?_
              cases has with
              | true =>
                have e : wk2 l (quL ops (queue.take (k + 1))) (wk2 l [peer] (H1, T1, c1)) = wk2 l [capZ ops opn] (wk2 l (quL ops (queue.take k)) (wk2 l [peer] (H1, T1, c1))) := by
                  rw [ht, wk2_app]; rfl
                refine wcallA (wcap_c l ops ps hl opn rts _ _ (Nat.le_trans hWI.le (Nat.le_trans hWI.len hl))) [.var [.dat (.sl 1 mdata), .dat (.val (.bool true)), .dat (.val (.int .i64 opn)), .dat (.val (.int .i64 rts))]] rfl (fun e1 => ?_) (fun H' T' e1 => ?_)
                · refine ⟨k + 1, hklt, (show queue.length - (k + 1) < queue.length - k by omega), View.of 5 [0, 1, 2, 3] [] rfl rfl rfl rfl rfl rfl ?_ (show MemVw _ _ _ 0 (WS l ops ps (wk2 l (quL ops (queue.take (k + 1))) (wk2 l [peer] (H1, T1, c1)))) from by rw [e.trans e1]; exact vw4 l ops ps _ _ 5 [_])⟩
                  repeat (first | exact .nil | refine .junk ?_ | refine .put (.ren (next_i64 (by omega)).symm) ?_ | refine .eq rfl ?_)
                · refine ⟨k + 1, hklt, (show queue.length - (k + 1) < queue.length - k by omega), View.of 6 [0, 1, 2, 5] [] rfl rfl rfl rfl rfl rfl ?_ (show MemVw _ _ _ 0 (WS l ops ps (wk2 l (quL ops (queue.take (k + 1))) (wk2 l [peer] (H1, T1, c1)))) from by rw [e.trans e1]; exact vwD l ops ps H' T' _ _ [] 6)⟩
                  repeat (first | exact .nil | refine .junk ?_ | refine .put (.ren (next_i64 (by omega)).symm) ?_ | refine .eq rfl ?_)
              | false =>
                have e : wk2 l (quL ops (queue.take (k + 1))) (wk2 l [peer] (H1, T1, c1)) = wk2 l (quL ops (queue.take k)) (wk2 l [peer] (H1, T1, c1)) := by
                  rw [ht, wk2_app]; rfl
                refine ⟨k + 1, hklt, (show queue.length - (k + 1) < queue.length - k by omega), View.of 5 [0, 1, 2, 3] [] rfl rfl rfl rfl rfl rfl ?_ (show MemVw _ _ _ 0 (WS l ops ps (wk2 l (quL ops (queue.take (k + 1))) (wk2 l [peer] (H1, T1, c1)))) from by rw [e]; exact vw4 l ops ps _ _ 5 [_])⟩
                repeat (first | exact .nil | refine .junk ?_ | refine .put (.ren (next_i64 (by omega)).symm) ?_ | refine .eq rfl ?_)
            · have hke : k = queue.length := by
                have h : ¬ (k : Int) < ((queue.map Msg.enc).length : Int) := hkl
                rw [List.length_map] at h
                omega
              subst hke
              rw [List.take_length]
              have e9 : wk2 l (es.map (·.2) ++ ([peer] ++ quL ops queue)) (H, T, c + 1) = wk2 l (quL ops queue) (wk2 l [peer] (H1, T1, c1)) := by rw [wk2_app, wk2_app, hs1]
              have f9 := fin [peer] (by simp [h4, h5])
              rw [e9] at f9
              refine ⟨wk2 l (quL ops queue) (wk2 l [peer] (H1, T1, c1)), f9.1, f9.2, View.of 4 [0, 1, 2, 3] [] rfl rfl rfl rfl rfl rfl ?_ (vw4 l ops ps _ _ 4 [])⟩
              · repeat (first | exact .nil | refine .junk ?_ | refine .eq rfl ?_)
          · refine loop_keep (fun k => k ≤ queue.length) [2, 5, 94, 95] (fun k => [(96, vInt .i64 (k : Nat))]) (fun k => WS l ops ps (wk2 l (quL ops (queue.take k)) (wk2 l [peer] (H1, T1, c1)))) (fun k => queue.length - k) 0 (Nat.zero_le _) ?_ (fun k hk => ?_)
            · refine View.of 5 [0, 1, 2, 4] [] rfl rfl rfl rfl rfl rfl ?_ (show MemVw _ _ _ 0 (WS l ops ps (wk2 l [peer] (H1, T1, c1))) from by rw [e1]; exact vwC l ops ps H' T' _ [] 5)
              repeat (first | exact .nil | refine .junk ?_ | refine .eq rfl ?_)
            have hk : k ≤ queue.length := hk
            have hWI : WI l.length (wk2 l (quL ops (queue.take k)) (wk2 l [peer] (H1, T1, c1))) := (show WI l.length (wk2 l [peer] (H1, T1, c1)) from hWI1.wk2).wk2
            refine bB_dec (fun hkl => ?_) (fun hkl => ?_)
            · have hklt : k < queue.length := by
                have h : (k : Int) < ((queue.map Msg.enc).length : Int) := hkl
                rw [List.length_map] at h
                omega
              have ht := quL_take (ops := ops) hklt
              have hg3 : getZ (queue.map Msg.enc) (k : Nat) = some (queue[k].enc) := by rw [getZ_nat, List.getElem?_map, List.getElem?_eq_getElem hklt]; rfl
              generalize queue[k] = ms at ht hg3
              obtain ⟨mdata, has, opn, rts⟩ := ms
              refine ok_some (x := [.sl 1 mdata, .val (.bool has), .val (.int .i64 opn), .val (.int .i64 rts)]) hg3 ?_
              cases has with
              | true =>
                have e : wk2 l (quL ops (queue.take (k + 1))) (wk2 l [peer] (H1, T1, c1)) = wk2 l [capZ ops opn] (wk2 l (quL ops (queue.take k)) (wk2 l [peer] (H1, T1, c1))) := by
                  rw [ht, wk2_app]; rfl
                refine wcallA (wcap_c l ops ps hl opn rts _ _ (Nat.le_trans hWI.le (Nat.le_trans hWI.len hl))) [.var [.dat (.sl 1 mdata), .dat (.val (.bool true)), .dat (.val (.int .i64 opn)), .dat (.val (.int .i64 rts))]] rfl (fun e1 => ?_) (fun H' T' e1 => ?_)
                · refine ⟨k + 1, hklt, (show queue.length - (k + 1) < queue.length - k by omega), View.of 5 [0, 1, 2, 3] [] rfl rfl rfl rfl rfl rfl ?_ (show MemVw _ _ _ 0 (WS l ops ps (wk2 l (quL ops (queue.take (k + 1))) (wk2 l [peer] (H1, T1, c1)))) from by rw [e.trans e1]; exact vw4 l ops ps _ _ 5 [_])⟩
                  repeat (first | exact .nil | refine .junk ?_ | refine .put (.ren (next_i64 (by omega)).symm) ?_ | refine .eq rfl ?_)
                · refine ⟨k + 1, hklt, (show queue.length - (k + 1) < queue.length - k by omega), View.of 6 [0, 1, 2, 5] [] rfl rfl rfl rfl rfl rfl ?_ (show MemVw _ _ _ 0 (WS l ops ps (wk2 l (quL ops (queue.take (k + 1))) (wk2 l [peer] (H1, T1, c1)))) from by rw [e.trans e1]; exact vwD l ops ps H' T' _ _ [] 6)⟩
                  repeat (first | exact .nil | refine .junk ?_ | refine .put (.ren (next_i64 (by omega)).symm) ?_ | refine .eq rfl ?_)
              | false =>
                have e : wk2 l (quL ops (queue.take (k + 1))) (wk2 l [peer] (H1, T1, c1)) = wk2 l (quL ops (queue.take k)) (wk2 l [peer] (H1, T1, c1)) := by
                  rw [ht, wk2_app]; rfl
                refine ⟨k + 1, hklt, (show queue.length - (k + 1) < queue.length - k by omega), View.of 5 [0, 1, 2, 3] [] rfl rfl rfl rfl rfl rfl ?_ (show MemVw _ _ _ 0 (WS l ops ps (wk2 l (quL ops (queue.take (k + 1))) (wk2 l [peer] (H1, T1, c1)))) from by rw [e]; exact vw4 l ops ps _ _ 5 [_])⟩
                repeat (first | exact .nil | refine .junk ?_ | refine .put (.ren (next_i64 (by omega)).symm) ?_ | refine .eq rfl ?_)
            · have hke : k = queue.length := by
                have h : ¬ (k : Int) < ((queue.map Msg.enc).length : Int) := hkl
                rw [List.length_map] at h
                omega
              subst hke
              rw [List.take_length]
              have e9 : wk2 l (es.map (·.2) ++ ([peer] ++ quL ops queue)) (H, T, c + 1) = wk2 l (quL ops queue) (wk2 l [peer] (H1, T1, c1)) := by rw [wk2_app, wk2_app, hs1]
              have f9 := fin [peer] (by simp [h4, h5])
              rw [e9] at f9
              refine ⟨wk2 l (quL ops queue) (wk2 l [peer] (H1, T1, c1)), f9.1, f9.2, View.of 4 [0, 1, 2, 3] [] rfl rfl rfl rfl rfl rfl ?_ (vw4 l ops ps _ _ 4 [])⟩
              · repeat (first | exact .nil | refine .junk ?_ | refine .eq rfl ?_)
        · have h4 : ¬ kind = 4 := h4
          refine bB_beq (fun h5 => ?_) (fun h5 => ?_)
          · have h5 : kind = 5 := h5
            refine wcallA (wproc_c l ops ps hl hps proc H1 (T1, c1) hWI1) [] rfl (fun e1 => ?_) (fun H' T' e1 => ?_)
            · refine loop_keep (fun k => k ≤ queue.length) [2, 5, 94, 95] (fun k => [(96, vInt .i64 (k : Nat))]) (fun k => WS l ops ps (wk2 l (quL ops (queue.take k)) (wk2 l (prZ ops ps proc) (H1, T1, c1)))) (fun k => queue.length - k) 0 (Nat.zero_le _) ?_ (fun k hk => ?_)
              · refine View.of 4 [0, 1, 2, 3] [] rfl rfl rfl rfl rfl rfl ?_ (show MemVw _ _ _ 0 (WS l ops ps (wk2 l (prZ ops ps proc) (H1, T1, c1))) from by rw [e1]; exact vw4 l ops ps H1 (T1, c1) 4 [])
                repeat (first | exact .nil | refine .junk ?_ | refine .eq rfl ?_)
              have hk : k ≤ queue.length := hk
              have hWI : WI l.length (wk2 l (quL ops (queue.take k)) (wk2 l (prZ ops ps proc) (H1, T1, c1))) := (show WI l.length (wk2 l (prZ ops ps proc) (H1, T1, c1)) from hWI1.wk2).wk2
              refine bB_dec (fun hkl => ?_) (fun hkl => ?_)
              · have hklt : k < queue.length := by
                  have h : (k : Int) < ((queue.map Msg.enc).length : Int) := hkl
                  rw [List.length_map] at h
                  omega
                have ht := quL_take (ops := ops) hklt
                have hg3 : getZ (queue.map Msg.enc) (k : Nat) = some (queue[k].enc) := by rw [getZ_nat, List.getElem?_map, List.getElem?_eq_getElem hklt]; rfl
                generalize queue[k] = ms at ht hg3
                obtain ⟨mdata, has, opn, rts⟩ := ms
                refine ok_some (x := [.sl 1 mdata, .val (.bool has), .val (.int .i64 opn), .val (.int .i64 rts)]) hg3 ?_
                cases has with
                | true =>
                  have e : wk2 l (quL ops (queue.take (k + 1))) (wk2 l (prZ ops ps proc) (H1, T1, c1)) = wk2 l [capZ ops opn] (wk2 l (quL ops (queue.take k)) (wk2 l (prZ ops ps proc) (H1, T1, c1))) := by
                    rw [ht, wk2_app]; rfl
                  refine wcallA (wcap_c l ops ps hl opn rts _ _ (Nat.le_trans hWI.le (Nat.le_trans hWI.len hl))) [.var [.dat (.sl 1 mdata), .dat (.val (.bool true)), .dat (.val (.int .i64 opn)), .dat (.val (.int .i64 rts))]] rfl (fun e1 => ?_) (fun H' T' e1 => ?_)
                  · refine ⟨k + 1, hklt, (show queue.length - (k + 1) < queue.length - k by omega), View.of 5 [0, 1, 2, 3] [] rfl rfl rfl rfl rfl rfl ?_ (show MemVw _ _ _ 0 (WS l ops ps (wk2 l (quL ops (queue.take (k + 1))) (wk2 l (prZ ops ps proc) (H1, T1, c1)))) from by rw [e.trans e1]; exact vw4 l ops ps _ _ 5 [_])⟩
                    repeat (first | exact .nil | refine .junk ?_ | refine .put (.ren (next_i64 (by omega)).symm) ?_ | refine .eq rfl ?_)
                  · refine ⟨k + 1, hklt, (show queue.length - (k + 1) < queue.length - k by omega), View.of 6 [0, 1, 2, 5] [] rfl rfl rfl rfl rfl rfl ?_ (show MemVw _ _ _ 0 (WS l ops ps (wk2 l (quL ops (queue.take (k + 1))) (wk2 l (prZ ops ps proc) (H1, T1, c1)))) from by rw [e.trans e1]; exact vwD l ops ps H' T' _ _ [] 6)⟩
                    repeat (first | exact .nil | refine .junk ?_ | refine .put (.ren (next_i64 (by omega)).symm) ?_ | refine .eq rfl ?_)
                | false =>
                  have e : wk2 l (quL ops (queue.take (k + 1))) (wk2 l (prZ ops ps proc) (H1, T1, c1)) = wk2 l (quL ops (queue.take k)) (wk2 l (prZ ops ps proc) (H1, T1, c1)) := by
                    rw [ht, wk2_app]; rfl
                  refine ⟨k + 1, hklt, (show queue.length - (k + 1) < queue.length - k by omega), View.of 5 [0, 1, 2, 3] [] rfl rfl rfl rfl rfl rfl ?_ (show MemVw _ _ _ 0 (WS l ops ps (wk2 l (quL ops (queue.take (k + 1))) (wk2 l (prZ ops ps proc) (H1, T1, c1)))) from by rw [e]; exact vw4 l ops ps _ _ 5 [_])⟩
                  repeat (first | exact .nil | refine .junk ?_ | refine .put (.ren (next_i64 (by omega)).symm) ?_ | refine .eq rfl ?_)
              · have hke : k = queue.length := by
                  have h : ¬ (k : Int) < ((queue.map Msg.enc).length : Int) := hkl
                  rw [List.length_map] at h
                  omega
                subst hke
                rw [List.take_length]
                have e9 : wk2 l (es.map (·.2) ++ ((prZ ops ps proc) ++ quL ops queue)) (H, T, c + 1) = wk2 l (quL ops queue) (wk2 l (prZ ops ps proc) (H1, T1, c1)) := by rw [wk2_app, wk2_app, hs1]
                have f9 := fin (prZ ops ps proc) (by simp [h4, h5])
                rw [e9] at f9
                refine ⟨wk2 l (quL ops queue) (wk2 l (prZ ops ps proc) (H1, T1, c1)), f9.1, f9.2, View.of 4 [0, 1, 2, 3] [] rfl rfl rfl rfl rfl rfl ?_ (vw4 l ops ps _ _ 4 [])⟩
                · repeat (first | exact .nil | refine .junk ?_ | refine .eq rfl ?_)
            · refine loop_keep (fun k => k ≤ queue.length) [2, 5, 94, 95] (fun k => [(96, vInt .i64 (k : Nat))]) (fun k => WS l ops ps (wk2 l (quL ops (queue.take k)) (wk2 l (prZ ops ps proc) (H1, T1, c1)))) (fun k => queue.length - k) 0 (Nat.zero_le _) ?_ (fun k hk => ?_)
              · refine View.of 5 [0, 1, 2, 4] [] rfl rfl rfl rfl rfl rfl ?_ (show MemVw _ _ _ 0 (WS l ops ps (wk2 l (prZ ops ps proc) (H1, T1, c1))) from by rw [e1]; exact vwC l ops ps H' T' _ [] 5)
                repeat (first | exact .nil | refine .junk ?_ | refine .eq rfl ?_)
              have hk : k ≤ queue.length := hk
              have hWI : WI l.length (wk2 l (quL ops (queue.take k)) (wk2 l (prZ ops ps proc) (H1, T1, c1))) := (show WI l.length (wk2 l (prZ ops ps proc) (H1, T1, c1)) from hWI1.wk2).wk2
              refine bB_dec (fun hkl => ?_) (fun hkl => ?_)
              · have hklt : k < queue.length := by
                  have h : (k : Int) < ((queue.map Msg.enc).length : Int) := hkl
                  rw [List.length_map] at h
                  omega
                have ht := quL_take (ops := ops) hklt
                have hg3 : getZ (queue.map Msg.enc) (k : Nat) = some (queue[k].enc) := by rw [getZ_nat, List.getElem?_map, List.getElem?_eq_getElem hklt]; rfl
                generalize queue[k] = ms at ht hg3
                obtain ⟨mdata, has, opn, rts⟩ := ms
                refine ok_some (x := [.sl 1 mdata, .val (.bool has), .val (.int .i64 opn), .val (.int .i64 rts)]) hg3 ?_
                cases has with
                | true =>
                  have e : wk2 l (quL ops (queue.take (k + 1))) (wk2 l (prZ ops ps proc) (H1, T1, c1)) = wk2 l [capZ ops opn] (wk2 l (quL ops (queue.take k)) (wk2 l (prZ ops ps proc) (H1, T1, c1))) := by
                    rw [ht, wk2_app]; rfl
                  refine wcallA (wcap_c l ops ps hl opn rts _ _ (Nat.le_trans hWI.le (Nat.le_trans hWI.len hl))) [.var [.dat (.sl 1 mdata), .dat (.val (.bool true)), .dat (.val (.int .i64 opn)), .dat (.val (.int .i64 rts))]] rfl (fun e1 => ?_) (fun H' T' e1 => ?_)
                  · refine ⟨k + 1, hklt, (show queue.length - (k + 1) < queue.length - k by omega), View.of 5 [0, 1, 2, 3] [] rfl rfl rfl rfl rfl rfl ?_ (show MemVw _ _ _ 0 (WS l ops ps (wk2 l (quL ops (queue.take (k + 1))) (wk2 l (prZ ops ps proc) (H1, T1, c1)))) from by rw [e.trans e1]; exact vw4 l ops ps _ _ 5 [_])⟩
                    repeat (first | exact .nil | refine .junk ?_ | refine .put (.ren (next_i64 (by omega)).symm) ?_ | refine .eq rfl ?_)
                  · refine ⟨k + 1, hklt, (show queue.length - (k + 1) < queue.length - k by omega), View.of 6 [0, 1, 2, 5] [] rfl rfl rfl rfl rfl rfl ?_ (show MemVw _ _ _ 0 (WS l ops ps (wk2 l (quL ops (queue.take (k + 1))) (wk2 l (prZ ops ps proc) (H1, T1, c1)))) from by rw [e.trans e1]; exact vwD l ops ps H' T' _ _ [] 6)⟩
                    repeat (first | exact .nil | refine .junk ?_ | refine .put (.ren (next_i64 (by omega)).symm) ?_ | refine .eq rfl ?_)
                | false =>
                  have e : wk2 l (quL ops (queue.take (k + 1))) (wk2 l (prZ ops ps proc) (H1, T1, c1)) = wk2 l (quL ops (queue.take k)) (wk2 l (prZ ops ps proc) (H1, T1, c1)) := by
                    rw [ht, wk2_app]; rfl
                  refine ⟨k + 1, hklt, (show queue.length - (k + 1) < queue.length - k by omega), View.of 5 [0, 1, 2, 3] [] rfl rfl rfl rfl rfl rfl ?_ (show MemVw _ _ _ 0 (WS l ops ps (wk2 l (quL ops (queue.take (k + 1))) (wk2 l (prZ ops ps proc) (H1, T1, c1)))) from by rw [e]; exact vw4 l ops ps _ _ 5 [_])⟩
                  repeat (first | exact .nil | refine .junk ?_ | refine .put (.ren (next_i64 (by omega)).symm) ?_ | refine .eq rfl ?_)
              · have hke : k = queue.length := by
                  have h : ¬ (k : Int) < ((queue.map Msg.enc).length : Int) := hkl
                  rw [List.length_map] at h
                  omega
                subst hke
                rw [List.take_length]
                have e9 : wk2 l (es.map (·.2) ++ ((prZ ops ps proc) ++ quL ops queue)) (H, T, c + 1) = wk2 l (quL ops queue) (wk2 l (prZ ops ps proc) (H1, T1, c1)) := by rw [wk2_app, wk2_app, hs1]
                have f9 := fin (prZ ops ps proc) (by simp [h4, h5])
                rw [e9] at f9
                refine ⟨wk2 l (quL ops queue) (wk2 l (prZ ops ps proc) (H1, T1, c1)), f9.1, f9.2, View.of 4 [0, 1, 2, 3] [] rfl rfl rfl rfl rfl rfl ?_ (vw4 l ops ps _ _ 4 [])⟩
                · repeat (first | exact .nil | refine .junk ?_ | refine .eq rfl ?_)
          · have h5 : ¬ kind = 5 := h5
            refine loop_keep (fun k => k ≤ queue.length) [2, 5, 94, 95] (fun k => [(96, vInt .i64 (k : Nat))]) (fun k => WS l ops ps (wk2 l (quL ops (queue.take k)) (wk2 l ([] : List Int) (H1, T1, c1)))) (fun k => queue.length - k) 0 (Nat.zero_le _) ?_ (fun k hk => ?_)
            · refine View.of 4 [0, 1, 2, 3] [] rfl rfl rfl rfl rfl rfl ?_ (vw4 l ops ps H1 (T1, c1) 4 [])
              repeat (first | exact .nil | refine .junk ?_ | refine .eq rfl ?_)
            have hk : k ≤ queue.length := hk
            have hWI : WI l.length (wk2 l (quL ops (queue.take k)) (wk2 l ([] : List Int) (H1, T1, c1))) := (show WI l.length (wk2 l ([] : List Int) (H1, T1, c1)) from hWI1.wk2).wk2
            refine bB_dec (fun hkl => ?_) (fun hkl => ?_)
            · have hklt : k < queue.length := by
                have h : (k : Int) < ((queue.map Msg.enc).length : Int) := hkl
                rw [List.length_map] at h
                omega
              have ht := quL_take (ops := ops) hklt
              have hg3 : getZ (queue.map Msg.enc) (k : Nat) = some (queue[k].enc) := by rw [getZ_nat, List.getElem?_map, List.getElem?_eq_getElem hklt]; rfl
              generalize queue[k] = ms at ht hg3
              obtain ⟨mdata, has, opn, rts⟩ := ms
              refine ok_some (x := [.sl 1 mdata, .val (.bool has), .val (.int .i64 opn), .val (.int .i64 rts)]) hg3 ?_
              cases has with
              | true =>
                have e : wk2 l (quL ops (queue.take (k + 1))) (wk2 l ([] : List Int) (H1, T1, c1)) = wk2 l [capZ ops opn] (wk2 l (quL ops (queue.take k)) (wk2 l ([] : List Int) (H1, T1, c1))) := by
                  rw [ht, wk2_app]; rfl
                refine wcallA (wcap_c l ops ps hl opn rts _ _ (Nat.le_trans hWI.le (Nat.le_trans hWI.len hl))) [.var [.dat (.sl 1 mdata), .dat (.val (.bool true)), .dat (.val (.int .i64 opn)), .dat (.val (.int .i64 rts))]] rfl (fun e1 => ?_) (fun H' T' e1 => ?_)
                · refine ⟨k + 1, hklt, (show queue.length - (k + 1) < queue.length - k by omega), View.of 5 [0, 1, 2, 3] [] rfl rfl rfl rfl rfl rfl ?_ (show MemVw _ _ _ 0 (WS l ops ps (wk2 l (quL ops (queue.take (k + 1))) (wk2 l ([] : List Int) (H1, T1, c1)))) from by rw [e.trans e1]; exact vw4 l ops ps _ _ 5 [_])⟩
                  repeat (first | exact .nil | refine .junk ?_ | refine .put (.ren (next_i64 (by omega)).symm) ?_ | refine .eq rfl ?_)
                · refine ⟨k + 1, hklt, (show queue.length - (k + 1) < queue.length - k by omega), View.of 6 [0, 1, 2, 5] [] rfl rfl rfl rfl rfl rfl ?_ (show MemVw _ _ _ 0 (WS l ops ps (wk2 l (quL ops (queue.take (k + 1))) (wk2 l ([] : List Int) (H1, T1, c1)))) from by rw [e.trans e1]; exact vwD l ops ps H' T' _ _ [] 6)⟩
                  repeat (first | exact .nil | refine .junk ?_ | refine .put (.ren (next_i64 (by omega)).symm) ?_ | refine .eq rfl ?_)
              | false =>
                have e : wk2 l (quL ops (queue.take (k + 1))) (wk2 l ([] : List Int) (H1, T1, c1)) = wk2 l (quL ops (queue.take k)) (wk2 l ([] : List Int) (H1, T1, c1)) := by
                  rw [ht, wk2_app]; rfl
                refine ⟨k + 1, hklt, (show queue.length - (k + 1) < queue.length - k by omega), View.of 5 [0, 1, 2, 3] [] rfl rfl rfl rfl rfl rfl ?_ (show MemVw _ _ _ 0 (WS l ops ps (wk2 l (quL ops (queue.take (k + 1))) (wk2 l ([] : List Int) (H1, T1, c1)))) from by rw [e]; exact vw4 l ops ps _ _ 5 [_])⟩
                repeat (first | exact .nil | refine .junk ?_ | refine .put (.ren (next_i64 (by omega)).symm) ?_ | refine .eq rfl ?_)
            · have hke : k = queue.length := by
                have h : ¬ (k : Int) < ((queue.map Msg.enc).length : Int) := hkl
                rw [List.length_map] at h
                omega
              subst hke
              rw [List.take_length]
              have e9 : wk2 l (es.map (·.2) ++ (([] : List Int) ++ quL ops queue)) (H, T, c + 1) = wk2 l (quL ops queue) (wk2 l ([] : List Int) (H1, T1, c1)) := by rw [wk2_app, wk2_app, hs1]
              have f9 := fin ([] : List Int) (by simp [h4, h5])
              rw [e9] at f9
              refine ⟨wk2 l (quL ops queue) (wk2 l ([] : List Int) (H1, T1, c1)), f9.1, f9.2, View.of 4 [0, 1, 2, 3] [] rfl rfl rfl rfl rfl rfl ?_ (vw4 l ops ps _ _ 4 [])⟩
              · repeat (first | exact .nil | refine .junk ?_ | refine .eq rfl ?_)
    · have h : ¬ ((lenOf (dRows (T.map nI)).length c none : Nat) : Int) > 0 := h
      rw [hlo] at h
      have hF := hB.end (show T.drop c = [] from List.drop_eq_nil_of_le (by omega))
      have hF : FOK l ops ps pl H := hF
      have hlenH : (dRows ((hadL l.length H).map bE)).length = l.length := by rw [dRows_len, List.length_map, hadL_len]
      refine loop_keep (fun i => i ≤ l.length) [110, 111] (fun i => [(112, vInt .i64 (i : Nat)), (14, .rv (.one (.row 4 1 0 none)))]) (fun i => [.dead, hadR l.length H, .dead, .dead, .row 1 (dRows ((outL l.length H i).map nI))]) (fun i => l.length - i) 0 (Nat.zero_le _) ?_ (fun i hi => ?_)
      · refine View.trans (View.esl 14 1 4 rfl rfl rfl) (View.of 5 [0, 1, 2, 3, 4] [] rfl rfl rfl rfl rfl rfl ?_ ?_)
        · repeat (first | exact .nil | refine .junk ?_ | refine .eq rfl ?_)
        · exact .dead (.put (notF rfl) rfl (.rowDE rfl) (.dead (.dead (.put (notF rfl) rfl (.rowDE rfl) (.nil _)))))
      have hi : i ≤ l.length := hi
      refine bB_dec (fun h => ?_) (fun h => ?_)
      · have hlt : i < l.length := by
          have h : (i : Int) < ((dRows ((hadL l.length H).map bE)).length : Int) := h
          rw [hlenH] at h
          omega
        have hnh : i < (hadL l.length H).length := by rw [hadL_len]; exact hlt
        have hat : (hadL l.length H)[i] = decide (i ∈ H) := by
          have := hadL_at (H := H) hlt
          rw [List.getElem?_eq_getElem hnh] at this
          exact Option.some.inj this
        have hil := outL_len l.length H i
        have hs := outL_succ l.length H i
        refine ok_some (b_idx hnh) ?_
        refine ok_some (bO_get hnh) ?_
        rw [hat]
        by_cases hm : i ∈ H
        · rw [decide_eq_true hm]
          rw [if_pos hm] at hs
          refine ⟨by have e := dRows_len ((outL l.length H i).map nI); rw [List.length_map] at e; simp only [subL, List.length_cons, List.length_nil]; omega, ?_⟩
          refine ⟨i + 1, hlt, (show l.length - (i + 1) < l.length - i by omega), View.of 7 [0, 1, 2, 3, 6] [] rfl rfl rfl rfl rfl rfl ?_ ?_⟩
          · repeat (first | exact .nil | refine .junk ?_ | refine .put (.ren (next_i64 (by omega)).symm) ?_ | refine .eq rfl ?_)
          · exact .dead (.put (notF rfl) rfl (.rowDE rfl) (.dead (.dead (.put (notF rfl) rfl (.rowDE (by rw [hs]; simp [subL, dRows, nI])) (.nil _)))))
        · rw [decide_eq_false hm]
          rw [if_neg hm, List.append_nil] at hs
          refine ⟨i + 1, hlt, (show l.length - (i + 1) < l.length - i by omega), View.of 5 [0, 1, 2, 3, 4] [] rfl rfl rfl rfl rfl rfl ?_ ?_⟩
          · repeat (first | exact .nil | refine .junk ?_ | refine .put (.ren (next_i64 (by omega)).symm) ?_ | refine .eq rfl ?_)
          · exact .dead (.put (notF rfl) rfl (.rowDE rfl) (.dead (.dead (.put (notF rfl) rfl (.rowDE (by rw [hs])) (.nil _)))))
      · have hie : i = l.length := by
          have h : ¬ (i : Int) < ((dRows ((hadL l.length H).map bE)).length : Int) := h
          rw [hlenH] at h
          omega
        subst hie
        exact ⟨H, hF, .rv (.one (FrzC.rowD rfl 0 none))⟩
end Fe


end Go.Proofs.Ytbemknkbegkflaa
