import Derived.Test.YtflieebgiejjpaaAmZ2
import Derived.Test.YtflieebgiejjpaaDvOb6
import Derived.Test.YtflieebgiejjpaaAmY
set_option linter.unusedVariables false
set_option linter.unusedSimpArgs false
namespace Go.Proofs.Ytflieebgiejjpaa
open Go.AM Go.ChangeShapes Go.WideShapes Go.ChangeAt Go.RowKit
def c11 : LF := ⟨113, [.tmp 6], (.seq (.reg [
    ⟨(some 5), .box (.t 2), none⟩,
    ⟨(some 6), .mov (.c (.rv (.one (.dat (.val (.bool false)))))), none⟩]) (.seq (.reg [
    ⟨(some 16), .mov (.t 0), none⟩,
    ⟨(some 17), .call (.c (.rv (.one (.fn 19 [])))) [(.t 16)], none⟩,
    ⟨(some 18), .fld false 0 1 (.t 17), none⟩,
    ⟨(some 7), .mov (.t 18), none⟩]) (.seq (.reg [
    ⟨(some 20), .mov (.t 7), none⟩,
    ⟨(some 21), .call (.c (.rv (.one (.fn 48 [])))) [(.t 20)], none⟩,
    ⟨(some 19), .mov (.t 21), none⟩,
    ⟨(some 22), .ext (.t 19) 0, none⟩,
    ⟨(some 23), .ext (.t 19) 1, none⟩,
    ⟨(some 24), .ext (.t 19) 2, none⟩,
    ⟨(some 9), .alloc [(.dat (.val (.int .i64 (0)))), (.dat (.val (.int .i64 (0))))], none⟩,
    ⟨(some 8), .mov (.t 22), none⟩,
    ⟨none, .store 2 (.t 9) (.t 23), none⟩,
    ⟨(some 10), .mov (.t 24), none⟩]) (.seq (.reg [
    ⟨(some 26), .mov (.t 7), none⟩,
    ⟨(some 27), .call (.c (.rv (.one (.fn 49 [])))) [(.t 26)], none⟩,
    ⟨(some 25), .mov (.t 27), none⟩,
    ⟨(some 28), .ext (.t 25) 0, none⟩,
    ⟨(some 29), .ext (.t 25) 1, none⟩,
    ⟨(some 30), .ext (.t 25) 2, none⟩,
    ⟨(some 12), .alloc [(.dat (.val (.int .i64 (0)))), (.dat (.val (.int .i64 (0))))], none⟩,
    ⟨(some 11), .mov (.t 28), none⟩,
    ⟨none, .store 2 (.t 12) (.t 29), none⟩,
    ⟨(some 13), .mov (.t 30), none⟩]) (.seq (.seq (.reg [
    ⟨(some 31), .mov (.t 10), none⟩,
    ⟨(some 32), .mov (.t 13), none⟩,
    ⟨(some 33), .bin .neq (.t 31) (.t 32), none⟩,
    ⟨(some 34), .mov (.t 33), none⟩,
    ⟨(some 35), .load true 2 (.t 9), (some (34, false))⟩,
    ⟨(some 36), .load true 2 (.t 12), (some (34, false))⟩,
    ⟨(some 37), .eqa true [.i, .i] (.t 35) (.t 36), (some (34, false))⟩,
    ⟨(some 38), .pick (.t 34) (.c (.rv (.one (.dat (.val (.bool true)))))) (.t 37), none⟩,
    ⟨(some 39), .mov (.t 38), none⟩,
    ⟨(some 40), .mov (.t 8), (some (39, false))⟩,
    ⟨(some 41), .mov (.t 11), (some (39, false))⟩,
    ⟨(some 42), .call (.c (.rv (.one (.fn 50 [])))) [(.t 40), (.t 41)], (some (39, false))⟩,
    ⟨(some 43), .un .not (.t 42), (some (39, false))⟩,
    ⟨(some 44), .pick (.t 39) (.c (.rv (.one (.dat (.val (.bool true)))))) (.t 43), none⟩]) (.cond (.t 44) (.seq (.reg [
    ⟨(some 6), .mov (.c (.rv (.one (.dat (.val (.bool false)))))), none⟩]) .ret) .skip)) (.seq (.reg [
    ⟨(some 46), .mov (.t 7), none⟩,
    ⟨(some 47), .mov (.t 1), none⟩,
    ⟨(some 48), .load true 4 (.t 5), none⟩,
    ⟨(some 49), .call (.c (.rv (.one (.fn 51 [])))) [(.t 46), (.t 47), (.t 48)], none⟩,
    ⟨(some 45), .mov (.t 49), none⟩,
    ⟨(some 50), .ext (.t 45) 0, none⟩,
    ⟨(some 51), .ext (.t 45) 1, none⟩,
    ⟨(some 8), .mov (.t 50), none⟩,
    ⟨(some 10), .mov (.t 51), none⟩]) (.seq (.reg [
    ⟨(some 53), .mov (.t 7), none⟩,
    ⟨(some 54), .mov (.t 1), none⟩,
    ⟨(some 55), .load true 4 (.t 5), none⟩,
    ⟨(some 56), .call (.c (.rv (.one (.fn 52 [])))) [(.t 53), (.t 54), (.t 55)], none⟩,
    ⟨(some 52), .mov (.t 56), none⟩,
    ⟨(some 57), .ext (.t 52) 0, none⟩,
    ⟨(some 58), .ext (.t 52) 1, none⟩,
    ⟨(some 11), .mov (.t 57), none⟩,
    ⟨(some 13), .mov (.t 58), none⟩]) (.seq (.seq (.reg [
    ⟨(some 59), .mov (.t 10), none⟩,
    ⟨(some 60), .mov (.t 13), none⟩,
    ⟨(some 61), .bin .neq (.t 59) (.t 60), none⟩,
    ⟨(some 62), .mov (.t 61), none⟩,
    ⟨(some 63), .mov (.t 8), (some (62, false))⟩,
    ⟨(some 64), .mov (.t 11), (some (62, false))⟩,
    ⟨(some 65), .call (.c (.rv (.one (.fn 50 [])))) [(.t 63), (.t 64)], (some (62, false))⟩,
    ⟨(some 66), .un .not (.t 65), (some (62, false))⟩,
    ⟨(some 67), .pick (.t 62) (.c (.rv (.one (.dat (.val (.bool true)))))) (.t 66), none⟩]) (.cond (.t 67) (.seq (.reg [
    ⟨(some 6), .mov (.c (.rv (.one (.dat (.val (.bool false)))))), none⟩]) .ret) .skip)) (.seq (.reg [
    ⟨(some 69), .mov (.t 7), none⟩,
    ⟨(some 70), .mov (.t 1), none⟩,
    ⟨(some 71), .call (.c (.rv (.one (.fn 53 [])))) [(.t 69), (.t 70)], none⟩,
    ⟨(some 68), .mov (.t 71), none⟩,
    ⟨(some 72), .ext (.t 68) 0, none⟩,
    ⟨(some 73), .ext (.t 68) 1, none⟩,
    ⟨(some 74), .ext (.t 68) 2, none⟩,
    ⟨(some 14), .alloc [.esl, (.dat (.val (.bool false))), (.dat (.val (.int .i64 (0)))), (.dat (.val (.int .i64 (0))))], none⟩,
    ⟨(some 8), .mov (.t 72), none⟩,
    ⟨none, .store 4 (.t 14) (.t 73), none⟩,
    ⟨(some 10), .mov (.t 74), none⟩]) (.seq (.reg [
    ⟨(some 76), .mov (.t 7), none⟩,
    ⟨(some 77), .mov (.t 1), none⟩,
    ⟨(some 78), .call (.c (.rv (.one (.fn 54 [])))) [(.t 76), (.t 77)], none⟩,
    ⟨(some 75), .mov (.t 78), none⟩,
    ⟨(some 79), .ext (.t 75) 0, none⟩,
    ⟨(some 80), .ext (.t 75) 1, none⟩,
    ⟨(some 81), .ext (.t 75) 2, none⟩,
    ⟨(some 15), .alloc [.esl, (.dat (.val (.bool false))), (.dat (.val (.int .i64 (0)))), (.dat (.val (.int .i64 (0))))], none⟩,
    ⟨(some 11), .mov (.t 79), none⟩,
    ⟨none, .store 4 (.t 15) (.t 80), none⟩,
    ⟨(some 13), .mov (.t 81), none⟩]) (.seq (.reg [
    ⟨(some 82), .mov (.t 10), none⟩,
    ⟨(some 83), .mov (.t 13), none⟩,
    ⟨(some 84), .bin .eql (.t 82) (.t 83), none⟩,
    ⟨(some 85), .mov (.t 84), none⟩,
    ⟨(some 86), .mov (.t 8), (some (85, true))⟩,
    ⟨(some 87), .mov (.t 11), (some (85, true))⟩,
    ⟨(some 88), .call (.c (.rv (.one (.fn 50 [])))) [(.t 86), (.t 87)], (some (85, true))⟩,
    ⟨(some 89), .pick (.t 85) (.t 88) (.c (.rv (.one (.dat (.val (.bool false)))))), none⟩,
    ⟨(some 90), .mov (.t 89), none⟩,
    ⟨(some 91), .fadr 0 (.t 14), (some (90, true))⟩,
    ⟨(some 92), .load false 1 (.t 91), (some (90, true))⟩,
    ⟨(some 93), .b2s (.t 92), (some (90, true))⟩,
    ⟨(some 94), .fadr 0 (.t 15), (some (90, true))⟩,
    ⟨(some 95), .load false 1 (.t 94), (some (90, true))⟩,
    ⟨(some 96), .b2s (.t 95), (some (90, true))⟩,
    ⟨(some 97), .bin .eql (.t 93) (.t 96), (some (90, true))⟩,
    ⟨(some 98), .pick (.t 90) (.t 97) (.c (.rv (.one (.dat (.val (.bool false)))))), none⟩,
    ⟨(some 99), .mov (.t 98), none⟩,
    ⟨(some 100), .fadr 1 (.t 14), (some (99, true))⟩,
    ⟨(some 101), .load false 1 (.t 100), (some (99, true))⟩,
    ⟨(some 102), .fadr 1 (.t 15), (some (99, true))⟩,
    ⟨(some 103), .load false 1 (.t 102), (some (99, true))⟩,
    ⟨(some 104), .beq false (.t 101) (.t 103), (some (99, true))⟩,
    ⟨(some 105), .pick (.t 99) (.t 104) (.c (.rv (.one (.dat (.val (.bool false)))))), none⟩,
    ⟨(some 106), .mov (.t 105), none⟩,
    ⟨(some 107), .fadr 2 (.t 14), (some (106, true))⟩,
    ⟨(some 108), .load true 2 (.t 107), (some (106, true))⟩,
    ⟨(some 109), .fadr 2 (.t 15), (some (106, true))⟩,
    ⟨(some 110), .load true 2 (.t 109), (some (106, true))⟩,
    ⟨(some 111), .eqa false [.i, .i] (.t 108) (.t 110), (some (106, true))⟩,
    ⟨(some 112), .pick (.t 106) (.t 111) (.c (.rv (.one (.dat (.val (.bool false)))))), none⟩,
    ⟨(some 6), .mov (.t 112), none⟩]) .ret)))))))))))⟩
/-! The law ChannelTells -/
theorem makeS_all {Q : Obj → Prop} {l : List Obj} {o : Obj} (hl : ∀ x, x ∈ l → Q x) (ho : Q o) : ∀ x, x ∈ (makeS l o).1 → Q x := by
  intro x hx
  unfold makeS at hx
  cases h : l.findIdx? (fun x => x.kind == 0) with
  | some k =>
    rw [h] at hx
    rcases List.mem_or_eq_of_mem_set hx with hx | rfl
    · exact hl x hx
    · exact ho
  | none =>
    rw [h] at hx
    by_cases h40 : l.length ≥ 40
    · simp [h40] at hx
    · simp [h40] at hx
      rcases hx with hx | rfl
      · exact hl x hx
      · exact ho
theorem setPeer_all {Q : Obj → Prop} {l : List Obj} {k : Nat} {b : Int} (hl : ∀ x, x ∈ l → Q x) (hp : ∀ o, Q o → Q { o with peer := b }) : ∀ x, x ∈ setPeer l k b → Q x := by
  intro x hx
  unfold setPeer at hx
  cases h : l[k]? with
  | none => rw [h] at hx; exact hl x hx
  | some o =>
    rw [h] at hx
    rcases List.mem_or_eq_of_mem_set hx with hx | rfl
    · exact hl x hx
    · exact hp o (hl o (List.mem_of_getElem? h))
theorem setPeer_len (l : List Obj) (k : Nat) (b : Int) : (setPeer l k b).length = l.length := by
  unfold setPeer
  cases h : l[k]? <;> simp
theorem pairS_all {Q : Obj → Prop} {l : List Obj} (hl : ∀ x, x ∈ l → Q x) (he : ∀ p, Q (endO p)) (hp : ∀ o b, Q o → Q { o with peer := b }) : ∀ x, x ∈ (pairS l).1 → Q x := by
  intro x hx
  unfold pairS at hx
  split at hx
  · simp at hx
  · split at hx
    · simp at hx
    · exact setPeer_all (makeS_all (makeS_all hl (he _)) (he _)) (fun o h => hp o _ h) x hx
theorem pairS_len {l : List Obj} (hl : l.length ≤ 40) : (pairS l).1.length ≤ 40 := by
  unfold pairS
  split
  · simp
  · split
    · simp
    · simp only [setPeer_len]
      exact make_len (make_len hl _) _
theorem sendS_all {Q : Obj → Prop} {l : List Obj} (hl : ∀ x, x ∈ l → Q x) (e : Int) (m : Msg) (hp : ∀ o : Obj, Q o → o.queue.length < 4 → Q { o with queue := o.queue ++ [m] }) : (∀ x, x ∈ (sendS l e m).1 → Q x) ∧ (sendS l e m).1.length ≤ l.length := by
  have key : ∀ (y : List Obj × Int), (y.1 = [] ∨ ∃ (k : Nat) (q : Obj), Q q ∧ y.1 = l.set k q) → (∀ x, x ∈ y.1 → Q x) ∧ y.1.length ≤ l.length := by
    intro y hy
    rcases hy with hy | ⟨k, q, hq, hy⟩
    · rw [hy]; simp
    · rw [hy]
      refine ⟨fun x hx => ?_, by simp⟩
      rcases List.mem_or_eq_of_mem_set hx with hx | rfl
      · exact hl x hx
      · exact hq
  refine key _ ?_
  unfold sendS
  split
  · exact .inl rfl
  · split
    · exact .inl rfl
    · split
      · exact .inl rfl
      · split
        · exact .inl rfl
        · split
          · exact .inl rfl
          · rename_i q hq
            split
            · exact .inl rfl
            · split
              · exact .inl rfl
              · split
                · exact .inl rfl
                · exact .inr ⟨_, _, hp q (hl q (List.mem_of_getElem? hq)) (by omega), rfl⟩
theorem recvS_all {Q : Obj → Prop} {l : List Obj} (hl : ∀ x, x ∈ l → Q x) (e : Int) (hp : ∀ (o : Obj) x r, o.queue = x :: r → Q o → Q { o with queue := r }) {T : Msg → Prop} (hz : T msgZ) (ht : ∀ o, Q o → ∀ q, q ∈ o.queue → T q) :
    (∀ x, x ∈ (recvS l e).1 → Q x) ∧ (recvS l e).1.length ≤ l.length ∧ T (recvS l e).2.1 := by
  have key : ∀ (y : List Obj × Msg × Int), ((y.1 = [] ∧ y.2.1 = msgZ) ∨ ((∃ (k : Nat) (q : Obj), Q q ∧ y.1 = l.set k q) ∧ T y.2.1)) → (∀ x, x ∈ y.1 → Q x) ∧ y.1.length ≤ l.length ∧ T y.2.1 := by
    intro y hy
    rcases hy with ⟨hy, h2⟩ | ⟨⟨k, q, hq, hy⟩, h2⟩
    · rw [hy, h2]; exact ⟨by simp, by simp, hz⟩
    · rw [hy]
      refine ⟨fun x hx => ?_, by simp, h2⟩
      rcases List.mem_or_eq_of_mem_set hx with hx | rfl
      · exact hl x hx
      · exact hq
  refine key _ ?_
  unfold recvS
  split
  · exact .inl ⟨rfl, rfl⟩
  · split
    · exact .inl ⟨rfl, rfl⟩
    · rename_i o ho
      split
      · exact .inl ⟨rfl, rfl⟩
      · split
        · split
          · exact .inl ⟨rfl, rfl⟩
          · split
            · exact .inl ⟨rfl, rfl⟩
            · split
              · exact .inl ⟨rfl, rfl⟩
              · exact .inl ⟨rfl, rfl⟩
        · rename_i x r hq
          have hQ := hl o (List.mem_of_getElem? ho)
          exact .inr ⟨⟨_, _, hp o x r hq hQ, rfl⟩, ht o hQ x (by rw [hq]; simp)⟩
def QO (o : Obj) : Prop := o.typ ∧ o.fit
theorem l11 : lowF Try.prog Try.f11 = some c11 := by kernel_rfl
set_option maxRecDepth 100000 in
set_option maxHeartbeats 16000000 in
theorem chtells_body (b : List Int) (hb : BYb b) (e : Int) (q : Msg) (hq : q.typ) (hqs : q.data.length ≤ 4194304) : body Try.prog c11 [.rv (.one (.dat (.sl 1 (byD b)))), vInt .i64 e, q.cv] [] (fun r m => r = vBool true) := by
  refine build_ok b hb fun l op ps hk => ?_
  have g := hk.objs
  have hQ : ∀ x, x ∈ l → QO x := fun x hx => ⟨(g.sm x hx).t, (g.sm x hx).fit⟩
  have hl40 := g.len
  have p1 : ∀ x, x ∈ (pairS l).1 → QO x := pairS_all hQ (fun p => ⟨⟨⟨[], rfl⟩, ⟨[], rfl⟩, fun q hq => by simp [endO] at hq⟩, endO_fit p⟩) (fun o b h => ⟨⟨h.1.1, h.1.2.1, h.1.2.2⟩, h.2⟩)
  have p2 := pairS_len hl40
  obtain ⟨s1, s2⟩ := sendS_all hQ e q (fun o h hlt => ⟨⟨h.1.1, h.1.2.1, fun x hx => by
    rcases List.mem_append.1 hx with hx | hx
    · exact h.1.2.2 x hx
    · simp at hx; subst hx; exact hq⟩, ⟨h.2.1, h.2.2.1, by simp; omega, fun x hx => by
    rcases List.mem_append.1 hx with hx | hx
    · exact h.2.2.2.2 x hx
    · simp at hx; subst hx; exact hqs⟩⟩)
  obtain ⟨r1, r2, r3⟩ := recvS_all (T := Msg.typ) hQ e (fun o x r ho h => ⟨⟨h.1.1, h.1.2.1, fun y hy => h.1.2.2 y (by rw [ho]; simp [hy])⟩, ⟨h.2.1, h.2.2.1, by have := h.2.2.2.1; rw [ho] at this; simp at this; show r.length ≤ _; omega, fun y hy => h.2.2.2.2 y (by rw [ho]; simp [show y ∈ r from hy])⟩⟩) ⟨[], rfl⟩ (fun o h x hx => h.1.2.2 x hx)
  refine pair_ok l g.fit ?_
  refine rpair_ok l g.fit hl40 ?_
  generalize pairS l = P at p1 p2
  obtain ⟨l1, ab, e1⟩ := P
  have p1 : ∀ x, x ∈ l1 → QO x := p1
  have p2 : l1.length ≤ 40 := p2
  refine bB_no (by simp) ?_
  refine bB_no (by simp) ?_
  refine sames_ok l1 ⟨by omega, fun x hx => (p1 x hx).2⟩ (fun x hx => (p1 x hx).1) ?_
  refine send_ok l g.fit e q hqs ?_
  refine rsend_ok l g.fit e q ?_
  generalize sendS l e q = S at s1 s2
  obtain ⟨l2, e2⟩ := S
  have s1 : ∀ x, x ∈ l2 → QO x := s1
  have s2 : l2.length ≤ l.length := s2
  refine bB_no (by simp) ?_
  refine sames_ok l2 ⟨by omega, fun x hx => (s1 x hx).2⟩ (fun x hx => (s1 x hx).1) ?_
  refine recv_ok l g.fit e ?_
  refine rrecv_ok l g.fit e ?_
  generalize recvS l e = R at r1 r2 r3
  obtain ⟨l3, x, e3⟩ := R
  have r1 : ∀ x, x ∈ l3 → QO x := r1
  have r2 : l3.length ≤ l.length := r2
  have r3 : x.typ := r3
  obtain ⟨data, has, opn, rts⟩ := x
  obtain ⟨bd, hbd⟩ := r3
  have hbd : data = byD bd := hbd
  subst hbd
  refine bB_yes (by simp) ?_
  refine sames_ok l3 ⟨by omega, fun x hx => (r1 x hx).2⟩ (fun x hx => (r1 x hx).1) ?_
  refine ok_some (numsC_byD bd) ?_
  refine ok_some (numsC_byD bd) ?_
  refine bB_yes (by simp) ?_
  refine bB_yes (by simp) ?_
  show vBool _ = vBool _
  refine congrArg vBool ?_
  simp
set_option maxRecDepth 100000 in
theorem chtells_ok (b : List Int) (hb : BYb b) (e : Int) (q : Msg) (hq : q.typ) (hqs : q.data.length ≤ 4194304) : ACall Try.prog 11 [.rv (.one (.dat (.sl 1 (byD b)))), vInt .i64 e, q.cv] [] (fun r m => r = vBool true) :=
  acall_body Try.func11 l11 rfl (Nat.le_of_ble_eq_true rfl) (chtells_body b hb e q hq hqs)
end Go.Proofs.Ytflieebgiejjpaa
