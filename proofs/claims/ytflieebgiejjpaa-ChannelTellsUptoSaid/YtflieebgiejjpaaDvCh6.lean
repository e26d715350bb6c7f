import Derived.Test.YtflieebgiejjpaaAmZ2
import Derived.Test.YtflieebgiejjpaaDvCh5
import Derived.Test.YtflieebgiejjpaaAmY
set_option linter.unusedVariables false
set_option linter.unusedSimpArgs false
namespace Go.Proofs.Ytflieebgiejjpaa
open Go.AM Go.ChangeShapes Go.WideShapes Go.ChangeAt Go.RowKit
def c53 : LF := ⟨78, [.tmp 4, .cell true 4 5, .tmp 6], (.seq (.reg [
    ⟨(some 4), .mov (.c (.rv (.one .esl))), none⟩,
    ⟨(some 5), .alloc [.esl, (.dat (.val (.bool false))), (.dat (.val (.int .i64 (0)))), (.dat (.val (.int .i64 (0))))], none⟩,
    ⟨(some 6), .mov (.c (.rv (.one (.dat (.val (.int .i64 (0))))))), none⟩]) (.seq (.seq (.reg [
    ⟨(some 10), .mov (.t 1), none⟩,
    ⟨(some 11), .bin .lss (.t 10) (.c (.rv (.one (.dat (.val (.int .i64 (0))))))), none⟩,
    ⟨(some 12), .mov (.t 11), none⟩,
    ⟨(some 13), .mov (.t 1), (some (12, false))⟩,
    ⟨(some 14), .mov (.t 0), (some (12, false))⟩,
    ⟨(some 15), .len 1 (.t 14), (some (12, false))⟩,
    ⟨(some 16), .bin .geq (.t 13) (.t 15), (some (12, false))⟩,
    ⟨(some 17), .pick (.t 12) (.c (.rv (.one (.dat (.val (.bool true)))))) (.t 16), none⟩,
    ⟨(some 18), .mov (.t 17), none⟩,
    ⟨(some 19), .mov (.t 0), (some (18, false))⟩,
    ⟨(some 20), .mov (.t 1), (some (18, false))⟩,
    ⟨(some 21), .idx 9 (.t 19) (.t 20), (some (18, false))⟩,
    ⟨(some 22), .fadr 0 (.t 21), (some (18, false))⟩,
    ⟨(some 23), .load false 1 (.t 22), (some (18, false))⟩,
    ⟨(some 24), .bin .neq (.t 23) (.c (.rv (.one (.dat (.val (.int .i64 (4))))))), (some (18, false))⟩,
    ⟨(some 25), .pick (.t 18) (.c (.rv (.one (.dat (.val (.bool true)))))) (.t 24), none⟩]) (.cond (.t 25) (.seq (.reg [
    ⟨(some 26), .build [.esl, (.dat (.val (.bool false))), (.dat (.val (.int .i64 (0)))), (.dat (.val (.int .i64 (0))))] [], none⟩,
    ⟨(some 4), .mov (.c (.rv (.one .esl))), none⟩,
    ⟨none, .store 4 (.t 5) (.t 26), none⟩,
    ⟨(some 6), .mov (.c (.rv (.one (.dat (.val (.int .i64 (8))))))), none⟩]) .ret) .skip)) (.seq (.seq (.reg [
    ⟨(some 27), .mov (.t 0), none⟩,
    ⟨(some 28), .mov (.t 1), none⟩,
    ⟨(some 29), .idx 9 (.t 27) (.t 28), none⟩,
    ⟨(some 30), .fadr 5 (.t 29), none⟩,
    ⟨(some 31), .load false 1 (.t 30), none⟩,
    ⟨(some 32), .len 1 (.t 31), none⟩,
    ⟨(some 33), .bin .eql (.t 32) (.c (.rv (.one (.dat (.val (.int .i64 (0))))))), none⟩]) (.cond (.t 33) (.seq (.seq (.reg [
    ⟨(some 34), .mov (.t 0), none⟩,
    ⟨(some 35), .mov (.t 1), none⟩,
    ⟨(some 36), .idx 9 (.t 34) (.t 35), none⟩,
    ⟨(some 37), .fadr 4 (.t 36), none⟩,
    ⟨(some 38), .load false 1 (.t 37), none⟩,
    ⟨(some 7), .mov (.t 38), none⟩]) (.seq (.reg [
    ⟨(some 39), .mov (.t 7), none⟩,
    ⟨(some 40), .bin .lss (.t 39) (.c (.rv (.one (.dat (.val (.int .i64 (0))))))), none⟩,
    ⟨(some 41), .mov (.t 40), none⟩,
    ⟨(some 42), .mov (.t 7), (some (41, false))⟩,
    ⟨(some 43), .mov (.t 0), (some (41, false))⟩,
    ⟨(some 44), .len 1 (.t 43), (some (41, false))⟩,
    ⟨(some 45), .bin .geq (.t 42) (.t 44), (some (41, false))⟩,
    ⟨(some 46), .pick (.t 41) (.c (.rv (.one (.dat (.val (.bool true)))))) (.t 45), none⟩,
    ⟨(some 47), .mov (.t 46), none⟩,
    ⟨(some 48), .mov (.t 0), (some (47, false))⟩,
    ⟨(some 49), .mov (.t 7), (some (47, false))⟩,
    ⟨(some 50), .idx 9 (.t 48) (.t 49), (some (47, false))⟩,
    ⟨(some 51), .fadr 0 (.t 50), (some (47, false))⟩,
    ⟨(some 52), .load false 1 (.t 51), (some (47, false))⟩,
    ⟨(some 53), .bin .neq (.t 52) (.c (.rv (.one (.dat (.val (.int .i64 (4))))))), (some (47, false))⟩,
    ⟨(some 54), .pick (.t 47) (.c (.rv (.one (.dat (.val (.bool true)))))) (.t 53), none⟩]) (.cond (.t 54) (.seq (.reg [
    ⟨(some 55), .build [.esl, (.dat (.val (.bool false))), (.dat (.val (.int .i64 (0)))), (.dat (.val (.int .i64 (0))))] [], none⟩,
    ⟨(some 4), .mov (.c (.rv (.one .esl))), none⟩,
    ⟨none, .store 4 (.t 5) (.t 55), none⟩,
    ⟨(some 6), .mov (.c (.rv (.one (.dat (.val (.int .i64 (17))))))), none⟩]) .ret) .skip))) (.seq (.reg [
    ⟨(some 56), .build [.esl, (.dat (.val (.bool false))), (.dat (.val (.int .i64 (0)))), (.dat (.val (.int .i64 (0))))] [], none⟩,
    ⟨(some 4), .mov (.c (.rv (.one .esl))), none⟩,
    ⟨none, .store 4 (.t 5) (.t 56), none⟩,
    ⟨(some 6), .mov (.c (.rv (.one (.dat (.val (.int .i64 (16))))))), none⟩]) .ret)) .skip)) (.seq (.reg [
    ⟨(some 57), .mov (.t 0), none⟩,
    ⟨(some 58), .call (.c (.rv (.one (.fn 93 [])))) [(.t 57)], none⟩,
    ⟨(some 8), .mov (.t 58), none⟩]) (.seq (.reg [
    ⟨(some 59), .mov (.t 8), none⟩,
    ⟨(some 60), .mov (.t 1), none⟩,
    ⟨(some 61), .idx 9 (.t 59) (.t 60), none⟩,
    ⟨(some 62), .fadr 5 (.t 61), none⟩,
    ⟨(some 63), .load false 1 (.t 62), none⟩,
    ⟨(some 64), .idx 4 (.t 63) (.c (.rv (.one (.dat (.val (.int .i64 (0))))))), none⟩,
    ⟨(some 65), .load true 4 (.t 64), none⟩,
    ⟨(some 9), .alloc [.esl, (.dat (.val (.bool false))), (.dat (.val (.int .i64 (0)))), (.dat (.val (.int .i64 (0))))], none⟩,
    ⟨none, .store 4 (.t 9) (.t 65), none⟩]) (.seq (.reg [
    ⟨(some 66), .mov (.t 8), none⟩,
    ⟨(some 67), .mov (.t 1), none⟩,
    ⟨(some 68), .mov (.t 8), none⟩,
    ⟨(some 69), .mov (.t 1), none⟩,
    ⟨(some 70), .idx 9 (.t 68) (.t 69), none⟩,
    ⟨(some 71), .fadr 5 (.t 70), none⟩,
    ⟨(some 72), .load false 1 (.t 71), none⟩,
    ⟨(some 73), .call (.c (.rv (.one (.fn 95 [])))) [(.t 72), (.c (.rv (.one (.dat (.val (.int .i64 (0))))))), (.c (.rv (.one (.dat (.val (.int .i64 (1)))))))], none⟩,
    ⟨(some 74), .idx 9 (.t 66) (.t 67), none⟩,
    ⟨(some 75), .fadr 5 (.t 74), none⟩,
    ⟨none, .store 1 (.t 75) (.t 73), none⟩]) (.seq (.draw [
    ⟨(some 76), .mov (.t 8), none⟩,
    ⟨(some 77), .load true 4 (.t 9), none⟩,
    ⟨(some 4), .mov (.t 76), none⟩,
    ⟨none, .store 4 (.t 5) (.t 77), none⟩,
    ⟨(some 6), .mov (.c (.rv (.one (.dat (.val (.int .i64 (0))))))), none⟩]
    [(.cons 0 none (.cons 1 none (.cons 2 none (.cons 3 (some []) (.cons 4 none .nil)))))]) .ret)))))))⟩
/-! Recv -/
def msgZ : Msg := ⟨[], false, 0, 0⟩
def Msg.rv (m : Msg) : RV := .agg (m.enc.map .dat)
def recvS (l : List Obj) (e : Int) : List Obj × Msg × Int :=
  if e < 0 ∨ e ≥ l.length then ([], msgZ, 8) else match l[e.toNat]? with
  | none => ([], msgZ, 8)
  | some o => if o.kind ≠ 4 then ([], msgZ, 8) else match o.queue with
    | [] => if o.peer < 0 ∨ o.peer ≥ l.length then ([], msgZ, 17) else match l[o.peer.toNat]? with
      | none => ([], msgZ, 17)
      | some q => if q.kind ≠ 4 then ([], msgZ, 17) else ([], msgZ, 16)
    | x :: r => (l.set e.toNat { o with queue := r }, x, 0)
def threeV (x : List Obj × Msg × Int) : CV := .tup [objsR x.1, x.2.1.rv, iRV x.2.2]
theorem vw3 {σ : Nat → Nat} {m : Mem} {Z : Nat → Prop} {a b c d : RV} {x : Int} (h : VwR σ m Z a b) (hc : VwR σ m Z c d) : VwV σ m Z (.tup [a, c, iRV x]) (.tup [b, d, iRV x]) := by
  refine .tup rfl fun i r r' h1 h2 => ?_
  match i, h1, h2 with
  | 0, h1, h2 => cases h1; cases h2; exact h
  | 1, h1, h2 => cases h1; cases h2; exact hc
  | 2, h1, h2 => cases h1; cases h2; exact .one (.ren (.dat _))
theorem vwZ {σ : Nat → Nat} {m : Mem} {Z : Nat → Prop} : VwR σ m Z (.agg zeroM) msgZ.rv := by
  refine .agg rfl fun i c c' h1 h2 => ?_
  match i, h1, h2 with
  | 0, h1, h2 => cases h1; cases h2; exact .frz (.esl 1)
  | 1, h1, h2 => cases h1; cases h2; exact .ren (.dat _)
  | 2, h1, h2 => cases h1; cases h2; exact .ren (.dat _)
  | 3, h1, h2 => cases h1; cases h2; exact .ren (.dat _)
  | n + 4, h1, h2 => simp [zeroM] at h1
theorem vwMsg {σ : Nat → Nat} {m : Mem} {Z : Nat → Prop} (x : Msg) : VwR σ m Z (.agg (x.enc.map .dat)) x.rv := by
  refine .agg rfl fun i c c' h1 h2 => ?_
  rw [h1] at h2
  cases h2
  rw [List.getElem?_map] at h1
  cases hd : x.enc[i]? with
  | none => rw [hd] at h1; cases h1
  | some d =>
    rw [hd] at h1
    cases h1
    exact .ren (.dat d)
theorem frzDel {m : Mem} {Z : Nat → Prop} {p : Option Nat} {id : Nat} {x : Msg} {r : List Msg} (hz : Z id) (hb : m[id]? = some (.row 4 (delRows x r))) : FrzD m Z p (.row id 4 0 (some r.length)) (.sl 4 (r.map Msg.enc)) := by
  have h := FrzD.row (m := m) (Z := Z) (p := p) id 4 0 (some r.length) (delRows x r) (r.map Msg.enc ++ [msgZ.enc]) hz hb (by simp [delRows, dRows]) (fun i cs es h1 h2 => ?_) (fun i cs es j c d h1 h2 h3 h4 => ?_)
  · have : subL (r.map Msg.enc ++ [msgZ.enc]) 0 (some r.length) = r.map Msg.enc := by
      rw [subL_eq]
      simp
    rw [this] at h
    exact h
  · rcases Nat.lt_or_ge i r.length with hi | hi
    · rw [delRows, List.getElem?_append_left (by simpa [dRows] using hi), dRows, List.getElem?_map] at h1
      rw [List.getElem?_append_left (by simpa using hi)] at h2
      rw [h2] at h1
      cases h1
      simp
    · rw [delRows, List.getElem?_append_right (by simpa [dRows] using hi)] at h1
      rw [List.getElem?_append_right (by simpa using hi)] at h2
      have e1 : (dRows (r.map Msg.enc)).length = r.length := by simp [dRows]
      have e2 : (r.map Msg.enc).length = r.length := by simp
      rw [e1] at h1
      rw [e2] at h2
      cases hn : i - r.length with
      | zero => rw [hn] at h1 h2; cases h1; cases h2; rfl
      | succ n => rw [hn] at h1; simp at h1
  · rcases Nat.lt_or_ge i r.length with hi | hi
    · rw [delRows, List.getElem?_append_left (by simpa [dRows] using hi), dRows, List.getElem?_map] at h1
      rw [List.getElem?_append_left (by simpa using hi)] at h2
      rw [h2] at h1
      cases h1
      rw [List.getElem?_map, h4] at h3
      cases h3
      exact .dat _
    · rw [delRows, List.getElem?_append_right (by simpa [dRows] using hi)] at h1
      rw [List.getElem?_append_right (by simpa using hi)] at h2
      have e1 : (dRows (r.map Msg.enc)).length = r.length := by simp [dRows]
      have e2 : (r.map Msg.enc).length = r.length := by simp
      rw [e1] at h1
      rw [e2] at h2
      cases hn : i - r.length with
      | zero =>
        rw [hn] at h1 h2
        cases h1
        cases h2
        match j, h3, h4 with
        | 0, h3, h4 => cases h3; cases h4; exact .esl 1
        | 1, h3, h4 => cases h3; cases h4; exact .dat _
        | 2, h3, h4 => cases h3; cases h4; exact .dat _
        | 3, h3, h4 => cases h3; cases h4; exact .dat _
        | n + 4, h3, h4 => simp [zeroM] at h3
      | succ n => rw [hn] at h1; simp at h1
theorem l53 : lowF Try.prog Try.f53 = some c53 := by kernel_rfl
set_option maxRecDepth 100000 in
set_option maxHeartbeats 16000000 in
theorem recv_body (l : List Obj) (hf : fitL l) (e : Int) : body Try.prog c53 [objsV l, vInt .i64 e] [] (fun r m => ∃ r' m', View 0 ⟨[r], m⟩ ⟨[r'], m'⟩ ∧ r' = threeV (recvS l e) ∧ m' = []) := by
  have hlm : (((l.map Obj.enc).length : Nat) : Int) = (l.length : Int) := by simp
  have bad : ∀ (x : Int), recvS l e = ([], msgZ, x) → ∃ r' m', View 0 ⟨[CV.tup [.one .esl, .agg zeroM, iRV x]], [.var zeroM]⟩ ⟨[r'], m'⟩ ∧ r' = threeV (recvS l e) ∧ m' = [] := by
    intro x hx
    refine ⟨_, _, View.of 1 [] [] rfl rfl rfl rfl rfl rfl (.put (vw3 (b := objsR []) (.one (.frz (.esl 9))) vwZ) .nil) (.nil _), ?_, rfl⟩
    rw [hx]
    rfl
  refine bB_dec (fun h => ?_) (fun h1 => ?_)
  · exact bad 8 (by rw [recvS, if_pos (.inl h)])
  refine bB_dec (fun h => ?_) (fun h2 => ?_)
  · exact bad 8 (by rw [recvS, if_pos (.inr (by rw [← hlm]; exact h))])
  have h2 : ¬ e ≥ (l.length : Int) := by rw [← hlm]; exact h2
  obtain ⟨k, rfl⟩ : ∃ k : Nat, e = k := ⟨e.toNat, by omega⟩
  have hk : k < l.length := by omega
  have hi := List.getElem?_eq_getElem hk
  have hS1 : recvS l (k : Int) = if l[k].kind ≠ 4 then (([], msgZ, 8) : List Obj × Msg × Int) else match l[k].queue with
      | [] => if l[k].peer < 0 ∨ l[k].peer ≥ l.length then ([], msgZ, 17) else match l[l[k].peer.toNat]? with
        | none => ([], msgZ, 17)
        | some q => if q.kind ≠ 4 then ([], msgZ, 17) else ([], msgZ, 16)
      | x :: r => (l.set k { l[k] with queue := r }, x, 0) := by
    rw [recvS, if_neg (by omega), Int.toNat_natCast, hi]
  have hg : getZ (l.map Obj.enc) (k : Nat) = some (l[k].enc) := by
    rw [getZ_nat, List.getElem?_map, hi]; rfl
  have hof := hf.2 _ (List.getElem_mem hk)
  generalize l[k] = o at hS1 hg hi hof
  obtain ⟨kind, data, entries, target, peer, queue, proc, links, up⟩ := o
  have hg : getZ (l.map Obj.enc) (k : Nat) = some [.val (.int .i64 kind), .sl 1 data, .sl 2 entries, .val (.string target), .val (.int .i64 peer), .sl 4 (queue.map Msg.enc), .val (.int .i64 proc), .val (.int .i64 links), .val (.int .i64 up)] := hg
  refine ok_some hg ?_
  refine bB_bne (fun h => ?_) (fun h3 => ?_)
  · exact bad 8 (by rw [hS1, if_pos h])
  have h3 : kind = 4 := h3
  rw [if_neg (by simpa using h3)] at hS1
  simp only at hS1
  refine ok_some hg ?_
  cases queue with
  | nil =>
    simp only at hS1
    refine ok_some hg ?_
    refine bB_dec (fun h => ?_) (fun h4 => ?_)
    · exact bad 17 (by rw [hS1, if_pos (.inl h)])
    refine bB_dec (fun h => ?_) (fun h5 => ?_)
    · exact bad 17 (by rw [hS1, if_pos (.inr (by rw [← hlm]; exact h))])
    have h5 : ¬ peer ≥ (l.length : Int) := by rw [← hlm]; exact h5
    have h4 : ¬ peer < 0 := h4
    obtain ⟨p, rfl⟩ : ∃ p : Nat, peer = p := ⟨peer.toNat, by omega⟩
    have hp : p < l.length := by omega
    have hpi := List.getElem?_eq_getElem hp
    rw [if_neg (by omega), Int.toNat_natCast, hpi] at hS1
    simp only at hS1
    have hg2 : getZ (l.map Obj.enc) (p : Nat) = some (l[p].enc) := by
      rw [getZ_nat, List.getElem?_map, hpi]; rfl
    generalize l[p] = q at hS1 hg2
    have hg2 : getZ (l.map Obj.enc) (p : Nat) = some [.val (.int .i64 q.kind), .sl 1 q.data, .sl 2 q.entries, .val (.string q.target), .val (.int .i64 q.peer), .sl 4 (q.queue.map Msg.enc), .val (.int .i64 q.proc), .val (.int .i64 q.links), .val (.int .i64 q.up)] := hg2
    refine ok_some hg2 ?_
    refine bB_bne (fun h => ?_) (fun h6 => ?_)
    · exact bad 17 (by rw [hS1, if_pos h])
    · exact bad 16 (by rw [hS1, if_neg (by simpa using h6)])
  | cons x r =>
    simp only at hS1
    have hql : (x :: r).length ≤ 4194304 := hof.2.2.1
    refine own_ok l hf k ?_
    rw [qbO_at hi]
    have hidx : idxZ (k : Int) (lenOf (rowsO k 2 0 l).length 0 none) = some k := idxZ_nat (by simp [lenOf, rowsO_len]; omega)
    have hrow := rowsO_at (Q := 2) hi
    refine ok_some hidx ?_
    refine ok_some hrow ?_
    refine ok_some hidx ?_
    refine ok_some hrow ?_
    refine del_ok x r (by simp at hql; omega) 2 rfl ?_
    refine ok_some hidx ?_
    refine ok_some hrow ?_
    refine ⟨trivial, ?_⟩
    refine ⟨threeV (recvS l k), [], View.of 4 [] [1, 2] rfl rfl rfl rfl rfl rfl ?_ (.nil _), rfl, rfl⟩
    rw [hS1]
    refine .put (vw3 (.one (.frz ?_)) (vwMsg x)) .nil
    exact frzRows (p := k) (Q := 2) (l := l) (q := ⟨kind, data, entries, target, peer, r, proc, links, up⟩) (c := .row 2 4 0 (some r.length)) rfl (by rw [← nth_eq]; rfl) (frzDel (x := x) rfl (by rw [← nth_eq]; rfl))
set_option maxRecDepth 100000 in
theorem recv_ok (l : List Obj) (hf : fitL l) (e : Int) {m : Mem} {K : CV → Mem → Prop} (h : K (threeV (recvS l e)) m) : ACall Try.prog 53 [objsV l, vInt .i64 e] m K := by
  refine acall_frame (K0 := fun r m => r = threeV (recvS l e) ∧ m = []) (acall_view (acall_body Try.func53 l53 rfl (Nat.le_of_ble_eq_true rfl) (recv_body l hf e)) fun r m1 ⟨r', m', hv, hp⟩ => ⟨r', m', hv, hp⟩) (by simp [objsV, vInt, CV.isD, CC.isD, RV.isD]) fun r m1 hr => ?_
  obtain ⟨rfl, rfl⟩ := hr
  exact ⟨_, FrzV.self rfl, h⟩
end Go.Proofs.Ytflieebgiejjpaa
