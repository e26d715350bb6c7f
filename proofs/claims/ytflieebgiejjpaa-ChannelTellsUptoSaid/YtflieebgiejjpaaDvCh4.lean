import Derived.Test.YtflieebgiejjpaaAmZ2
import Derived.Test.YtflieebgiejjpaaDvCh3
import Derived.Test.YtflieebgiejjpaaAmY
set_option linter.unusedVariables false
set_option linter.unusedSimpArgs false
namespace Go.Proofs.Ytflieebgiejjpaa
open Go.AM Go.ChangeShapes Go.WideShapes Go.ChangeAt Go.RowKit
def c51 : LF := ⟨80, [.tmp 6, .tmp 7], (.seq (.reg [
    ⟨(some 5), .box (.t 2), none⟩,
    ⟨(some 6), .mov (.c (.rv (.one .esl))), none⟩,
    ⟨(some 7), .mov (.c (.rv (.one (.dat (.val (.int .i64 (0))))))), none⟩]) (.seq (.seq (.reg [
    ⟨(some 10), .mov (.t 1), none⟩,
    ⟨(some 11), .bin .lss (.t 10) (.c (.rv (.one (.dat (.val (.int .i64 (0))))))), none⟩,
    ⟨(some 12), .mov (.t 11), none⟩,
    ⟨(some 13), .mov (.t 1), (some (12, false))⟩,
    ⟨(some 14), .mov (.t 0), (some (12, false))⟩,
    ⟨(some 15), .len 1 (.t 14), (some (12, false))⟩,
    ⟨(some 16), .bin .geq (.t 13) (.t 15), (some (12, false))⟩,
    ⟨(some 17), .pick (.t 12) (.c (.rv (.one (.dat (.val (.bool true)))))) (.t 16), none⟩,
    ⟨(some 18), .mov (.t 17), none⟩,
    ⟨(some 19), .mov (.t 0), (some (18, false))⟩,
    ⟨(some 20), .mov (.t 1), (some (18, false))⟩,
    ⟨(some 21), .idx 9 (.t 19) (.t 20), (some (18, false))⟩,
    ⟨(some 22), .fadr 0 (.t 21), (some (18, false))⟩,
    ⟨(some 23), .load false 1 (.t 22), (some (18, false))⟩,
    ⟨(some 24), .bin .neq (.t 23) (.c (.rv (.one (.dat (.val (.int .i64 (4))))))), (some (18, false))⟩,
    ⟨(some 25), .pick (.t 18) (.c (.rv (.one (.dat (.val (.bool true)))))) (.t 24), none⟩]) (.cond (.t 25) (.seq (.reg [
    ⟨(some 6), .mov (.c (.rv (.one .esl))), none⟩,
    ⟨(some 7), .mov (.c (.rv (.one (.dat (.val (.int .i64 (8))))))), none⟩]) .ret) .skip)) (.seq (.reg [
    ⟨(some 26), .mov (.t 0), none⟩,
    ⟨(some 27), .mov (.t 1), none⟩,
    ⟨(some 28), .idx 9 (.t 26) (.t 27), none⟩,
    ⟨(some 29), .fadr 4 (.t 28), none⟩,
    ⟨(some 30), .load false 1 (.t 29), none⟩,
    ⟨(some 8), .mov (.t 30), none⟩]) (.seq (.block 0 (.seq (.reg [
    ⟨(some 32), .mov (.t 8), none⟩,
    ⟨(some 33), .bin .lss (.t 32) (.c (.rv (.one (.dat (.val (.int .i64 (0))))))), none⟩,
    ⟨(some 34), .mov (.t 33), none⟩,
    ⟨(some 35), .mov (.t 8), (some (34, false))⟩,
    ⟨(some 36), .mov (.t 0), (some (34, false))⟩,
    ⟨(some 37), .len 1 (.t 36), (some (34, false))⟩,
    ⟨(some 38), .bin .geq (.t 35) (.t 37), (some (34, false))⟩,
    ⟨(some 39), .pick (.t 34) (.c (.rv (.one (.dat (.val (.bool true)))))) (.t 38), none⟩,
    ⟨(some 40), .mov (.t 39), none⟩,
    ⟨(some 41), .mov (.t 0), (some (40, false))⟩,
    ⟨(some 42), .mov (.t 8), (some (40, false))⟩,
    ⟨(some 43), .idx 9 (.t 41) (.t 42), (some (40, false))⟩,
    ⟨(some 44), .fadr 0 (.t 43), (some (40, false))⟩,
    ⟨(some 45), .load false 1 (.t 44), (some (40, false))⟩,
    ⟨(some 46), .bin .neq (.t 45) (.c (.rv (.one (.dat (.val (.int .i64 (4))))))), (some (40, false))⟩,
    ⟨(some 47), .pick (.t 40) (.c (.rv (.one (.dat (.val (.bool true)))))) (.t 46), none⟩,
    ⟨(some 31), .mov (.t 47), none⟩]) (.cond (.t 31) (.seq (.reg [
    ⟨(some 6), .mov (.c (.rv (.one .esl))), none⟩,
    ⟨(some 7), .mov (.c (.rv (.one (.dat (.val (.int .i64 (17))))))), none⟩]) .ret) (.seq (.reg [
    ⟨(some 49), .fadr 0 (.t 5), none⟩,
    ⟨(some 50), .load false 1 (.t 49), none⟩,
    ⟨(some 51), .len 1 (.t 50), none⟩,
    ⟨(some 52), .bin .gtr (.t 51) (.c (.rv (.one (.dat (.val (.int .i64 (60))))))), none⟩,
    ⟨(some 48), .mov (.t 52), none⟩]) (.cond (.t 48) (.seq (.reg [
    ⟨(some 6), .mov (.c (.rv (.one .esl))), none⟩,
    ⟨(some 7), .mov (.c (.rv (.one (.dat (.val (.int .i64 (4))))))), none⟩]) .ret) (.seq (.reg [
    ⟨(some 54), .mov (.t 0), none⟩,
    ⟨(some 55), .mov (.t 8), none⟩,
    ⟨(some 56), .idx 9 (.t 54) (.t 55), none⟩,
    ⟨(some 57), .fadr 5 (.t 56), none⟩,
    ⟨(some 58), .load false 1 (.t 57), none⟩,
    ⟨(some 59), .len 1 (.t 58), none⟩,
    ⟨(some 60), .bin .geq (.t 59) (.c (.rv (.one (.dat (.val (.int .i64 (4))))))), none⟩,
    ⟨(some 53), .mov (.t 60), none⟩]) (.cond (.t 53) (.seq (.reg [
    ⟨(some 6), .mov (.c (.rv (.one .esl))), none⟩,
    ⟨(some 7), .mov (.c (.rv (.one (.dat (.val (.int .i64 (15))))))), none⟩]) .ret) .skip))))))) (.seq (.reg [
    ⟨(some 61), .mov (.t 0), none⟩,
    ⟨(some 62), .call (.c (.rv (.one (.fn 93 [])))) [(.t 61)], none⟩,
    ⟨(some 9), .mov (.t 62), none⟩]) (.seq (.reg [
    ⟨(some 63), .fadr 0 (.t 5), none⟩,
    ⟨(some 64), .load false 1 (.t 63), none⟩,
    ⟨(some 65), .call (.c (.rv (.one (.fn 94 [])))) [(.t 64)], none⟩,
    ⟨(some 66), .fadr 0 (.t 5), none⟩,
    ⟨none, .store 1 (.t 66) (.t 65), none⟩]) (.seq (.draw [
    ⟨(some 67), .mov (.t 9), none⟩,
    ⟨(some 68), .mov (.t 8), none⟩,
    ⟨(some 69), .mov (.t 9), none⟩,
    ⟨(some 70), .mov (.t 8), none⟩,
    ⟨(some 71), .idx 9 (.t 69) (.t 70), none⟩,
    ⟨(some 72), .fadr 5 (.t 71), none⟩,
    ⟨(some 73), .load false 1 (.t 72), none⟩,
    ⟨(some 74), .load true 4 (.t 5), none⟩,
    ⟨(some 75), .bsl 4 [.esl, (.dat (.val (.bool false))), (.dat (.val (.int .i64 (0)))), (.dat (.val (.int .i64 (0))))] 1 [(0, (.t 74))], none⟩,
    ⟨(some 76), .app 4 48 (.t 73) (.t 75), none⟩,
    ⟨(some 77), .idx 9 (.t 67) (.t 68), none⟩,
    ⟨(some 78), .fadr 5 (.t 77), none⟩,
    ⟨none, .store 1 (.t 78) (.t 76), none⟩]
    [(.cons 0 none (.cons 1 none (.cons 2 none (.cons 3 none (.cons 4 none (.cons 5 none (.cons 6 none (.cons 7 none (.cons 8 (some [6, 4]) (.cons 9 (some []) (.cons 10 none (.cons 11 none (.cons 12 (some []) .nil)))))))))))))]) (.seq (.reg [
    ⟨(some 79), .mov (.t 9), none⟩,
    ⟨(some 6), .mov (.t 79), none⟩,
    ⟨(some 7), .mov (.c (.rv (.one (.dat (.val (.int .i64 (0))))))), none⟩]) .ret))))))))⟩
/-! Send -/
def rowC (o : Obj) (c : CC) : List CC := [.dat (.val (.int .i64 o.kind)), .dat (.sl 1 o.data), .dat (.sl 2 o.entries), .dat (.val (.string o.target)), .dat (.val (.int .i64 o.peer)), c, .dat (.val (.int .i64 o.proc)), .dat (.val (.int .i64 o.links)), .dat (.val (.int .i64 o.up))]
theorem rowsO_at {l : List Obj} {p Q : Nat} {q : Obj} (h : l[p]? = some q) : nth (rowsO p Q 0 l) p = some (rowC q (.row Q 4 0 none)) := by
  rw [nth_eq, rowsO_get, h]
  simp [rowO, rowC]
theorem qbO_at {l : List Obj} {p : Nat} {q : Obj} (h : l[p]? = some q) : qbO l p l.length = .row 4 (dRows (q.queue.map Msg.enc)) := by
  have hp := (List.getElem?_eq_some_iff.1 h).1
  have : Nat.blt p l.length = true := by rw [Nat.blt_eq]; exact hp
  simp only [qbO, this, quO, h]
/-- the row as data, when its queue is -/
theorem frzRows {m : Mem} {Z : Nat → Prop} {id p Q : Nat} {l : List Obj} {q : Obj} {c : CC} (hz : Z id) (hb : m[id]? = some (.row 9 (setN (rowsO p Q 0 l) p (rowC q c)))) (hc : FrzD m Z (some id) c (.sl 4 (q.queue.map Msg.enc))) :
    FrzD m Z none (.row id 9 0 none) (.sl 9 ((l.set p q).map Obj.enc)) := by
  have key : ∀ (i : Nat) cs es, (setN (rowsO p Q 0 l) p (rowC q c))[i]? = some cs → ((l.set p q).map Obj.enc)[i]? = some es → (cs = rowC q c ∧ es = q.enc) ∨ ∃ o : Obj, cs = o.enc.map .dat ∧ es = o.enc := by
    intro i cs es h1 h2
    rw [setN_eq, List.getElem?_set] at h1
    rw [List.getElem?_map, List.getElem?_set] at h2
    by_cases hi : p = i
    · subst hi
      rw [if_pos rfl] at h1 h2
      split at h1
      · cases h1
        split at h2
        · cases h2
          exact .inl ⟨rfl, rfl⟩
        · cases h2
      · cases h1
    · rw [if_neg hi] at h1 h2
      rw [rowsO_get] at h1
      cases ho : l[i]? with
      | none => rw [ho] at h1; cases h1
      | some o =>
        rw [ho] at h1 h2
        cases h1
        cases h2
        refine .inr ⟨o, ?_, rfl⟩
        simp only [rowO, Nat.zero_add, if_neg (Ne.symm hi)]
        rfl
  refine .row id 9 0 none _ ((l.set p q).map Obj.enc) hz hb (by rw [setN_eq]; simp [rowsO_len]) (fun i cs es h1 h2 => ?_) (fun i cs es j cc d h1 h2 h3 h4 => ?_)
  · rcases key i cs es h1 h2 with ⟨rfl, rfl⟩ | ⟨o, rfl, rfl⟩
    · rfl
    · simp
  · rcases key i cs es h1 h2 with ⟨rfl, rfl⟩ | ⟨o, rfl, rfl⟩
    · match j, h3, h4 with
      | 0, h3, h4 => cases h3; cases h4; exact .dat _
      | 1, h3, h4 => cases h3; cases h4; exact .dat _
      | 2, h3, h4 => cases h3; cases h4; exact .dat _
      | 3, h3, h4 => cases h3; cases h4; exact .dat _
      | 4, h3, h4 => cases h3; cases h4; exact .dat _
      | 5, h3, h4 => cases h3; cases h4; exact hc
      | 6, h3, h4 => cases h3; cases h4; exact .dat _
      | 7, h3, h4 => cases h3; cases h4; exact .dat _
      | 8, h3, h4 => cases h3; cases h4; exact .dat _
      | n + 9, h3, h4 => simp [rowC] at h3
    · rw [List.getElem?_map, h4] at h3
      cases h3
      exact .dat _
def sendS (l : List Obj) (e : Int) (m : Msg) : List Obj × Int :=
  if e < 0 ∨ e ≥ l.length then ([], 8) else match l[e.toNat]? with
  | none => ([], 8)
  | some o => if o.kind ≠ 4 then ([], 8) else if o.peer < 0 ∨ o.peer ≥ l.length then ([], 17) else match l[o.peer.toNat]? with
    | none => ([], 17)
    | some q => if q.kind ≠ 4 then ([], 17) else if m.data.length > 60 then ([], 4) else if q.queue.length ≥ 4 then ([], 15) else (l.set o.peer.toNat { q with queue := q.queue ++ [m] }, 0)
def twoV (l : List Obj) (e : Int) : CV := .tup [objsR l, iRV e]
theorem frz2 {m : Mem} {a b : RV} {x : Int} (h : FrzR m a b) : FrzV m (.tup [a, iRV x]) (.tup [b, iRV x]) := by
  refine .tup rfl fun i r r' h1 h2 => ?_
  match i, h1, h2 with
  | 0, h1, h2 => cases h1; cases h2; exact h
  | 1, h1, h2 => cases h1; cases h2; exact FrzR.self rfl
theorem vw2 {σ : Nat → Nat} {m : Mem} {Z : Nat → Prop} {a b : RV} {x : Int} (h : VwR σ m Z a b) : VwV σ m Z (.tup [a, iRV x]) (.tup [b, iRV x]) := by
  refine .tup rfl fun i r r' h1 h2 => ?_
  match i, h1, h2 with
  | 0, h1, h2 => cases h1; cases h2; exact h
  | 1, h1, h2 => cases h1; cases h2; exact .one (.ren (.dat _))
theorem l51 : lowF Try.prog Try.f51 = some c51 := by kernel_rfl
set_option maxRecDepth 100000 in
set_option maxHeartbeats 16000000 in
theorem send_body (l : List Obj) (hf : fitL l) (e : Int) (msg : Msg) (hmf : msg.data.length ≤ 4194304) : body Try.prog c51 [objsV l, vInt .i64 e, msg.cv] [] (fun r m => ∃ r' m', View 0 ⟨[r], m⟩ ⟨[r'], m'⟩ ∧ r' = twoV (sendS l e msg).1 (sendS l e msg).2 ∧ m' = []) := by
  have hlm : (((l.map Obj.enc).length : Nat) : Int) = (l.length : Int) := by simp
  have bad : ∀ (x : Int), sendS l e msg = ([], x) → ∃ r' m', View 0 ⟨[CV.tup [.one .esl, iRV x]], [.var (msg.enc.map .dat)]⟩ ⟨[r'], m'⟩ ∧ r' = twoV (sendS l e msg).1 (sendS l e msg).2 ∧ m' = [] := by
    intro x hx
    refine ⟨_, _, View.of 1 [] [] rfl rfl rfl rfl rfl rfl (.put (vw2 (b := objsR []) (.one (.frz (.esl 9)))) .nil) (.nil _), ?_, rfl⟩
    rw [hx]
    rfl
  refine bB_dec (fun h => ?_) (fun h1 => ?_)
  · exact bad 8 (by rw [sendS, if_pos (.inl h)])
  refine bB_dec (fun h => ?_) (fun h2 => ?_)
  · exact bad 8 (by rw [sendS, if_pos (.inr (by rw [← hlm]; exact h))])
  have h2 : ¬ e ≥ (l.length : Int) := by rw [← hlm]; exact h2
  obtain ⟨k, rfl⟩ : ∃ k : Nat, e = k := ⟨e.toNat, by omega⟩
  have hk : k < l.length := by omega
  have hi := List.getElem?_eq_getElem hk
  have hS1 : sendS l (k : Int) msg = if l[k].kind ≠ 4 then (([], 8) : List Obj × Int) else if l[k].peer < 0 ∨ l[k].peer ≥ l.length then ([], 17) else match l[l[k].peer.toNat]? with
      | none => ([], 17)
      | some q => if q.kind ≠ 4 then ([], 17) else if msg.data.length > 60 then ([], 4) else if q.queue.length ≥ 4 then ([], 15) else (l.set l[k].peer.toNat { q with queue := q.queue ++ [msg] }, 0) := by
    rw [sendS, if_neg (by omega), Int.toNat_natCast, hi]
  have hg : getZ (l.map Obj.enc) (k : Nat) = some (l[k].enc) := by
    rw [getZ_nat, List.getElem?_map, hi]; rfl
  generalize l[k] = o at hS1 hg
  obtain ⟨kind, data, entries, target, peer, queue, proc, links, up⟩ := o
  have hg : getZ (l.map Obj.enc) (k : Nat) = some [.val (.int .i64 kind), .sl 1 data, .sl 2 entries, .val (.string target), .val (.int .i64 peer), .sl 4 (queue.map Msg.enc), .val (.int .i64 proc), .val (.int .i64 links), .val (.int .i64 up)] := hg
  refine ok_some hg ?_
  refine bB_bne (fun h => ?_) (fun h3 => ?_)
  · exact bad 8 (by rw [hS1, if_pos h])
  have h3 : kind = 4 := h3
  rw [if_neg (by simpa using h3)] at hS1
  simp only at hS1
  refine ok_some hg ?_
  refine bB_dec (fun h => ?_) (fun h4 => ?_)
  · exact bad 17 (by rw [hS1, if_pos (.inl h)])
  refine bB_dec (fun h => ?_) (fun h5 => ?_)
  · exact bad 17 (by rw [hS1, if_pos (.inr (by rw [← hlm]; exact h))])
  have h5 : ¬ peer ≥ (l.length : Int) := by rw [← hlm]; exact h5
  have h4 : ¬ peer < 0 := h4
  obtain ⟨p, rfl⟩ : ∃ p : Nat, peer = p := ⟨peer.toNat, by omega⟩
  have hp : p < l.length := by omega
  have hpi := List.getElem?_eq_getElem hp
  rw [if_neg (by omega), Int.toNat_natCast, hpi] at hS1
  simp only at hS1
  have hg2 : getZ (l.map Obj.enc) (p : Nat) = some (l[p].enc) := by
    rw [getZ_nat, List.getElem?_map, hpi]; rfl
  have hqf := hf.2 _ (List.getElem_mem hp)
  generalize l[p] = q at hS1 hg2 hpi hqf
  have hg2 : getZ (l.map Obj.enc) (p : Nat) = some [.val (.int .i64 q.kind), .sl 1 q.data, .sl 2 q.entries, .val (.string q.target), .val (.int .i64 q.peer), .sl 4 (q.queue.map Msg.enc), .val (.int .i64 q.proc), .val (.int .i64 q.links), .val (.int .i64 q.up)] := hg2
  refine ok_some hg2 ?_
  refine bB_bne (fun h => ?_) (fun h6 => ?_)
  · exact bad 17 (by rw [hS1, if_pos h])
  rw [if_neg (by simpa using h6)] at hS1
  refine bB_dec (fun h => ?_) (fun h7 => ?_)
  · exact bad 4 (by rw [hS1, if_pos (by
      have h : ((msg.data.length : Nat) : Int) > 60 := h
      omega)])
  rw [if_neg (by
      have h : ¬ ((msg.data.length : Nat) : Int) > 60 := h7
      omega)] at hS1
  refine ok_some hg2 ?_
  refine bB_dec (fun h => ?_) (fun h8 => ?_)
  · exact bad 15 (by rw [hS1, if_pos (by
      have h : (((q.queue.map Msg.enc).length : Nat) : Int) ≥ 4 := h
      rw [List.length_map] at h
      omega)])
  have h8 : ¬ q.queue.length ≥ 4 := by
    have h : ¬ (((q.queue.map Msg.enc).length : Nat) : Int) ≥ 4 := h8
    rw [List.length_map] at h
    omega
  rw [if_neg h8] at hS1
  refine own_ok l hf p ?_
  rw [qbO_at hpi]
  refine bclone_ok msg.data hmf ?_
  have hidx : idxZ (p : Int) (lenOf (rowsO p 2 0 l).length 0 none) = some p := idxZ_nat (by simp [lenOf, rowsO_len]; omega)
  have hrow := rowsO_at (Q := 2) hpi
  refine ok_some hidx ?_
  refine ok_some hrow ?_
  refine ⟨⟨ok_some hrow rfl, ok_some hidx rfl, trivial⟩, ?_⟩
  refine ⟨?_, ?_⟩
  · show ((dRows (q.queue.map Msg.enc)).length + 1) * 48 ≤ _
    simp [dRows]; omega
  refine ⟨trivial, ?_⟩
  refine ok_some hidx ?_
  refine ok_some hrow ?_
  refine ⟨trivial, ?_⟩
  refine ⟨twoV (l.set p { q with queue := q.queue ++ [msg] }) 0, [], View.of 5 [] [1, 4] rfl rfl rfl rfl rfl rfl (.put (vw2 (.one (.frz ?_))) .nil) (.nil _), ?_, rfl⟩
  · refine frzRows (p := p) (Q := 2) (l := l) (q := { q with queue := q.queue ++ [msg] }) (c := .row 4 4 0 none) rfl (by rw [← nth_eq]; rfl) ?_
    refine FrzD.rowD (Z := fun k => memN [1, 4] k = true) (ds := (q.queue ++ [msg]).map Msg.enc) rfl ?_ 0 none
    rw [← nth_eq, List.map_append, dRows_append]
    rfl
  · rw [hS1]
set_option maxRecDepth 100000 in
theorem send_ok (l : List Obj) (hf : fitL l) (e : Int) (msg : Msg) (hmf : msg.data.length ≤ 4194304) {m : Mem} {K : CV → Mem → Prop} (h : K (twoV (sendS l e msg).1 (sendS l e msg).2) m) : ACall Try.prog 51 [objsV l, vInt .i64 e, msg.cv] m K := by
  refine acall_frame (K0 := fun r m => r = twoV (sendS l e msg).1 (sendS l e msg).2 ∧ m = []) (acall_view (acall_body Try.func51 l51 rfl (Nat.le_of_ble_eq_true rfl) (send_body l hf e msg hmf)) fun r m1 ⟨r', m', hv, hp⟩ => ⟨r', m', hv, hp⟩) (by simp [objsV, vInt, Msg.cv, CV.isD, CC.isD, RV.isD]) fun r m1 hr => ?_
  obtain ⟨rfl, rfl⟩ := hr
  exact ⟨_, FrzV.self rfl, h⟩
end Go.Proofs.Ytflieebgiejjpaa
