import Derived.Test.YtbemknkbegkflaaAmZ2
import Derived.Test.YtbemknkbegkflaaAmR
import Derived.Test.YtbemknkbegkflaaAmU
import Derived.Test.YtbemknkbegkflaaRows
import Derived.Test.YtbemknkbegkflaaAmY
set_option linter.unusedVariables false
set_option linter.unusedSimpArgs false
namespace Go.Proofs.Ytbemknkbegkflaa
open Go.AM Go.ChangeShapes Go.WideShapes Go.ChangeAt Go.RowKit
/-! Objects -/
theorem wrapI {n : Int} (h1 : -9223372036854775808 ≤ n) (h2 : n ≤ 9223372036854775807) : IntKind.i64.wrap n = n := IntWalk.i64_in n (by omega)
structure Msg where
  data : List (List Dt)
  has : Bool
  opn : Int
  rts : Int
def Msg.enc (m : Msg) : List Dt := [.sl 1 m.data, .val (.bool m.has), .val (.int .i64 m.opn), .val (.int .i64 m.rts)]
structure Obj where
  kind : Int
  data : List (List Dt)
  entries : List (List Dt)
  target : ByteArray
  peer : Int
  queue : List Msg
  proc : Int
  links : Int
  up : Int
def Obj.enc (o : Obj) : List Dt := [.val (.int .i64 o.kind), .sl 1 o.data, .sl 2 o.entries, .val (.string o.target), .val (.int .i64 o.peer), .sl 4 (o.queue.map Msg.enc), .val (.int .i64 o.proc), .val (.int .i64 o.links), .val (.int .i64 o.up)]
def Msg.cv (m : Msg) : CV := .rv (.agg (m.enc.map .dat))
def Obj.cv (o : Obj) : CV := .rv (.agg (o.enc.map .dat))
def objsD (l : List Obj) : Dt := .sl 9 (l.map Obj.enc)
def objsV (l : List Obj) : CV := .rv (.one (.dat (objsD l)))
/-- sizes that fit -/
def Obj.fit (o : Obj) : Prop := o.data.length ≤ 4194304 ∧ o.entries.length ≤ 4194304 ∧ o.queue.length ≤ 4194304 ∧ ∀ q, q ∈ o.queue → q.data.length ≤ 4194304
def fitL (l : List Obj) : Prop := l.length ≤ 4194304 ∧ ∀ o, o ∈ l → o.fit
/-! clones that are data -/
def slV (esz : Nat) (d : List (List Dt)) : CV := .rv (.one (.dat (.sl esz d)))
/-! Own: a row of its own, its elements' slices data, but for the queue of one of them -/
def rowO (p Q k : Nat) (o : Obj) : List CC := [.dat (.val (.int .i64 o.kind)), .dat (.sl 1 o.data), .dat (.sl 2 o.entries), .dat (.val (.string o.target)), .dat (.val (.int .i64 o.peer)),
  (if k = p then .row Q 4 0 none else .dat (.sl 4 (o.queue.map Msg.enc))), .dat (.val (.int .i64 o.proc)), .dat (.val (.int .i64 o.links)), .dat (.val (.int .i64 o.up))]
def rowsO (p Q : Nat) : Nat → List Obj → List (List CC)
  | _, [] => []
  | k, o :: r => rowO p Q k o :: rowsO p Q (k + 1) r
theorem rowsO_append (p Q : Nat) : ∀ (a : List Obj) (k : Nat) (b : List Obj), rowsO p Q k (a ++ b) = rowsO p Q k a ++ rowsO p Q (k + a.length) b
  | [], k, b => rfl
  | o :: r, k, b => by simp [rowsO, rowsO_append p Q r (k + 1) b, Nat.add_assoc, Nat.add_comm 1]
theorem rowsO_len (p Q : Nat) : ∀ (l : List Obj) (k : Nat), (rowsO p Q k l).length = l.length
  | [], _ => rfl
  | o :: r, k => by simp [rowsO, rowsO_len p Q r (k + 1)]
theorem rowsO_none (p Q : Nat) : ∀ (l : List Obj) (k : Nat), (p < k ∨ k + l.length ≤ p) → rowsO p Q k l = dRows (l.map Obj.enc)
  | [], _, _ => rfl
  | o :: r, k, h => by
    simp only [List.length_cons] at h
    have hk : ¬ k = p := by omega
    simp only [rowsO, rowO, if_neg hk, rowsO_none p Q r (k + 1) (by omega)]
    rfl
theorem rowsO_get (p Q : Nat) : ∀ (l : List Obj) (k i : Nat), (rowsO p Q k l)[i]? = (l[i]?).map (rowO p Q (k + i))
  | [], k, i => by simp [rowsO]
  | o :: r, k, 0 => by simp [rowsO]
  | o :: r, k, i + 1 => by
    simp only [rowsO, List.getElem?_cons_succ, rowsO_get p Q r (k + 1) i]
    rw [show k + 1 + i = k + (i + 1) by omega]
theorem rowO_ren {σ : Nat → Nat} {p Q k : Nat} (o : Obj) : (rowO p Q k o).map (CC.ren σ) = rowO p (σ Q) k o := by
  by_cases h : k = p <;> simp [rowO, h, CC.ren]
theorem rowsO_ren {σ : Nat → Nat} (p Q : Nat) : ∀ (l : List Obj) (k : Nat), (rowsO p Q k l).map (fun cs => cs.map (CC.ren σ)) = rowsO p (σ Q) k l
  | [], _ => rfl
  | o :: r, k => by
    simp only [rowsO, List.map_cons, rowsO_ren p Q r (k + 1)]
    rw [rowO_ren]

/-! Own -/
def quO (l : List Obj) (p : Nat) : List Msg := match l[p]? with | some o => o.queue | none => []
def qbO (l : List Obj) (p k : Nat) : Bk := match Nat.blt p k with | true => .row 4 (dRows ((quO l p).map Msg.enc)) | false => .dead
theorem qbO_ren {σ : Nat → Nat} (l : List Obj) (p k : Nat) : (qbO l p k).ren σ = qbO l p k := by
  unfold qbO
  split
  · exact Bk.ren_dRows _ _
  · rfl
theorem takeO {α : Type} {l : List α} {i : Nat} {s : α} (h : l[i]? = some s) : l.take (i + 1) = l.take i ++ [s] := by
  rw [List.take_add_one, h]; rfl
theorem dRows_append (a b : List (List Dt)) : dRows (a ++ b) = dRows a ++ dRows b := by simp [dRows]
theorem rowsO_take {p Q : Nat} {l : List Obj} {k : Nat} {o : Obj} (h : l[k]? = some o) : rowsO p Q 0 (l.take (k + 1)) = rowsO p Q 0 (l.take k) ++ [rowO p Q k o] := by
  have hk := (List.getElem?_eq_some_iff.1 h).1
  rw [takeO h, rowsO_append, List.length_take, Nat.min_eq_left (by omega), Nat.zero_add]
  rfl
def idxG {α : Type} (q : α → Bool) (l : List α) : Int := match l.findIdx? q with | some k => (k : Int) | none => -1
theorem idxG_found {α : Type} {q : α → Bool} {l : List α} {k : Nat} (h : k < l.length) (hq : q l[k] = true) (hb : ∀ (j : Nat) s, j < k → l[j]? = some s → q s = false) : idxG q l = k := by
  have : l.findIdx? q = some k := by
    rw [List.findIdx?_eq_some_iff_getElem]
    exact ⟨h, hq, fun j hj => by simpa using hb j _ hj (List.getElem?_eq_getElem (by omega))⟩
  rw [idxG, this]
theorem idxG_none {α : Type} {q : α → Bool} {l : List α} (hb : ∀ (j : Nat) s, l[j]? = some s → q s = false) : idxG q l = -1 := by
  have : l.findIdx? q = none := by
    rw [List.findIdx?_eq_none_iff]
    intro s hs
    obtain ⟨i, hi⟩ := List.getElem?_of_mem hs
    simpa using hb i s hi
  rw [idxG, this]
theorem idxG_any {α : Type} (q : α → Bool) (l : List α) : decide (idxG q l ≥ 0) = l.any q := by
  unfold idxG
  cases h : l.findIdx? q with
  | none =>
    rw [List.findIdx?_eq_none_iff] at h
    have : l.any q = false := by simpa using h
    rw [this]; rfl
  | some k =>
    obtain ⟨h1, h2, _⟩ := List.findIdx?_eq_some_iff_getElem.1 h
    have : l.any q = true := List.any_eq_true.2 ⟨_, List.getElem_mem h1, h2⟩
    rw [this]
    exact decide_eq_true (by simp)
def iRV (n : Int) : RV := .one (.dat (.val (.int .i64 n)))
def makeS (l : List Obj) (o : Obj) : List Obj × Int × Int :=
  match l.findIdx? (fun x => x.kind == 0) with
  | some k => (l.set k o, k, 0)
  | none => if l.length ≥ 40 then ([], 0, 15) else (l ++ [o], l.length, 0)
def makeP (l : List Obj) (o : Obj) (r : CV) (m : Mem) : Prop :=
  ((makeS l o).2.2 = 15 ∧ r = .tup [.one .esl, iRV (makeS l o).2.1, iRV (makeS l o).2.2] ∧ m = []) ∨
  ((makeS l o).2.2 = 0 ∧ r = .tup [.one (.row 0 9 0 none), iRV (makeS l o).2.1, iRV (makeS l o).2.2] ∧ m = [.row 9 (dRows ((makeS l o).1.map Obj.enc))])
theorem dRows_set (l : List Obj) (k : Nat) (o : Obj) : (dRows (l.map Obj.enc)).set k (o.enc.map .dat) = dRows ((l.set k o).map Obj.enc) := by
  simp [dRows, List.map_set]
theorem dRows_nth (l : List Obj) {k : Nat} (h : k < l.length) : nth (dRows (l.map Obj.enc)) k = some (l[k].enc.map .dat) := by
  rw [nth_eq]; simp [dRows, h]
def objsR (l : List Obj) : RV := .one (.dat (objsD l))
theorem frz3 {m : Mem} {a b c d : RV} {x : Int} (h : FrzR m a b) (hc : FrzR m c d) : FrzV m (.tup [a, c, iRV x]) (.tup [b, d, iRV x]) := by
  refine .tup rfl fun i r r' h1 h2 => ?_
  match i, h1, h2 with
  | 0, h1, h2 => cases h1; cases h2; exact h
  | 1, h1, h2 => cases h1; cases h2; exact hc
  | 2, h1, h2 => cases h1; cases h2; exact FrzR.self rfl
/-! Pair -/
theorem make_at {l : List Obj} {o : Obj} (h : (makeS l o).2.2 = 0) : ∃ k : Nat, (makeS l o).2.1 = k ∧ k < (makeS l o).1.length ∧ (makeS l o).1[k]? = some o ∧ l.length ≤ (makeS l o).1.length ∧ (∀ j, j ≠ k → j < l.length → (makeS l o).1[j]? = l[j]?) := by
  unfold makeS at h ⊢
  split
  · rename_i k hk
    have hkl : k < l.length := (List.findIdx?_eq_some_iff_getElem.1 hk).1
    exact ⟨k, rfl, by simpa using hkl, by simp [hkl], by simp, fun j hj hjl => by simp [List.getElem?_set, Ne.symm hj]⟩
  · rename_i hk
    rw [hk] at h
    simp only at h
    split at h
    · simp at h
    · rename_i hc
      rw [if_neg hc]
      exact ⟨l.length, rfl, by simp, by simp, by simp, fun j hj hjl => by simp [List.getElem?_append_left hjl]⟩
theorem make_fit {l : List Obj} {o : Obj} (hf : fitL l) (ho : o.fit) : fitL (makeS l o).1 := by
  unfold makeS
  split
  · refine ⟨by simpa using hf.1, fun x hx => ?_⟩
    rcases List.mem_or_eq_of_mem_set hx with h | rfl
    · exact hf.2 x h
    · exact ho
  · split
    · exact ⟨by simp, by simp⟩
    · refine ⟨by simp; omega, fun x hx => ?_⟩
      rcases List.mem_append.1 hx with h | h
      · exact hf.2 x h
      · simp at h
        subst h
        exact ho
def endO (p : Int) : Obj := ⟨4, [], [], ⟨#[]⟩, p, [], -1, 0, 0⟩
theorem endO_fit (p : Int) : (endO p).fit := by simp [Obj.fit, endO]
def setPeer (l : List Obj) (k : Nat) (b : Int) : List Obj := match l[k]? with | some o => l.set k { o with peer := b } | none => l
def pairS (l : List Obj) : List Obj × (Int × Int) × Int :=
  if (makeS l (endO (-1))).2.2 ≠ 0 then ([], (0, 0), (makeS l (endO (-1))).2.2)
  else if (makeS (makeS l (endO (-1))).1 (endO (makeS l (endO (-1))).2.1)).2.2 ≠ 0 then ([], (0, 0), (makeS (makeS l (endO (-1))).1 (endO (makeS l (endO (-1))).2.1)).2.2)
  else (setPeer (makeS (makeS l (endO (-1))).1 (endO (makeS l (endO (-1))).2.1)).1 (makeS l (endO (-1))).2.1.toNat (makeS (makeS l (endO (-1))).1 (endO (makeS l (endO (-1))).2.1)).2.1, ((makeS l (endO (-1))).2.1, (makeS (makeS l (endO (-1))).1 (endO (makeS l (endO (-1))).2.1)).2.1), 0)
def twoR (x : Int × Int) : RV := .agg [.dat (.val (.int .i64 x.1)), .dat (.val (.int .i64 x.2))]
theorem endArgs (a b : CV) (p : Int) : ArgsL [a, .rv (.agg [.dat (.val (.int .i64 4)), .esl, .esl, .dat (.val (.string ⟨#[]⟩)), .dat (.val (.int .i64 p)), .esl, .dat (.val (.int .i64 (-1))), .dat (.val (.int .i64 0)), .dat (.val (.int .i64 0))])] [a, (endO p).cv] :=
  .same _ (.agg (.cons (.same _) (.cons (.esl 1) (.cons (.esl 2) (.cons (.same _) (.cons (.same _) (.cons (.esl 4) (.cons (.same _) (.cons (.same _) (.cons (.same _) .nil))))))))) .nil)
/-! Send -/
def rowC (o : Obj) (c : CC) : List CC := [.dat (.val (.int .i64 o.kind)), .dat (.sl 1 o.data), .dat (.sl 2 o.entries), .dat (.val (.string o.target)), .dat (.val (.int .i64 o.peer)), c, .dat (.val (.int .i64 o.proc)), .dat (.val (.int .i64 o.links)), .dat (.val (.int .i64 o.up))]
theorem rowsO_at {l : List Obj} {p Q : Nat} {q : Obj} (h : l[p]? = some q) : nth (rowsO p Q 0 l) p = some (rowC q (.row Q 4 0 none)) := by
  rw [nth_eq, rowsO_get, h]
  simp [rowO, rowC]
theorem qbO_at {l : List Obj} {p : Nat} {q : Obj} (h : l[p]? = some q) : qbO l p l.length = .row 4 (dRows (q.queue.map Msg.enc)) := by
  have hp := (List.getElem?_eq_some_iff.1 h).1
  have : Nat.blt p l.length = true := by rw [Nat.blt_eq]; exact hp
  simp only [qbO, this, quO, h]
/-- the row as data, when its queue is -/
theorem frzRows {m : Mem} {Z : Nat → Prop} {id p Q : Nat} {l : List Obj} {q : Obj} {c : CC} (hz : Z id) (hb : m[id]? = some (.row 9 (setN (rowsO p Q 0 l) p (rowC q c)))) (hc : FrzD m Z (some id) c (.sl 4 (q.queue.map Msg.enc))) :
    FrzD m Z none (.row id 9 0 none) (.sl 9 ((l.set p q).map Obj.enc)) := by
  have key : ∀ (i : Nat) cs es, (setN (rowsO p Q 0 l) p (rowC q c))[i]? = some cs → ((l.set p q).map Obj.enc)[i]? = some es → (cs = rowC q c ∧ es = q.enc) ∨ ∃ o : Obj, cs = o.enc.map .dat ∧ es = o.enc := by
    intro i cs es h1 h2
    rw [setN_eq, List.getElem?_set] at h1
    rw [List.getElem?_map, List.getElem?_set] at h2
    by_cases hi : p = i
    · subst hi
      rw [if_pos rfl] at h1 h2
      split at h1
      · cases h1
        split at h2
        · cases h2
          exact .inl ⟨rfl, rfl⟩
        · cases h2
      · cases h1
    · rw [if_neg hi] at h1 h2
      rw [rowsO_get] at h1
      cases ho : l[i]? with
      | none => rw [ho] at h1; cases h1
      | some o =>
        rw [ho] at h1 h2
        cases h1
        cases h2
        refine .inr ⟨o, ?_, rfl⟩
        simp only [rowO, Nat.zero_add, if_neg (Ne.symm hi)]
        rfl
  refine .row id 9 0 none _ ((l.set p q).map Obj.enc) hz hb (by rw [setN_eq]; simp [rowsO_len]) (fun i cs es h1 h2 => ?_) (fun i cs es j cc d h1 h2 h3 h4 => ?_)
  · rcases key i cs es h1 h2 with ⟨rfl, rfl⟩ | ⟨o, rfl, rfl⟩
    · rfl
    · simp
  · rcases key i cs es h1 h2 with ⟨rfl, rfl⟩ | ⟨o, rfl, rfl⟩
    · match j, h3, h4 with
      | 0, h3, h4 => cases h3; cases h4; exact .dat _
      | 1, h3, h4 => cases h3; cases h4; exact .dat _
      | 2, h3, h4 => cases h3; cases h4; exact .dat _
      | 3, h3, h4 => cases h3; cases h4; exact .dat _
      | 4, h3, h4 => cases h3; cases h4; exact .dat _
      | 5, h3, h4 => cases h3; cases h4; exact hc
      | 6, h3, h4 => cases h3; cases h4; exact .dat _
      | 7, h3, h4 => cases h3; cases h4; exact .dat _
      | 8, h3, h4 => cases h3; cases h4; exact .dat _
      | n + 9, h3, h4 => simp [rowC] at h3
    · rw [List.getElem?_map, h4] at h3
      cases h3
      exact .dat _
def sendS (l : List Obj) (e : Int) (m : Msg) : List Obj × Int :=
  if e < 0 ∨ e ≥ l.length then ([], 8) else match l[e.toNat]? with
  | none => ([], 8)
  | some o => if o.kind ≠ 4 then ([], 8) else if o.peer < 0 ∨ o.peer ≥ l.length then ([], 17) else match l[o.peer.toNat]? with
    | none => ([], 17)
    | some q => if q.kind ≠ 4 then ([], 17) else if m.data.length > 60 then ([], 4) else if q.queue.length ≥ 4 then ([], 15) else (l.set o.peer.toNat { q with queue := q.queue ++ [m] }, 0)
def twoV (l : List Obj) (e : Int) : CV := .tup [objsR l, iRV e]
theorem frz2 {m : Mem} {a b : RV} {x : Int} (h : FrzR m a b) : FrzV m (.tup [a, iRV x]) (.tup [b, iRV x]) := by
  refine .tup rfl fun i r r' h1 h2 => ?_
  match i, h1, h2 with
  | 0, h1, h2 => cases h1; cases h2; exact h
  | 1, h1, h2 => cases h1; cases h2; exact FrzR.self rfl
theorem vw2 {σ : Nat → Nat} {m : Mem} {Z : Nat → Prop} {a b : RV} {x : Int} (h : VwR σ m Z a b) : VwV σ m Z (.tup [a, iRV x]) (.tup [b, iRV x]) := by
  refine .tup rfl fun i r r' h1 h2 => ?_
  match i, h1, h2 with
  | 0, h1, h2 => cases h1; cases h2; exact h
  | 1, h1, h2 => cases h1; cases h2; exact .one (.ren (.dat _))
/-! Delete of the first, Recv -/
def zeroM : List CC := [.esl, .dat (.val (.bool false)), .dat (.val (.int .i64 0)), .dat (.val (.int .i64 0))]
theorem noOwnRows_dRows : ∀ ds : List (List Dt), noOwnRows (dRows ds) = true
  | [] => rfl
  | d :: r => by
    have h1 : ∀ e : List Dt, noOwnL (e.map CC.dat) = true := by
      intro e
      induction e with
      | nil => rfl
      | cons x e ih => simpa [noOwnL, CC.noOwn] using ih
    have := noOwnRows_dRows r
    simp only [dRows, List.map_cons, noOwnRows] at this ⊢
    rw [h1, this]
    rfl
def delRows (x : Msg) (r : List Msg) : List (List CC) := dRows (r.map Msg.enc) ++ [zeroM]
/-! Recv -/
def msgZ : Msg := ⟨[], false, 0, 0⟩
def Msg.rv (m : Msg) : RV := .agg (m.enc.map .dat)
def recvS (l : List Obj) (e : Int) : List Obj × Msg × Int :=
  if e < 0 ∨ e ≥ l.length then ([], msgZ, 8) else match l[e.toNat]? with
  | none => ([], msgZ, 8)
  | some o => if o.kind ≠ 4 then ([], msgZ, 8) else match o.queue with
    | [] => if o.peer < 0 ∨ o.peer ≥ l.length then ([], msgZ, 17) else match l[o.peer.toNat]? with
      | none => ([], msgZ, 17)
      | some q => if q.kind ≠ 4 then ([], msgZ, 17) else ([], msgZ, 16)
    | x :: r => (l.set e.toNat { o with queue := r }, x, 0)
def threeV (x : List Obj × Msg × Int) : CV := .tup [objsR x.1, x.2.1.rv, iRV x.2.2]
theorem vw3 {σ : Nat → Nat} {m : Mem} {Z : Nat → Prop} {a b c d : RV} {x : Int} (h : VwR σ m Z a b) (hc : VwR σ m Z c d) : VwV σ m Z (.tup [a, c, iRV x]) (.tup [b, d, iRV x]) := by
  refine .tup rfl fun i r r' h1 h2 => ?_
  match i, h1, h2 with
  | 0, h1, h2 => cases h1; cases h2; exact h
  | 1, h1, h2 => cases h1; cases h2; exact hc
  | 2, h1, h2 => cases h1; cases h2; exact .one (.ren (.dat _))
theorem vwZ {σ : Nat → Nat} {m : Mem} {Z : Nat → Prop} : VwR σ m Z (.agg zeroM) msgZ.rv := by
  refine .agg rfl fun i c c' h1 h2 => ?_
  match i, h1, h2 with
  | 0, h1, h2 => cases h1; cases h2; exact .frz (.esl 1)
  | 1, h1, h2 => cases h1; cases h2; exact .ren (.dat _)
  | 2, h1, h2 => cases h1; cases h2; exact .ren (.dat _)
  | 3, h1, h2 => cases h1; cases h2; exact .ren (.dat _)
  | n + 4, h1, h2 => simp [zeroM] at h1
theorem vwMsg {σ : Nat → Nat} {m : Mem} {Z : Nat → Prop} (x : Msg) : VwR σ m Z (.agg (x.enc.map .dat)) x.rv := by
  refine .agg rfl fun i c c' h1 h2 => ?_
  rw [h1] at h2
  cases h2
  rw [List.getElem?_map] at h1
  cases hd : x.enc[i]? with
  | none => rw [hd] at h1; cases h1
  | some d =>
    rw [hd] at h1
    cases h1
    exact .ren (.dat d)
theorem frzDel {m : Mem} {Z : Nat → Prop} {p : Option Nat} {id : Nat} {x : Msg} {r : List Msg} (hz : Z id) (hb : m[id]? = some (.row 4 (delRows x r))) : FrzD m Z p (.row id 4 0 (some r.length)) (.sl 4 (r.map Msg.enc)) := by
  have h := FrzD.row (m := m) (Z := Z) (p := p) id 4 0 (some r.length) (delRows x r) (r.map Msg.enc ++ [msgZ.enc]) hz hb (by simp [delRows, dRows]) (fun i cs es h1 h2 => ?_) (fun i cs es j c d h1 h2 h3 h4 => ?_)
  · have : subL (r.map Msg.enc ++ [msgZ.enc]) 0 (some r.length) = r.map Msg.enc := by
      rw [subL_eq]
      simp
    rw [this] at h
    exact h
  · rcases Nat.lt_or_ge i r.length with hi | hi
    · rw [delRows, List.getElem?_append_left (by simpa [dRows] using hi), dRows, List.getElem?_map] at h1
      rw [List.getElem?_append_left (by simpa using hi)] at h2
      rw [h2] at h1
      cases h1
      simp
    · rw [delRows, List.getElem?_append_right (by simpa [dRows] using hi)] at h1
      rw [List.getElem?_append_right (by simpa using hi)] at h2
      have e1 : (dRows (r.map Msg.enc)).length = r.length := by simp [dRows]
      have e2 : (r.map Msg.enc).length = r.length := by simp
      rw [e1] at h1
      rw [e2] at h2
      cases hn : i - r.length with
      | zero => rw [hn] at h1 h2; cases h1; cases h2; rfl
      | succ n => rw [hn] at h1; simp at h1
  · rcases Nat.lt_or_ge i r.length with hi | hi
    · rw [delRows, List.getElem?_append_left (by simpa [dRows] using hi), dRows, List.getElem?_map] at h1
      rw [List.getElem?_append_left (by simpa using hi)] at h2
      rw [h2] at h1
      cases h1
      rw [List.getElem?_map, h4] at h3
      cases h3
      exact .dat _
    · rw [delRows, List.getElem?_append_right (by simpa [dRows] using hi)] at h1
      rw [List.getElem?_append_right (by simpa using hi)] at h2
      have e1 : (dRows (r.map Msg.enc)).length = r.length := by simp [dRows]
      have e2 : (r.map Msg.enc).length = r.length := by simp
      rw [e1] at h1
      rw [e2] at h2
      cases hn : i - r.length with
      | zero =>
        rw [hn] at h1 h2
        cases h1
        cases h2
        match j, h3, h4 with
        | 0, h3, h4 => cases h3; cases h4; exact .esl 1
        | 1, h3, h4 => cases h3; cases h4; exact .dat _
        | 2, h3, h4 => cases h3; cases h4; exact .dat _
        | 3, h3, h4 => cases h3; cases h4; exact .dat _
        | n + 4, h3, h4 => simp [zeroM] at h3
      | succ n => rw [hn] at h1; simp at h1
def c9 : LF := ⟨34, [.tmp 4], (.seq (.reg [
    ⟨(some 4), .mov (.c (.rv (.one (.dat (.val (.int .i64 (0))))))), none⟩]) (.seq (.seq (.reg [
    ⟨(some 6), .mov (.t 0), none⟩,
    ⟨(some 7), .nilc (.t 6), none⟩,
    ⟨(some 8), .fadr 0 (.t 7), none⟩,
    ⟨(some 9), .load false 1 (.t 8), none⟩,
    ⟨(some 10), .len 1 (.t 9), none⟩,
    ⟨(some 11), .bin .eql (.t 10) (.c (.rv (.one (.dat (.val (.int .i64 (0))))))), none⟩,
    ⟨(some 12), .mov (.t 11), none⟩,
    ⟨(some 13), .mov (.t 1), (some (12, false))⟩,
    ⟨(some 14), .bin .lss (.t 13) (.c (.rv (.one (.dat (.val (.int .i64 (1))))))), (some (12, false))⟩,
    ⟨(some 15), .pick (.t 12) (.c (.rv (.one (.dat (.val (.bool true)))))) (.t 14), none⟩]) (.cond (.t 15) (.seq (.reg [
    ⟨(some 4), .mov (.c (.rv (.one (.dat (.val (.int .i64 (0))))))), none⟩]) .ret) .skip)) (.seq (.reg [
    ⟨(some 16), .mov (.t 0), none⟩,
    ⟨(some 17), .nilc (.t 16), none⟩,
    ⟨(some 18), .fadr 0 (.t 17), none⟩,
    ⟨(some 19), .load false 1 (.t 18), none⟩,
    ⟨(some 20), .idx 1 (.t 19) (.c (.rv (.one (.dat (.val (.int .i64 (0))))))), none⟩,
    ⟨(some 21), .load false 1 (.t 20), none⟩,
    ⟨(some 22), .conv .i64 (.t 21), none⟩,
    ⟨(some 23), .mov (.t 1), none⟩,
    ⟨(some 24), .bin .rem (.t 22) (.t 23), none⟩,
    ⟨(some 5), .mov (.t 24), none⟩]) (.seq (.reg [
    ⟨(some 25), .mov (.t 0), none⟩,
    ⟨(some 26), .mov (.t 0), none⟩,
    ⟨(some 27), .nilc (.t 26), none⟩,
    ⟨(some 28), .fadr 0 (.t 27), none⟩,
    ⟨(some 29), .load false 1 (.t 28), none⟩,
    ⟨(some 30), .slc 1 (.t 29) (some (.c (.rv (.one (.dat (.val (.int .i64 (1)))))))) none none, none⟩,
    ⟨(some 31), .nilc (.t 25), none⟩,
    ⟨(some 32), .fadr 0 (.t 31), none⟩,
    ⟨none, .store 1 (.t 32) (.t 30), none⟩]) (.seq (.reg [
    ⟨(some 33), .mov (.t 5), none⟩,
    ⟨(some 4), .mov (.t 33), none⟩]) .ret)))))⟩
def c12 : LF := ⟨24, [.tmp 6], (.seq (.reg [
    ⟨(some 5), .box (.t 2), none⟩,
    ⟨(some 6), .mov (.c (.rv (.one .esl))), none⟩]) (.seq (.reg [
    ⟨(some 8), .bsl 9 [(.dat (.val (.int .i64 (0)))), .esl, .esl, (.dat (.val (.string ⟨#[]⟩))), (.dat (.val (.int .i64 (0)))), .esl, (.dat (.val (.int .i64 (0)))), (.dat (.val (.int .i64 (0)))), (.dat (.val (.int .i64 (0))))] 0 [], none⟩,
    ⟨(some 9), .mov (.t 0), none⟩,
    ⟨(some 10), .app 9 128 (.t 8) (.t 9), none⟩,
    ⟨(some 7), .mov (.t 10), none⟩]) (.seq (.seq (.reg [
    ⟨(some 11), .mov (.t 1), none⟩,
    ⟨(some 12), .mov (.t 7), none⟩,
    ⟨(some 13), .len 1 (.t 12), none⟩,
    ⟨(some 14), .bin .eql (.t 11) (.t 13), none⟩]) (.cond (.t 14) (.seq (.reg [
    ⟨(some 15), .mov (.t 7), none⟩,
    ⟨(some 16), .load true 9 (.t 5), none⟩,
    ⟨(some 17), .bsl 9 [(.dat (.val (.int .i64 (0)))), .esl, .esl, (.dat (.val (.string ⟨#[]⟩))), (.dat (.val (.int .i64 (0)))), .esl, (.dat (.val (.int .i64 (0)))), (.dat (.val (.int .i64 (0)))), (.dat (.val (.int .i64 (0))))] 1 [(0, (.t 16))], none⟩,
    ⟨(some 18), .app 9 128 (.t 15) (.t 17), none⟩,
    ⟨(some 6), .mov (.t 18), none⟩]) .ret) .skip)) (.seq (.reg [
    ⟨(some 19), .mov (.t 7), none⟩,
    ⟨(some 20), .mov (.t 1), none⟩,
    ⟨(some 21), .load true 9 (.t 5), none⟩,
    ⟨(some 22), .idx 9 (.t 19) (.t 20), none⟩,
    ⟨none, .store 9 (.t 22) (.t 21), none⟩]) (.seq (.reg [
    ⟨(some 23), .mov (.t 7), none⟩,
    ⟨(some 6), .mov (.t 23), none⟩]) .ret)))))⟩
/-! Parts of Build: pick, Is, With, Make of the document -/
def byD (l : List Int) : List (List Dt) := l.map fun b => [.val (.int .u8 b)]
def pickS (b : List Int) (n : Int) : Int × List Int :=
  match b with
  | [] => (0, [])
  | x :: r => if n < 1 then (0, x :: r) else ((IntKind.i64.wrap x).tmod n, r)
theorem l9 : lowF Try.prog Try.f9 = some c9 := by kernel_rfl
set_option maxRecDepth 100000 in
theorem pick_post (b : List Int) (n : Int) : ACall Try.prog 9 [.rv (.one (.ptr 0 0)), vInt .i64 n] [.var [.dat (.sl 1 (byD b))]] (fun r m => r = vInt .i64 (pickS b n).1 ∧ m = [.var [.dat (.sl 1 (byD (pickS b n).2))]]) := by
  refine acall_body Try.func9 l9 rfl (Nat.le_of_ble_eq_true rfl) ?_
  cases b with
  | nil => exact ⟨rfl, rfl⟩
  | cons x r =>
    refine bB_dec (fun h => ?_) (fun h => ?_)
    · have e : pickS (x :: r) n = (0, x :: r) := by rw [pickS, if_pos h]
      rw [e]
      exact ⟨rfl, rfl⟩
    · have e : pickS (x :: r) n = ((IntKind.i64.wrap x).tmod n, r) := by rw [pickS, if_neg h]
      rw [e]
      have hr : binV .rem (.int .i64 (IntKind.i64.wrap x)) (.int .i64 n) = some (.int .i64 ((IntKind.i64.wrap x).tmod n)) := by
        have hn : decide (n = 0) = false := decide_eq_false (by omega)
        simp [binV, hn]
      refine ok_some hr ?_
      refine bB_yes (by simp [byD, Nat.ble_eq]) ?_
      refine ⟨rfl, ?_⟩
      show [Bk.var [.dat (.sl 1 (((byD (x :: r)).take (byD (x :: r)).length).drop 1))]] = _
      rw [List.take_length]
      rfl
theorem setN_one {m : Mem} {id : Nat} {b : Bk} : weave m [id] [b] = setN m id b := by
  simp only [weave, app2_eq, List.append_nil]
theorem pick_ok (b : List Int) (n : Int) {m : Mem} {K : CV → Mem → Prop} (id : Nat) (hb : nth m id = some (.var [.dat (.sl 1 (byD b))])) (h : K (vInt .i64 (pickS b n).1) (setN m id (.var [.dat (.sl 1 (byD (pickS b n).2))]))) :
    ACall Try.prog 9 [.rv (.one (.ptr id 0)), vInt .i64 n] m K := by
  have hid : id < m.length := by
    rw [nth_eq] at hb
    exact (List.getElem?_eq_some_iff.1 hb).1
  refine acall_borrow [id] m.length rfl rfl rfl (by simp [allLt, hid]) (args0 := [.rv (.one (.ptr 0 0)), vInt .i64 n]) rfl (fun i b' hi => ?_) (pick_post b n) (fun r1 m1 hr => ?_)
  · cases i with
    | zero =>
      simp at hi
      subst hi
      refine .inr ⟨fun h => h, _, ?_, .eq rfl (by simp)⟩
      rw [nth_eq] at hb
      exact hb
    | succ i => simp at hi
  · obtain ⟨rfl, rfl⟩ := hr
    refine ⟨Nat.le_refl _, ?_⟩
    show K (vInt .i64 (pickS b n).1) (weave m [id] [.var [.dat (.sl 1 (byD (pickS b n).2))]])
    rw [setN_one]
    exact h
/-! Is -/
def isS (l : List Obj) (k kind : Int) : Bool := decide (k ≥ 0) && (decide (k < l.length) && match l[k.toNat]? with | none => false | some o => o.kind != 0 && (kind == 0 || o.kind == kind))
/-! With -/
def withS (l : List Obj) (k : Int) (o : Obj) : List Obj := if k = l.length then l ++ [o] else l.set k.toNat o
theorem l12 : lowF Try.prog Try.f12 = some c12 := by kernel_rfl
set_option maxRecDepth 100000 in
set_option maxHeartbeats 4000000 in
theorem with_body (l : List Obj) (hl : l.length ≤ 4194304) (k : Nat) (hk : k ≤ l.length) (o : Obj) : body Try.prog c12 [objsV l, vInt .i64 (k : Nat), o.cv] [] (fun r m => FrzV m r (objsV (withS l k o))) := by
  have hlen : (dRows (l.map Obj.enc)).length = l.length := by simp [dRows]
  refine ⟨?_, ?_⟩
  · show (0 + (dRows (l.map Obj.enc)).length) * 128 ≤ _
    rw [hlen]; omega
  refine bB_beq (fun h => ?_) (fun h => ?_)
  · have h : k = l.length := by
      have h : (k : Int) = ((([] : List (List CC)) ++ dRows (l.map Obj.enc)).length : Int) := h
      simp [hlen] at h
      omega
    have e : withS l k o = l ++ [o] := by rw [withS, if_pos (by omega)]
    rw [e]
    refine ⟨?_, ?_⟩
    · show ((([] : List (List CC)) ++ dRows (l.map Obj.enc)).length + 1) * 128 ≤ _
      simp [hlen]; omega
    have hfin : some (Bk.row 9 ((([] : List (List CC)) ++ dRows (l.map Obj.enc)) ++ [o.enc.map .dat])) = some (Bk.row 9 (dRows ((l ++ [o]).map Obj.enc))) := by
      rw [List.map_append, dRows_append]; rfl
    exact .rv (.one (FrzC.rowD hfin 0 none))
  · have hlt : k < l.length := by
      have h : (k : Int) ≠ ((([] : List (List CC)) ++ dRows (l.map Obj.enc)).length : Int) := h
      simp [hlen] at h
      omega
    have e : withS l k o = l.set k o := by rw [withS, if_neg (by omega), Int.toNat_natCast]
    rw [e]
    refine ok_some (idxZ_nat (k := k) (by show k < lenOf (([] : List (List CC)) ++ dRows (l.map Obj.enc)).length 0 none; simp [hlen, lenOf]; omega)) ?_
    refine ok_some (x := l[k].enc.map .dat) (by show nth (([] : List (List CC)) ++ dRows (l.map Obj.enc)) (addN 0 k) = _; simpa [addN] using dRows_nth l hlt) ?_
    have hfin : some (Bk.row 9 (setN (([] : List (List CC)) ++ dRows (l.map Obj.enc)) (addN 0 k) (o.enc.map .dat))) = some (Bk.row 9 (dRows ((l.set k o).map Obj.enc))) := by
      rw [setN_eq, ← dRows_set]
      simp [addN]
    exact .rv (.one (FrzC.rowD hfin 0 none))
set_option maxRecDepth 100000 in
theorem with_ok (l : List Obj) (hl : l.length ≤ 4194304) (k : Nat) (hk : k ≤ l.length) (o : Obj) {m : Mem} {K : CV → Mem → Prop} (h : K (objsV (withS l k o)) m) : ACall Try.prog 12 [objsV l, vInt .i64 (k : Nat), o.cv] m K :=
  acall_frame (acall_body Try.func12 l12 rfl (Nat.le_of_ble_eq_true rfl) (with_body l hl k hk o)) (by simp [objsV, vInt, Obj.cv, CV.isD, CC.isD, RV.isD]) fun r m1 hf => ⟨_, hf, h⟩

def c10 : LF := ⟨29, [.tmp 4, .tmp 5, .tmp 6], (.seq (.reg [
    ⟨(some 3), .box (.t 1), none⟩,
    ⟨(some 4), .mov (.c (.rv (.one .esl))), none⟩,
    ⟨(some 5), .mov (.c (.rv (.one (.dat (.val (.int .i64 (0))))))), none⟩,
    ⟨(some 6), .mov (.c (.rv (.one (.dat (.val (.int .i64 (0))))))), none⟩]) (.seq (.reg [
    ⟨(some 7), .mov (.c (.rv (.one (.dat (.val (.int .i64 (0))))))), none⟩]) (.seq (.block 0 (.loop (.seq (.seq (.reg [
    ⟨(some 8), .mov (.t 7), none⟩,
    ⟨(some 9), .mov (.t 0), none⟩,
    ⟨(some 10), .len 1 (.t 9), none⟩,
    ⟨(some 11), .bin .lss (.t 8) (.t 10), none⟩,
    ⟨(some 12), .mov (.t 11), none⟩,
    ⟨(some 13), .mov (.t 0), (some (12, true))⟩,
    ⟨(some 14), .mov (.t 7), (some (12, true))⟩,
    ⟨(some 15), .idx 9 (.t 13) (.t 14), (some (12, true))⟩,
    ⟨(some 16), .fadr 0 (.t 15), (some (12, true))⟩,
    ⟨(some 17), .load false 1 (.t 16), (some (12, true))⟩,
    ⟨(some 18), .bin .neq (.t 17) (.c (.rv (.one (.dat (.val (.int .i64 (0))))))), (some (12, true))⟩,
    ⟨(some 19), .pick (.t 12) (.t 18) (.c (.rv (.one (.dat (.val (.bool false)))))), none⟩]) (.cond (.t 19) .skip (.exit 0))) (.block 1 (.reg [
    ⟨(some 20), .mov (.t 7), none⟩,
    ⟨(some 21), .bin .add (.t 20) (.c (.rv (.one (.dat (.val (.int .i64 (1))))))), none⟩,
    ⟨(some 7), .mov (.t 21), none⟩]))))) (.seq (.seq (.reg [
    ⟨(some 22), .mov (.t 7), none⟩,
    ⟨(some 23), .bin .geq (.t 22) (.c (.rv (.one (.dat (.val (.int .i64 (40))))))), none⟩]) (.cond (.t 23) (.seq (.reg [
    ⟨(some 4), .mov (.c (.rv (.one .esl))), none⟩,
    ⟨(some 5), .mov (.c (.rv (.one (.dat (.val (.int .i64 (0))))))), none⟩,
    ⟨(some 6), .mov (.c (.rv (.one (.dat (.val (.int .i64 (15))))))), none⟩]) .ret) .skip)) (.seq (.reg [
    ⟨(some 24), .mov (.t 0), none⟩,
    ⟨(some 25), .mov (.t 7), none⟩,
    ⟨(some 26), .load true 9 (.t 3), none⟩,
    ⟨(some 27), .call (.c (.rv (.one (.fn 12 [])))) [(.t 24), (.t 25), (.t 26)], none⟩,
    ⟨(some 28), .mov (.t 7), none⟩,
    ⟨(some 4), .mov (.t 27), none⟩,
    ⟨(some 5), .mov (.t 28), none⟩,
    ⟨(some 6), .mov (.c (.rv (.one (.dat (.val (.int .i64 (0))))))), none⟩]) .ret)))))⟩
/-! Make, Is of the document -/
def freeK (l : List Obj) : Nat := (l.findIdx? (fun o => o.kind == 0)).getD l.length
theorem freeK_at {l : List Obj} {k : Nat} (h : k < l.length) (h0 : l[k].kind = 0) (hb : ∀ (j : Nat) o, j < k → l[j]? = some o → o.kind ≠ 0) : freeK l = k := by
  have : l.findIdx? (fun o => o.kind == 0) = some k := by
    rw [List.findIdx?_eq_some_iff_getElem]
    exact ⟨h, by simpa using h0, fun j hj => by simpa using hb j _ hj (List.getElem?_eq_getElem (by omega))⟩
  rw [freeK, this]; rfl
theorem freeK_end {l : List Obj} (hb : ∀ (j : Nat) o, j < l.length → l[j]? = some o → o.kind ≠ 0) : freeK l = l.length := by
  have : l.findIdx? (fun o => o.kind == 0) = none := by
    rw [List.findIdx?_eq_none_iff]
    intro o ho
    obtain ⟨i, hi⟩ := List.getElem?_of_mem ho
    simpa using hb i o (List.getElem?_eq_some_iff.1 hi).1 hi
  rw [freeK, this]; rfl
theorem freeK_le (l : List Obj) : freeK l ≤ l.length := by
  unfold freeK
  cases h : l.findIdx? (fun o => o.kind == 0) with
  | none => exact Nat.le_refl _
  | some k =>
    have := (List.findIdx?_eq_some_iff_getElem.1 h).1
    simp only [Option.getD_some]
    omega
def rMakeS (l : List Obj) (o : Obj) : List Obj × Int × Int := if freeK l ≥ 40 then ([], 0, 15) else (withS l (freeK l) o, freeK l, 0)
theorem l10 : lowF Try.prog Try.f10 = some c10 := by kernel_rfl
set_option maxRecDepth 100000 in
set_option maxHeartbeats 4000000 in
theorem rmake_body (l : List Obj) (hl : l.length ≤ 4194304) (o : Obj) : body Try.prog c10 [objsV l, o.cv] [] (fun r m => FrzV m r (.tup [objsR (rMakeS l o).1, iRV (rMakeS l o).2.1, iRV (rMakeS l o).2.2])) := by
  refine loop_keep (fun k => k ≤ l.length ∧ ∀ (j : Nat) o, j < k → l[j]? = some o → o.kind ≠ 0) [0, 3] (fun k => [(7, vInt .i64 (k : Nat))]) (fun _ => [.var (o.enc.map .dat)]) (fun k => l.length - k) 0 ⟨Nat.zero_le _, fun j o h => absurd h (Nat.not_lt_zero j)⟩ ?_ (fun k hk => ?_)
  · refine View.of 1 [0] [] rfl rfl rfl rfl rfl rfl ?_ ?_
    · repeat (first | exact .nil | refine .junk ?_ | refine .eq rfl ?_)
    · exact .put (notF rfl) rfl (.eq rfl (by simp)) (.nil _)
  · obtain ⟨hkl, hkb⟩ := hk
    have hkl : k ≤ l.length := hkl
    have fin : ∀ (e : freeK l = k), (k ≥ 40 → rMakeS l o = ([], 0, 15)) ∧ (¬ k ≥ 40 → rMakeS l o = (withS l k o, (k : Int), 0)) := fun e =>
      ⟨fun h => by rw [rMakeS, e, if_pos h], fun h => by rw [rMakeS, e, if_neg h]⟩
    refine bB_dec (fun h => ?_) (fun h => ?_)
    · have hlt : k < l.length := by
        have h : (k : Int) < ((l.map Obj.enc).length : Int) := h
        rw [List.length_map] at h
        omega
      have hi := List.getElem?_eq_getElem hlt
      have hg : getZ (l.map Obj.enc) (k : Nat) = some (l[k].enc) := by
        rw [getZ_nat, List.getElem?_map, hi]; rfl
      have hat := freeK_at (l := l) hlt
      generalize l[k] = x at hi hg hat
      have hg : getZ (l.map Obj.enc) (k : Nat) = some [.val (.int .i64 x.kind), .sl 1 x.data, .sl 2 x.entries, .val (.string x.target), .val (.int .i64 x.peer), .sl 4 (x.queue.map Msg.enc), .val (.int .i64 x.proc), .val (.int .i64 x.links), .val (.int .i64 x.up)] := hg
      refine ok_some hg ?_
      refine bB_bne (fun hn => ?_) (fun h0 => ?_)
      · refine ⟨k + 1, ⟨hlt, fun j y hj hy => ?_⟩, (show l.length - (k + 1) < l.length - k by omega), View.of 1 [0] [] rfl rfl rfl rfl rfl rfl ?_ ?_⟩
        · rcases Nat.lt_or_ge j k with h5 | h5
          · exact hkb j y h5 hy
          · have : j = k := by omega
            subst this
            rw [hi] at hy
            cases hy
            exact hn
        · repeat (first | exact .nil | refine .junk ?_ | refine .put (.ren (next_i64 (by omega)).symm) ?_ | refine .eq rfl ?_)
        · exact .put (notF rfl) rfl (.eq rfl (by simp)) (.nil _)
      · obtain ⟨f1, f2⟩ := fin (hat h0 hkb)
        refine bB_dec (fun h => ?_) (fun h => ?_)
        · rw [f1 (by have h : (k : Int) ≥ 40 := h; omega)]
          exact frz3 (.one (.esl 9)) (FrzR.self rfl)
        · rw [f2 (by have h : ¬ (k : Int) ≥ 40 := h; omega)]
          refine with_ok l hl k hkl o ?_
          exact frz3 (FrzR.self rfl) (FrzR.self rfl)
    · have hge : k = l.length := by
        have h : ¬ (k : Int) < ((l.map Obj.enc).length : Int) := h
        rw [List.length_map] at h
        omega
      obtain ⟨f1, f2⟩ := fin (by rw [hge]; exact freeK_end fun j o hj ho => hkb j o (by omega) ho)
      refine bB_dec (fun h => ?_) (fun h => ?_)
      · rw [f1 (by have h : (k : Int) ≥ 40 := h; omega)]
        exact frz3 (.one (.esl 9)) (FrzR.self rfl)
      · rw [f2 (by have h : ¬ (k : Int) ≥ 40 := h; omega)]
        refine with_ok l hl k hkl o ?_
        exact frz3 (FrzR.self rfl) (FrzR.self rfl)
set_option maxRecDepth 100000 in
theorem rmake_ok (l : List Obj) (hl : l.length ≤ 4194304) (o : Obj) {m : Mem} {K : CV → Mem → Prop} (h : K (.tup [objsR (rMakeS l o).1, iRV (rMakeS l o).2.1, iRV (rMakeS l o).2.2]) m) : ACall Try.prog 10 [objsV l, o.cv] m K :=
  acall_frame (acall_body Try.func10 l10 rfl (Nat.le_of_ble_eq_true rfl) (rmake_body l hl o)) (by simp [objsV, Obj.cv, CV.isD, CC.isD, RV.isD]) fun r m1 hf => ⟨_, hf, h⟩

def c16 : LF := ⟨36, [.tmp 6], (.seq (.reg [
    ⟨(some 6), .mov (.c (.rv (.one (.dat (.val (.bool false)))))), none⟩]) (.seq (.reg [
    ⟨(some 7), .mov (.t 1), none⟩,
    ⟨(some 8), .bin .geq (.t 7) (.c (.rv (.one (.dat (.val (.int .i64 (0))))))), none⟩,
    ⟨(some 9), .mov (.t 8), none⟩,
    ⟨(some 10), .mov (.t 1), (some (9, true))⟩,
    ⟨(some 11), .mov (.t 0), (some (9, true))⟩,
    ⟨(some 12), .len 1 (.t 11), (some (9, true))⟩,
    ⟨(some 13), .bin .lss (.t 10) (.t 12), (some (9, true))⟩,
    ⟨(some 14), .pick (.t 9) (.t 13) (.c (.rv (.one (.dat (.val (.bool false)))))), none⟩,
    ⟨(some 15), .mov (.t 14), none⟩,
    ⟨(some 16), .mov (.t 0), (some (15, true))⟩,
    ⟨(some 17), .mov (.t 1), (some (15, true))⟩,
    ⟨(some 18), .idx 9 (.t 16) (.t 17), (some (15, true))⟩,
    ⟨(some 19), .fadr 0 (.t 18), (some (15, true))⟩,
    ⟨(some 20), .load false 1 (.t 19), (some (15, true))⟩,
    ⟨(some 21), .bin .neq (.t 20) (.c (.rv (.one (.dat (.val (.int .i64 (0))))))), (some (15, true))⟩,
    ⟨(some 22), .pick (.t 15) (.t 21) (.c (.rv (.one (.dat (.val (.bool false)))))), none⟩,
    ⟨(some 23), .mov (.t 22), none⟩,
    ⟨(some 24), .mov (.t 2), (some (23, true))⟩,
    ⟨(some 25), .bin .eql (.t 24) (.c (.rv (.one (.dat (.val (.int .i64 (0))))))), (some (23, true))⟩,
    ⟨(some 26), .mov (.t 25), (some (23, true))⟩,
    ⟨(some 27), .mov (.t 0), (some (26, false))⟩,
    ⟨(some 28), .mov (.t 1), (some (26, false))⟩,
    ⟨(some 29), .idx 9 (.t 27) (.t 28), (some (26, false))⟩,
    ⟨(some 30), .fadr 0 (.t 29), (some (26, false))⟩,
    ⟨(some 31), .load false 1 (.t 30), (some (26, false))⟩,
    ⟨(some 32), .mov (.t 2), (some (26, false))⟩,
    ⟨(some 33), .bin .eql (.t 31) (.t 32), (some (26, false))⟩,
    ⟨(some 34), .pick (.t 26) (.c (.rv (.one (.dat (.val (.bool true)))))) (.t 33), (some (23, true))⟩,
    ⟨(some 35), .pick (.t 23) (.t 34) (.c (.rv (.one (.dat (.val (.bool false)))))), none⟩,
    ⟨(some 6), .mov (.t 35), none⟩]) .ret))⟩
theorem l16 : lowF Try.prog Try.f16 = some c16 := by kernel_rfl
set_option maxRecDepth 100000 in
set_option maxHeartbeats 4000000 in
theorem is_body (l : List Obj) (k kind : Int) : body Try.prog c16 [objsV l, vInt .i64 k, vInt .i64 kind] [] (fun r m => r = vBool (isS l k kind)) := by
  refine bB_dec (fun h0 => ?_) (fun h0 => ?_)
  · obtain ⟨n, rfl⟩ : ∃ n : Nat, k = n := ⟨k.toNat, by omega⟩
    refine bB_dec (fun h => ?_) (fun h => ?_)
    · have hlt : n < l.length := by
        have h : (n : Int) < ((l.map Obj.enc).length : Int) := h
        rw [List.length_map] at h
        omega
      have hi := List.getElem?_eq_getElem hlt
      have hS : isS l (n : Int) kind = (l[n].kind != 0 && (kind == 0 || l[n].kind == kind)) := by
        simp [isS, hlt]
      have hg : getZ (l.map Obj.enc) (n : Nat) = some (l[n].enc) := by
        rw [getZ_nat, List.getElem?_map, hi]; rfl
      generalize l[n] = x at hS hg
      have hg : getZ (l.map Obj.enc) (n : Nat) = some [.val (.int .i64 x.kind), .sl 1 x.data, .sl 2 x.entries, .val (.string x.target), .val (.int .i64 x.peer), .sl 4 (x.queue.map Msg.enc), .val (.int .i64 x.proc), .val (.int .i64 x.links), .val (.int .i64 x.up)] := hg
      refine ok_some hg ?_
      refine bB_split (fun h1 => ?_) (fun h1 => ?_)
      · refine bB_split (fun h2 => ?_) (fun h2 => ?_)
        · show vBool _ = vBool _
          rw [hS, h1, h2]; rfl
        · refine ok_some hg ?_
          show vBool _ = vBool _
          rw [hS, h1, h2]; rfl
      · show vBool _ = vBool _
        rw [hS, h1]; rfl
    · have hge : ¬ n < l.length := by
        have h : ¬ (n : Int) < ((l.map Obj.enc).length : Int) := h
        rw [List.length_map] at h
        omega
      have hS : isS l (n : Int) kind = false := by simp [isS, hge]
      show vBool _ = vBool _
      rw [hS]
  · have hS : isS l k kind = false := by
      have : decide (k ≥ 0) = false := decide_eq_false h0
      simp [isS, this]
    show vBool _ = vBool _
    rw [hS]
set_option maxRecDepth 100000 in
theorem is_ok (l : List Obj) (k kind : Int) {m : Mem} {K : CV → Mem → Prop} (h : K (vBool (isS l k kind)) m) : ACall Try.prog 16 [objsV l, vInt .i64 k, vInt .i64 kind] m K :=
  acall_val Try.func16 l16 rfl (Nat.le_of_ble_eq_true rfl) (is_body l k kind) rfl rfl h

/-! SameObject, SameObjects: of what is the same they say yes -/
theorem numsC_byD : ∀ b : List Int, numsC ((byD b).map fun ds => ds.map .dat) = some b
  | [] => rfl
  | x :: r => by
    have := numsC_byD r
    simp only [byD, List.map_cons, List.map_nil] at this ⊢
    simp only [numsC, this]
def entD (e : ByteArray × Int) : List Dt := [.val (.string e.1), .val (.int .i64 e.2)]
def Msg.typ (q : Msg) : Prop := ∃ b : List Int, q.data = byD b
def Obj.typ (o : Obj) : Prop := (∃ b : List Int, o.data = byD b) ∧ (∃ es : List (ByteArray × Int), o.entries = es.map entD) ∧ ∀ q, q ∈ o.queue → q.typ
def c13 : LF := ⟨47, [.tmp 2, .cell true 2 3, .tmp 4], (.seq (.reg [
    ⟨(some 2), .mov (.c (.rv (.one .esl))), none⟩,
    ⟨(some 3), .alloc [(.dat (.val (.int .i64 (0)))), (.dat (.val (.int .i64 (0))))], none⟩,
    ⟨(some 4), .mov (.c (.rv (.one (.dat (.val (.int .i64 (0))))))), none⟩]) (.seq (.reg [
    ⟨(some 12), .mov (.t 0), none⟩,
    ⟨(some 13), .build [(.dat (.val (.int .i64 (0)))), .esl, .esl, (.dat (.val (.string ⟨#[]⟩))), (.dat (.val (.int .i64 (0)))), .esl, (.dat (.val (.int .i64 (0)))), (.dat (.val (.int .i64 (0)))), (.dat (.val (.int .i64 (0))))] [(0, 1, (.c (.rv (.one (.dat (.val (.int .i64 (4)))))))), (4, 1, (.c (.rv (.one (.dat (.val (.int .i64 (-1)))))))), (6, 1, (.c (.rv (.one (.dat (.val (.int .i64 (-1))))))))], none⟩,
    ⟨(some 14), .call (.c (.rv (.one (.fn 10 [])))) [(.t 12), (.t 13)], none⟩,
    ⟨(some 11), .mov (.t 14), none⟩,
    ⟨(some 15), .ext (.t 11) 0, none⟩,
    ⟨(some 16), .ext (.t 11) 1, none⟩,
    ⟨(some 17), .ext (.t 11) 2, none⟩,
    ⟨(some 5), .mov (.t 15), none⟩,
    ⟨(some 6), .mov (.t 16), none⟩,
    ⟨(some 7), .mov (.t 17), none⟩]) (.seq (.seq (.reg [
    ⟨(some 18), .mov (.t 7), none⟩,
    ⟨(some 19), .bin .neq (.t 18) (.c (.rv (.one (.dat (.val (.int .i64 (0))))))), none⟩]) (.cond (.t 19) (.seq (.reg [
    ⟨(some 20), .build [(.dat (.val (.int .i64 (0)))), (.dat (.val (.int .i64 (0))))] [], none⟩,
    ⟨(some 21), .mov (.t 7), none⟩,
    ⟨(some 2), .mov (.c (.rv (.one .esl))), none⟩,
    ⟨none, .store 2 (.t 3) (.t 20), none⟩,
    ⟨(some 4), .mov (.t 21), none⟩]) .ret) .skip)) (.seq (.reg [
    ⟨(some 23), .mov (.t 5), none⟩,
    ⟨(some 24), .mov (.t 6), none⟩,
    ⟨(some 25), .build [(.dat (.val (.int .i64 (0)))), .esl, .esl, (.dat (.val (.string ⟨#[]⟩))), (.dat (.val (.int .i64 (0)))), .esl, (.dat (.val (.int .i64 (0)))), (.dat (.val (.int .i64 (0)))), (.dat (.val (.int .i64 (0))))] [(0, 1, (.c (.rv (.one (.dat (.val (.int .i64 (4)))))))), (4, 1, (.t 24)), (6, 1, (.c (.rv (.one (.dat (.val (.int .i64 (-1))))))))], none⟩,
    ⟨(some 26), .call (.c (.rv (.one (.fn 10 [])))) [(.t 23), (.t 25)], none⟩,
    ⟨(some 22), .mov (.t 26), none⟩,
    ⟨(some 27), .ext (.t 22) 0, none⟩,
    ⟨(some 28), .ext (.t 22) 1, none⟩,
    ⟨(some 29), .ext (.t 22) 2, none⟩,
    ⟨(some 8), .mov (.t 27), none⟩,
    ⟨(some 9), .mov (.t 28), none⟩,
    ⟨(some 7), .mov (.t 29), none⟩]) (.seq (.seq (.reg [
    ⟨(some 30), .mov (.t 7), none⟩,
    ⟨(some 31), .bin .neq (.t 30) (.c (.rv (.one (.dat (.val (.int .i64 (0))))))), none⟩]) (.cond (.t 31) (.seq (.reg [
    ⟨(some 32), .build [(.dat (.val (.int .i64 (0)))), (.dat (.val (.int .i64 (0))))] [], none⟩,
    ⟨(some 33), .mov (.t 7), none⟩,
    ⟨(some 2), .mov (.c (.rv (.one .esl))), none⟩,
    ⟨none, .store 2 (.t 3) (.t 32), none⟩,
    ⟨(some 4), .mov (.t 33), none⟩]) .ret) .skip)) (.seq (.reg [
    ⟨(some 34), .mov (.t 8), none⟩,
    ⟨(some 35), .mov (.t 6), none⟩,
    ⟨(some 36), .idx 9 (.t 34) (.t 35), none⟩,
    ⟨(some 37), .load true 9 (.t 36), none⟩,
    ⟨(some 10), .alloc [(.dat (.val (.int .i64 (0)))), .esl, .esl, (.dat (.val (.string ⟨#[]⟩))), (.dat (.val (.int .i64 (0)))), .esl, (.dat (.val (.int .i64 (0)))), (.dat (.val (.int .i64 (0)))), (.dat (.val (.int .i64 (0))))], none⟩,
    ⟨none, .store 9 (.t 10) (.t 37), none⟩]) (.seq (.reg [
    ⟨(some 38), .mov (.t 9), none⟩,
    ⟨(some 39), .fadr 4 (.t 10), none⟩,
    ⟨none, .store 1 (.t 39) (.t 38), none⟩]) (.seq (.reg [
    ⟨(some 40), .mov (.t 8), none⟩,
    ⟨(some 41), .mov (.t 6), none⟩,
    ⟨(some 42), .load true 9 (.t 10), none⟩,
    ⟨(some 43), .call (.c (.rv (.one (.fn 12 [])))) [(.t 40), (.t 41), (.t 42)], none⟩,
    ⟨(some 44), .mov (.t 6), none⟩,
    ⟨(some 45), .mov (.t 9), none⟩,
    ⟨(some 46), .build [(.dat (.val (.int .i64 (0)))), (.dat (.val (.int .i64 (0))))] [(0, 1, (.t 44)), (1, 1, (.t 45))], none⟩,
    ⟨(some 2), .mov (.t 43), none⟩,
    ⟨none, .store 2 (.t 3) (.t 46), none⟩,
    ⟨(some 4), .mov (.c (.rv (.one (.dat (.val (.int .i64 (0))))))), none⟩]) .ret))))))))⟩
/-! Pair, Send, Recv of the document -/
theorem rMake_eq (l : List Obj) (hl : l.length ≤ 40) (o : Obj) : rMakeS l o = makeS l o := by
  unfold rMakeS makeS freeK
  cases h : l.findIdx? (fun x => x.kind == 0) with
  | some k =>
    have hk := (List.findIdx?_eq_some_iff_getElem.1 h).1
    simp only [Option.getD_some]
    rw [if_neg (by omega), withS, if_neg (by omega)]
    simp
  | none =>
    simp only [Option.getD_none]
    by_cases h40 : l.length ≥ 40
    · rw [if_pos h40, if_pos h40]
    · rw [if_neg h40, if_neg h40, withS, if_pos rfl]
theorem make_len {l : List Obj} (hl : l.length ≤ 40) (o : Obj) : (makeS l o).1.length ≤ 40 := by
  unfold makeS
  cases l.findIdx? (fun x => x.kind == 0) with
  | some k => simpa using hl
  | none =>
    by_cases h40 : l.length ≥ 40
    · rw [if_pos h40]; simp
    · rw [if_neg h40]; simp; omega
theorem rm_ok (l : List Obj) (hl : l.length ≤ 40) (o : Obj) {m : Mem} {K : CV → Mem → Prop} (h : K (.tup [objsR (makeS l o).1, iRV (makeS l o).2.1, iRV (makeS l o).2.2]) m) : ACall Try.prog 10 [objsV l, o.cv] m K :=
  rmake_ok l (by omega) o (by rw [rMake_eq l hl]; exact h)
theorem obj_get {l : List Obj} {k : Nat} (h : k < l.length) : getZ (l.map Obj.enc) (k : Nat) = some [.val (.int .i64 l[k].kind), .sl 1 l[k].data, .sl 2 l[k].entries, .val (.string l[k].target), .val (.int .i64 l[k].peer), .sl 4 (l[k].queue.map Msg.enc), .val (.int .i64 l[k].proc), .val (.int .i64 l[k].links), .val (.int .i64 l[k].up)] := by
  rw [getZ_nat, List.getElem?_map, List.getElem?_eq_getElem h]; rfl
theorem l13 : lowF Try.prog Try.f13 = some c13 := by kernel_rfl
set_option maxRecDepth 100000 in
set_option maxHeartbeats 8000000 in
theorem rpair_body (l : List Obj) (hf : fitL l) (hl40 : l.length ≤ 40) : body Try.prog c13 [objsV l] [] (fun r m => FrzV m r (.tup [objsR (pairS l).1, twoR (pairS l).2.1, iRV (pairS l).2.2])) := by
  refine acall_le (endArgs _ (.junk) _) (rm_ok l hl40 (endO (-1)) ?_)
  have hp : pairS l = if (makeS l (endO (-1))).2.2 ≠ 0 then ([], (0, 0), (makeS l (endO (-1))).2.2)
      else if (makeS (makeS l (endO (-1))).1 (endO (makeS l (endO (-1))).2.1)).2.2 ≠ 0 then ([], (0, 0), (makeS (makeS l (endO (-1))).1 (endO (makeS l (endO (-1))).2.1)).2.2)
      else (setPeer (makeS (makeS l (endO (-1))).1 (endO (makeS l (endO (-1))).2.1)).1 (makeS l (endO (-1))).2.1.toNat (makeS (makeS l (endO (-1))).1 (endO (makeS l (endO (-1))).2.1)).2.1, ((makeS l (endO (-1))).2.1, (makeS (makeS l (endO (-1))).1 (endO (makeS l (endO (-1))).2.1)).2.1), 0) := rfl
  have hlen1 := make_len hl40 (endO (-1))
  generalize hx : makeS l (endO (-1)) = x at hp hlen1
  obtain ⟨l1, a, e1⟩ := x
  have hlen1 : l1.length ≤ 40 := hlen1
  refine bB_bne (fun h => ?_) (fun h => ?_)
  · have h : e1 ≠ 0 := h
    rw [hp]
    simp only
    rw [if_pos h]
    exact frz3 (.one (.esl 9)) (FrzR.self rfl)
  · have h : e1 = 0 := h
    subst h
    have hat := make_at (l := l) (o := endO (-1)) (by rw [hx])
    rw [hx] at hat
    obtain ⟨ka, hka, hka2, hka3, hka4, _⟩ := hat
    have hka : a = (ka : Int) := hka
    have hka2 : ka < l1.length := hka2
    subst hka
    simp only [ne_eq, not_true, if_false, Int.toNat_natCast] at hp
    refine acall_le (endArgs _ (.junk) _) (rm_ok l1 hlen1 (endO ka) ?_)
    have hlen2 := make_len hlen1 (endO ka)
    have hat : (makeS l1 (endO ka)).2.2 = 0 → _ := make_at (l := l1) (o := endO ka)
    generalize hy : makeS l1 (endO ka) = y at hp hlen2 hat
    obtain ⟨l2, b, e2⟩ := y
    have hlen2 : l2.length ≤ 40 := hlen2
    refine bB_bne (fun h => ?_) (fun h => ?_)
    · have h : e2 ≠ 0 := h
      rw [if_pos h] at hp
      rw [hp]
      exact frz3 (.one (.esl 9)) (FrzR.self rfl)
    · have h : e2 = 0 := h
      subst h
      obtain ⟨kb, hkb, hkb2, hkb3, hkb4, _⟩ := hat rfl
      have hkb4 : l1.length ≤ l2.length := hkb4
      have hlt : ka < l2.length := by omega
      simp only [not_true, if_false] at hp
      refine ok_some (obj_get hlt) ?_
      refine with_ok l2 (by omega) ka (by omega) { l2[ka] with peer := b } ?_
      have hset : setPeer l2 ka b = withS l2 ka { l2[ka] with peer := b } := by
        rw [withS, if_neg (by omega)]
        simp [setPeer, List.getElem?_eq_getElem hlt]
      rw [hp, hset]
      exact frz3 (FrzR.self rfl) (FrzR.self rfl)
set_option maxRecDepth 100000 in
theorem rpair_ok (l : List Obj) (hf : fitL l) (hl : l.length ≤ 40) {m : Mem} {K : CV → Mem → Prop} (h : K (.tup [objsR (pairS l).1, twoR (pairS l).2.1, iRV (pairS l).2.2]) m) : ACall Try.prog 13 [objsV l] m K :=
  acall_frame (acall_body Try.func13 l13 rfl (Nat.le_of_ble_eq_true rfl) (rpair_body l hf hl)) (by simp [objsV, CV.isD, CC.isD]) fun r m1 hfz => ⟨_, hfz, h⟩
/-! Send -/
theorem is4_yes {l : List Obj} {k c : Int} (hc : c ≠ 0) (h : isS l k c = true) : ∃ n : Nat, k = n ∧ ∃ hn : n < l.length, l[n].kind = c := by
  unfold isS at h
  by_cases h0 : k ≥ 0
  · obtain ⟨n, rfl⟩ : ∃ n : Nat, k = n := ⟨k.toNat, by omega⟩
    by_cases hn : n < l.length
    · refine ⟨n, rfl, hn, ?_⟩
      simp [hn, hc] at h
      exact h.2
    · simp [hn] at h
  · simp [h0] at h
theorem is4_no {l : List Obj} {k c : Int} (hc : c ≠ 0) (h : isS l k c = false) {n : Nat} (hk : k = n) (hn : n < l.length) : l[n].kind ≠ c := by
  subst hk
  intro hkc
  rw [isS] at h
  simp [hn, hkc, hc] at h
theorem sendS_1 {l : List Obj} {e : Int} (h : isS l e 4 = false) (q : Msg) : sendS l e q = ([], 8) := by
  unfold sendS
  by_cases c : e < 0 ∨ e ≥ l.length
  · rw [if_pos c]
  · obtain ⟨n, rfl⟩ : ∃ n : Nat, e = n := ⟨e.toNat, by omega⟩
    have hn : n < l.length := by omega
    rw [if_neg c]
    simp only [Int.toNat_natCast, List.getElem?_eq_getElem hn]
    rw [if_pos (is4_no (by decide) h rfl hn)]
theorem sendS_2 {l : List Obj} {n : Nat} (hn : n < l.length) (hk : l[n].kind = 4) (h : isS l l[n].peer 4 = false) (q : Msg) : sendS l n q = ([], 17) := by
  unfold sendS
  rw [if_neg (by omega)]
  simp only [Int.toNat_natCast, List.getElem?_eq_getElem hn]
  rw [if_neg (by rw [hk]; simp)]
  by_cases c : l[n].peer < 0 ∨ l[n].peer ≥ l.length
  · rw [if_pos c]
  · rw [if_neg c]
    obtain ⟨p, hp⟩ : ∃ p : Nat, l[n].peer = p := ⟨l[n].peer.toNat, by omega⟩
    have hpn : p < l.length := by omega
    simp only [hp, Int.toNat_natCast, List.getElem?_eq_getElem hpn]
    rw [if_pos (is4_no (by decide) h hp hpn)]
theorem sendS_3 {l : List Obj} {n p : Nat} (hn : n < l.length) (hk : l[n].kind = 4) (hp : l[n].peer = p) (hpn : p < l.length) (hpk : l[p].kind = 4) (q : Msg) :
    sendS l n q = if q.data.length > 60 then ([], 4) else if l[p].queue.length ≥ 4 then ([], 15) else (l.set p { l[p] with queue := l[p].queue ++ [q] }, 0) := by
  unfold sendS
  rw [if_neg (by omega)]
  simp only [Int.toNat_natCast, List.getElem?_eq_getElem hn]
  rw [if_neg (by rw [hk]; simp), hp, if_neg (by omega)]
  simp only [Int.toNat_natCast, List.getElem?_eq_getElem hpn]
  rw [if_neg (by rw [hpk]; simp)]
inductive CcsVw (σ : Nat → Nat) (m : Mem) (Z : Nat → Prop) : List CC → List CC → Prop
  | nil : CcsVw σ m Z [] []
  | cons {c c' : CC} {r r' : List CC} (h : VwC σ m Z none c c') (hr : CcsVw σ m Z r r') : CcsVw σ m Z (c :: r) (c' :: r')
theorem CcsVw.len {σ : Nat → Nat} {m : Mem} {Z : Nat → Prop} {cs cs' : List CC} (h : CcsVw σ m Z cs cs') : cs.length = cs'.length := by
  induction h <;> simp [*]
theorem CcsVw.get {σ : Nat → Nat} {m : Mem} {Z : Nat → Prop} {cs cs' : List CC} (h : CcsVw σ m Z cs cs') : ∀ (i : Nat) c c', cs[i]? = some c → cs'[i]? = some c' → VwC σ m Z none c c' := by
  induction h with
  | nil => intro i c c' h; simp at h
  | cons h hr ih =>
    intro i c c' h1 h2
    cases i with
    | zero => simp at h1 h2; subst h1 h2; exact h
    | succ i => exact ih i c c' (by simpa using h1) (by simpa using h2)
theorem CcsVw.agg {σ : Nat → Nat} {m : Mem} {Z : Nat → Prop} {cs cs' : List CC} (h : CcsVw σ m Z cs cs') : VwV σ m Z (.rv (.agg cs)) (.rv (.agg cs')) := .rv (.agg h.len h.get)
theorem msgRows (q : List Msg) (x : Msg) : dRows (q.map Msg.enc) ++ [x.enc.map .dat] = dRows ((q ++ [x]).map Msg.enc) := by
  rw [List.map_append, dRows_append]; rfl
/-! Recv -/
theorem recvS_1 {l : List Obj} {e : Int} (h : isS l e 4 = false) : recvS l e = ([], msgZ, 8) := by
  unfold recvS
  by_cases c : e < 0 ∨ e ≥ l.length
  · rw [if_pos c]
  · obtain ⟨n, rfl⟩ : ∃ n : Nat, e = n := ⟨e.toNat, by omega⟩
    have hn : n < l.length := by omega
    rw [if_neg c]
    simp only [Int.toNat_natCast, List.getElem?_eq_getElem hn]
    rw [if_pos (is4_no (by decide) h rfl hn)]
theorem recvS_n {l : List Obj} {n : Nat} (hn : n < l.length) (hk : l[n].kind = 4) : recvS l n = match l[n].queue with
    | [] => if isS l l[n].peer 4 = true then ([], msgZ, 16) else ([], msgZ, 17)
    | x :: r => (l.set n { l[n] with queue := r }, x, 0) := by
  unfold recvS
  rw [if_neg (by omega)]
  simp only [Int.toNat_natCast, List.getElem?_eq_getElem hn]
  rw [if_neg (by rw [hk]; simp)]
  cases l[n].queue with
  | cons x r => rfl
  | nil =>
    simp only
    by_cases c : l[n].peer < 0 ∨ l[n].peer ≥ l.length
    · rw [if_pos c]
      rw [if_neg]
      intro h
      obtain ⟨p, hp, hpn, _⟩ := is4_yes (by decide) h
      omega
    · rw [if_neg c]
      obtain ⟨p, hp⟩ : ∃ p : Nat, l[n].peer = p := ⟨l[n].peer.toNat, by omega⟩
      have hpn : p < l.length := by omega
      simp only [hp, Int.toNat_natCast, List.getElem?_eq_getElem hpn]
      by_cases h : isS l (p : Int) 4 = true
      · obtain ⟨p2, hp2, hpn2, hpk⟩ := is4_yes (by decide) h
        have : p = p2 := by omega
        subst this
        rw [if_pos h, if_neg (by rw [hpk]; simp)]
      · rw [Bool.not_eq_true] at h
        rw [h, if_pos (is4_no (by decide) h rfl hpn)]
        simp
def c23 : LF := ⟨54, [.tmp 2], (.seq (.reg [
    ⟨(some 2), .mov (.c (.rv (.one (.dat (.val (.bool false)))))), none⟩]) (.seq (.seq (.reg [
    ⟨(some 5), .mov (.t 0), none⟩,
    ⟨(some 6), .len 0 (.t 5), none⟩,
    ⟨(some 7), .mov (.c (.rv (.one (.dat (.val (.int .i64 (0))))))), none⟩]) (.block 0 (.loop (.seq (.reg [
    ⟨(some 8), .bin .lss (.t 7) (.t 6), none⟩]) (.seq (.cond (.t 8) .skip (.exit 0)) (.seq (.block 1 (.seq (.reg [
    ⟨(some 9), .mov (.t 7), none⟩,
    ⟨(some 3), .mov (.t 9), none⟩]) (.seq (.reg [
    ⟨(some 10), .mov (.t 0), none⟩,
    ⟨(some 11), .mov (.t 3), none⟩,
    ⟨(some 12), .sidx (.t 10) (.t 11), none⟩,
    ⟨(some 4), .mov (.t 12), none⟩]) (.seq (.reg [
    ⟨(some 13), .mov (.t 4), none⟩,
    ⟨(some 14), .bin .geq (.t 13) (.c (.rv (.one (.dat (.val (.int .u8 (97))))))), none⟩,
    ⟨(some 15), .mov (.t 14), none⟩,
    ⟨(some 16), .mov (.t 4), (some (15, true))⟩,
    ⟨(some 17), .bin .leq (.t 16) (.c (.rv (.one (.dat (.val (.int .u8 (122))))))), (some (15, true))⟩,
    ⟨(some 18), .pick (.t 15) (.t 17) (.c (.rv (.one (.dat (.val (.bool false)))))), none⟩,
    ⟨(some 19), .un .not (.t 18), none⟩,
    ⟨(some 20), .mov (.t 19), none⟩,
    ⟨(some 21), .mov (.t 4), (some (20, true))⟩,
    ⟨(some 22), .bin .geq (.t 21) (.c (.rv (.one (.dat (.val (.int .u8 (48))))))), (some (20, true))⟩,
    ⟨(some 23), .mov (.t 22), (some (20, true))⟩,
    ⟨(some 24), .mov (.t 4), (some (23, true))⟩,
    ⟨(some 25), .bin .leq (.t 24) (.c (.rv (.one (.dat (.val (.int .u8 (57))))))), (some (23, true))⟩,
    ⟨(some 26), .pick (.t 23) (.t 25) (.c (.rv (.one (.dat (.val (.bool false)))))), (some (20, true))⟩,
    ⟨(some 27), .un .not (.t 26), (some (20, true))⟩,
    ⟨(some 28), .pick (.t 20) (.t 27) (.c (.rv (.one (.dat (.val (.bool false)))))), none⟩,
    ⟨(some 29), .mov (.t 28), none⟩,
    ⟨(some 30), .mov (.t 4), (some (29, true))⟩,
    ⟨(some 31), .bin .neq (.t 30) (.c (.rv (.one (.dat (.val (.int .u8 (46))))))), (some (29, true))⟩,
    ⟨(some 32), .pick (.t 29) (.t 31) (.c (.rv (.one (.dat (.val (.bool false)))))), none⟩,
    ⟨(some 33), .mov (.t 32), none⟩,
    ⟨(some 34), .mov (.t 4), (some (33, true))⟩,
    ⟨(some 35), .bin .neq (.t 34) (.c (.rv (.one (.dat (.val (.int .u8 (95))))))), (some (33, true))⟩,
    ⟨(some 36), .pick (.t 33) (.t 35) (.c (.rv (.one (.dat (.val (.bool false)))))), none⟩]) (.cond (.t 36) (.seq (.reg [
    ⟨(some 2), .mov (.c (.rv (.one (.dat (.val (.bool false)))))), none⟩]) .ret) .skip))))) (.reg [
    ⟨(some 37), .bin .add (.t 7) (.c (.rv (.one (.dat (.val (.int .i64 (1))))))), none⟩,
    ⟨(some 7), .mov (.t 37), none⟩]))))))) (.seq (.reg [
    ⟨(some 38), .mov (.t 0), none⟩,
    ⟨(some 39), .len 0 (.t 38), none⟩,
    ⟨(some 40), .bin .gtr (.t 39) (.c (.rv (.one (.dat (.val (.int .i64 (0))))))), none⟩,
    ⟨(some 41), .mov (.t 40), none⟩,
    ⟨(some 42), .mov (.t 0), (some (41, true))⟩,
    ⟨(some 43), .len 0 (.t 42), (some (41, true))⟩,
    ⟨(some 44), .bin .leq (.t 43) (.c (.rv (.one (.dat (.val (.int .i64 (12))))))), (some (41, true))⟩,
    ⟨(some 45), .pick (.t 41) (.t 44) (.c (.rv (.one (.dat (.val (.bool false)))))), none⟩,
    ⟨(some 46), .mov (.t 45), none⟩,
    ⟨(some 47), .mov (.t 0), (some (46, true))⟩,
    ⟨(some 48), .bin .neq (.t 47) (.c (.rv (.one (.dat (.val (.string ⟨#[46]⟩)))))), (some (46, true))⟩,
    ⟨(some 49), .pick (.t 46) (.t 48) (.c (.rv (.one (.dat (.val (.bool false)))))), none⟩,
    ⟨(some 50), .mov (.t 49), none⟩,
    ⟨(some 51), .mov (.t 0), (some (50, true))⟩,
    ⟨(some 52), .bin .neq (.t 51) (.c (.rv (.one (.dat (.val (.string ⟨#[46, 46]⟩)))))), (some (50, true))⟩,
    ⟨(some 53), .pick (.t 50) (.t 52) (.c (.rv (.one (.dat (.val (.bool false)))))), none⟩,
    ⟨(some 2), .mov (.t 53), none⟩]) .ret)))⟩
def c24 : LF := ⟨30, [.tmp 6], (.seq (.reg [
    ⟨(some 6), .mov (.c (.rv (.one (.dat (.val (.int .i64 (0))))))), none⟩]) (.seq (.seq (.reg [
    ⟨(some 9), .mov (.t 0), none⟩,
    ⟨(some 10), .mov (.t 1), none⟩,
    ⟨(some 11), .call (.c (.rv (.one (.fn 16 [])))) [(.t 9), (.t 10), (.c (.rv (.one (.dat (.val (.int .i64 (2)))))))], none⟩,
    ⟨(some 12), .un .not (.t 11), none⟩]) (.cond (.t 12) (.seq (.reg [
    ⟨(some 6), .mov (.c (.rv (.one (.dat (.val (.int .i64 (-1))))))), none⟩]) .ret) .skip)) (.seq (.seq (.reg [
    ⟨(some 13), .mov (.t 0), none⟩,
    ⟨(some 14), .mov (.t 1), none⟩,
    ⟨(some 15), .idx 9 (.t 13) (.t 14), none⟩,
    ⟨(some 16), .fadr 2 (.t 15), none⟩,
    ⟨(some 17), .load false 1 (.t 16), none⟩,
    ⟨(some 18), .len 1 (.t 17), none⟩,
    ⟨(some 19), .mov (.c (.rv (.one (.dat (.val (.int .i64 (0))))))), none⟩]) (.block 0 (.loop (.seq (.reg [
    ⟨(some 20), .bin .lss (.t 19) (.t 18), none⟩]) (.seq (.cond (.t 20) .skip (.exit 0)) (.seq (.block 1 (.seq (.reg [
    ⟨(some 21), .idx 2 (.t 17) (.t 19), none⟩,
    ⟨(some 22), .load true 2 (.t 21), none⟩,
    ⟨(some 8), .alloc [(.dat (.val (.string ⟨#[]⟩))), (.dat (.val (.int .i64 (0))))], none⟩,
    ⟨none, .store 2 (.t 8) (.t 22), none⟩]) (.seq (.reg [
    ⟨(some 23), .fadr 0 (.t 8), none⟩,
    ⟨(some 24), .load false 1 (.t 23), none⟩,
    ⟨(some 25), .mov (.t 2), none⟩,
    ⟨(some 26), .bin .eql (.t 24) (.t 25), none⟩]) (.cond (.t 26) (.seq (.reg [
    ⟨(some 27), .fadr 1 (.t 8), none⟩,
    ⟨(some 28), .load false 1 (.t 27), none⟩,
    ⟨(some 6), .mov (.t 28), none⟩]) .ret) .skip)))) (.reg [
    ⟨(some 29), .bin .add (.t 19) (.c (.rv (.one (.dat (.val (.int .i64 (1))))))), none⟩,
    ⟨(some 19), .mov (.t 29), none⟩]))))))) (.seq (.reg [
    ⟨(some 6), .mov (.c (.rv (.one (.dat (.val (.int .i64 (-1))))))), none⟩]) .ret))))⟩
/-! Name, Find, Enter of the document: what they say fits -/
theorem l23 : lowF Try.prog Try.f23 = some c23 := by kernel_rfl
set_option maxRecDepth 100000 in
set_option maxHeartbeats 8000000 in
theorem name_body (s : ByteArray) (hs : s.size ≤ 4194304) : body Try.prog c23 [vStr s] [] (fun r m => ∃ b, r = vBool b) := by
  refine loop_keep (fun k => k ≤ s.size) [0, 6] (fun k => [(7, vInt .i64 (k : Nat))]) (fun _ => []) (fun k => s.size - k) 0 (Nat.zero_le _) ?_ (fun k hk => ?_)
  · refine View.of 0 [] [] rfl rfl rfl rfl rfl rfl ?_ (.nil _)
    repeat (first | exact .nil | refine .junk ?_ | refine .eq rfl ?_)
  have hk : k ≤ s.size := hk
  refine bB_dec (fun h => ?_) (fun h => ?_)
  · have hlt : k < s.size := by
      have h : (k : Int) < (s.size : Int) := h
      omega
    obtain ⟨c, hc⟩ : ∃ c, getZ s.data.toList (k : Nat) = some c := by
      rw [getZ_nat]
      have : k < s.data.toList.length := by simpa using hlt
      exact ⟨_, List.getElem?_eq_getElem this⟩
    refine ok_some hc ?_
    repeat' refine bB_split (fun _ => ?_) (fun _ => ?_)
    all_goals first
      | exact ⟨_, rfl⟩
      | (refine ⟨k + 1, hlt, (show s.size - (k + 1) < s.size - k by omega), View.of 0 [] [] rfl rfl rfl rfl rfl rfl ?_ (.nil _)⟩
         repeat (first | exact .nil | refine .junk ?_ | refine .put (.ren (next_i64 (by omega)).symm) ?_ | refine .eq rfl ?_))
  · repeat' refine bB_split (fun _ => ?_) (fun _ => ?_)
    all_goals exact ⟨_, rfl⟩
set_option maxRecDepth 100000 in
theorem name_ok (s : ByteArray) (hs : s.size ≤ 4194304) {m : Mem} {K : CV → Mem → Prop} (h : ∀ b, K (vBool b) m) : ACall Try.prog 23 [vStr s] m K := by
  refine acall_frame (K0 := fun r _ => ∃ b, r = vBool b) (acall_body Try.func23 l23 rfl (Nat.le_of_ble_eq_true rfl) (name_body s hs)) (by simp [vStr, CV.isD, CC.isD, RV.isD]) fun r m1 hr => ?_
  obtain ⟨b, rfl⟩ := hr
  exact ⟨_, FrzV.self rfl, h b⟩
theorem is0_yes {l : List Obj} {k : Int} (h : isS l k 0 = true) : ∃ n : Nat, k = n ∧ n < l.length := by
  unfold isS at h
  by_cases h0 : k ≥ 0
  · obtain ⟨n, rfl⟩ : ∃ n : Nat, k = n := ⟨k.toNat, by omega⟩
    by_cases hn : n < l.length
    · exact ⟨n, rfl, hn⟩
    · simp [hn] at h
  · simp [h0] at h
/-- small, and of the right shape -/
structure Obj.sm (o : Obj) : Prop where
  t : o.typ
  d : o.data.length ≤ 64
  e : o.entries.length ≤ 8
  q : o.queue.length ≤ 8
  qd : ∀ q, q ∈ o.queue → q.data.length ≤ 64
theorem Obj.sm.fit {o : Obj} (h : o.sm) : o.fit := ⟨by have := h.d; omega, by have := h.e; omega, by have := h.q; omega, fun q hq => by have := h.qd q hq; omega⟩
structure GoodL (l : List Obj) : Prop where
  len : l.length ≤ 40
  sm : ∀ o, o ∈ l → o.sm
  root : ∃ o, l[0]? = some o ∧ o.kind = 2
theorem GoodL.fit {l : List Obj} (h : GoodL l) : fitL l := ⟨by have := h.len; omega, fun o ho => (h.sm o ho).fit⟩
theorem GoodL.set {l : List Obj} (h : GoodL l) {n : Nat} {o : Obj} (ho : o.sm) (hn : n < l.length) (hk : o.kind = l[n].kind) : GoodL (l.set n o) := by
  refine ⟨by simpa using h.len, fun x hx => ?_, ?_⟩
  · rcases List.mem_or_eq_of_mem_set hx with hx | rfl
    · exact h.sm x hx
    · exact ho
  · obtain ⟨r, hr, hr2⟩ := h.root
    by_cases h0 : n = 0
    · subst h0
      refine ⟨o, by simp [hn], ?_⟩
      rw [hk]
      rw [List.getElem?_eq_getElem hn] at hr
      cases hr
      exact hr2
    · exact ⟨r, by rw [List.getElem?_set_ne (by omega)]; exact hr, hr2⟩
theorem l24 : lowF Try.prog Try.f24 = some c24 := by kernel_rfl
theorem ent_get {es : List (ByteArray × Int)} {k : Nat} (h : k < es.length) : getZ (es.map entD) (k : Nat) = some [.val (.string es[k].1), .val (.int .i64 es[k].2)] := by
  rw [getZ_nat, List.getElem?_map, List.getElem?_eq_getElem h]; rfl
set_option maxRecDepth 100000 in
set_option maxHeartbeats 8000000 in
theorem find_body (l : List Obj) (hg : GoodL l) (dir : Int) (name : ByteArray) : body Try.prog c24 [objsV l, vInt .i64 dir, vStr name] [] (fun r m => ∃ n, r = vInt .i64 n) := by
  refine is_ok l dir 2 ?_
  by_cases hI : isS l dir 2 = true
  · rw [hI]
    obtain ⟨n, rfl, hn, hk⟩ := is4_yes (by decide) hI
    refine ok_some (obj_get hn) ?_
    have hsm := hg.sm _ (List.getElem_mem hn)
    generalize l[n] = o at hsm
    obtain ⟨kind, data, entries, target, peer, queue, proc, links, up⟩ := o
    obtain ⟨es, rfl⟩ : ∃ es : List (ByteArray × Int), entries = es.map entD := hsm.t.2.1
    have hlen : es.length ≤ 8 := by have := hsm.e; simpa using this
    refine loop_keep (fun k => k ≤ es.length) [2, 17, 18] (fun k => [(19, vInt .i64 (k : Nat))]) (fun _ => []) (fun k => es.length - k) 0 (Nat.zero_le _) ?_ (fun k hk => ?_)
    · refine View.of 0 [] [] rfl rfl rfl rfl rfl rfl ?_ (.nil _)
      repeat (first | exact .nil | refine .junk ?_ | refine .eq rfl ?_)
    have hk : k ≤ es.length := hk
    refine bB_dec (fun h => ?_) (fun h => ?_)
    · have hlt : k < es.length := by
        have h : (k : Int) < ((es.map entD).length : Int) := h
        rw [List.length_map] at h
        omega
      refine ok_some (ent_get hlt) ?_
      refine bB_split (fun _ => ?_) (fun _ => ?_)
      · exact ⟨_, rfl⟩
      · refine ⟨k + 1, hlt, (show es.length - (k + 1) < es.length - k by omega), View.of 1 [] [] rfl rfl rfl rfl rfl rfl ?_ (.nil _)⟩
        repeat (first | exact .nil | refine .junk ?_ | refine .put (.ren (next_i64 (by omega)).symm) ?_ | refine .eq rfl ?_)
    · exact ⟨_, rfl⟩
  · rw [Bool.not_eq_true] at hI
    rw [hI]
    exact ⟨_, rfl⟩
set_option maxRecDepth 100000 in
theorem find_ok (l : List Obj) (hg : GoodL l) (dir : Int) (name : ByteArray) {m : Mem} {K : CV → Mem → Prop} (h : ∀ n, K (vInt .i64 n) m) : ACall Try.prog 24 [objsV l, vInt .i64 dir, vStr name] m K := by
  refine acall_frame (K0 := fun r _ => ∃ n, r = vInt .i64 n) (acall_body Try.func24 l24 rfl (Nat.le_of_ble_eq_true rfl) (find_body l hg dir name)) (by simp [vStr, vInt, objsV, CV.isD, CC.isD, RV.isD]) fun r m1 hr => ?_
  obtain ⟨b, rfl⟩ := hr
  exact ⟨_, FrzV.self rfl, h b⟩

def c11 : LF := ⟨123, [.tmp 8, .tmp 9], (.seq (.reg [
    ⟨(some 8), .mov (.c (.rv (.one .esl))), none⟩,
    ⟨(some 9), .mov (.c (.rv (.one (.dat (.val (.int .i64 (0))))))), none⟩]) (.seq (.seq (.reg [
    ⟨(some 15), .mov (.t 0), none⟩,
    ⟨(some 16), .mov (.t 1), none⟩,
    ⟨(some 17), .call (.c (.rv (.one (.fn 16 [])))) [(.t 15), (.t 16), (.c (.rv (.one (.dat (.val (.int .i64 (0)))))))], none⟩,
    ⟨(some 18), .un .not (.t 17), none⟩,
    ⟨(some 19), .mov (.t 18), none⟩,
    ⟨(some 20), .mov (.t 0), (some (19, false))⟩,
    ⟨(some 21), .mov (.t 3), (some (19, false))⟩,
    ⟨(some 22), .call (.c (.rv (.one (.fn 16 [])))) [(.t 20), (.t 21), (.c (.rv (.one (.dat (.val (.int .i64 (0)))))))], (some (19, false))⟩,
    ⟨(some 23), .un .not (.t 22), (some (19, false))⟩,
    ⟨(some 24), .pick (.t 19) (.c (.rv (.one (.dat (.val (.bool true)))))) (.t 23), none⟩]) (.cond (.t 24) (.seq (.reg [
    ⟨(some 8), .mov (.c (.rv (.one .esl))), none⟩,
    ⟨(some 9), .mov (.c (.rv (.one (.dat (.val (.int .i64 (6))))))), none⟩]) .ret) .skip)) (.seq (.seq (.reg [
    ⟨(some 25), .mov (.t 0), none⟩,
    ⟨(some 26), .mov (.t 1), none⟩,
    ⟨(some 27), .idx 9 (.t 25) (.t 26), none⟩,
    ⟨(some 28), .fadr 0 (.t 27), none⟩,
    ⟨(some 29), .load false 1 (.t 28), none⟩,
    ⟨(some 30), .bin .neq (.t 29) (.c (.rv (.one (.dat (.val (.int .i64 (2))))))), none⟩]) (.cond (.t 30) (.seq (.reg [
    ⟨(some 8), .mov (.c (.rv (.one .esl))), none⟩,
    ⟨(some 9), .mov (.c (.rv (.one (.dat (.val (.int .i64 (11))))))), none⟩]) .ret) .skip)) (.seq (.seq (.reg [
    ⟨(some 31), .mov (.t 0), none⟩,
    ⟨(some 32), .mov (.t 1), none⟩,
    ⟨(some 33), .idx 9 (.t 31) (.t 32), none⟩,
    ⟨(some 34), .fadr 7 (.t 33), none⟩,
    ⟨(some 35), .load false 1 (.t 34), none⟩,
    ⟨(some 36), .bin .eql (.t 35) (.c (.rv (.one (.dat (.val (.int .i64 (0))))))), none⟩]) (.cond (.t 36) (.seq (.reg [
    ⟨(some 8), .mov (.c (.rv (.one .esl))), none⟩,
    ⟨(some 9), .mov (.c (.rv (.one (.dat (.val (.int .i64 (6))))))), none⟩]) .ret) .skip)) (.seq (.seq (.reg [
    ⟨(some 37), .mov (.t 2), none⟩,
    ⟨(some 38), .call (.c (.rv (.one (.fn 23 [])))) [(.t 37)], none⟩,
    ⟨(some 39), .un .not (.t 38), none⟩,
    ⟨(some 40), .mov (.t 39), none⟩,
    ⟨(some 41), .mov (.t 0), (some (40, false))⟩,
    ⟨(some 42), .mov (.t 1), (some (40, false))⟩,
    ⟨(some 43), .mov (.t 2), (some (40, false))⟩,
    ⟨(some 44), .call (.c (.rv (.one (.fn 24 [])))) [(.t 41), (.t 42), (.t 43)], (some (40, false))⟩,
    ⟨(some 45), .bin .geq (.t 44) (.c (.rv (.one (.dat (.val (.int .i64 (0))))))), (some (40, false))⟩,
    ⟨(some 46), .pick (.t 40) (.c (.rv (.one (.dat (.val (.bool true)))))) (.t 45), none⟩]) (.cond (.t 46) (.seq (.reg [
    ⟨(some 8), .mov (.c (.rv (.one .esl))), none⟩,
    ⟨(some 9), .mov (.c (.rv (.one (.dat (.val (.int .i64 (7))))))), none⟩]) .ret) .skip)) (.seq (.seq (.reg [
    ⟨(some 47), .mov (.t 0), none⟩,
    ⟨(some 48), .mov (.t 1), none⟩,
    ⟨(some 49), .idx 9 (.t 47) (.t 48), none⟩,
    ⟨(some 50), .fadr 2 (.t 49), none⟩,
    ⟨(some 51), .load false 1 (.t 50), none⟩,
    ⟨(some 52), .len 1 (.t 51), none⟩,
    ⟨(some 53), .bin .geq (.t 52) (.c (.rv (.one (.dat (.val (.int .i64 (8))))))), none⟩]) (.cond (.t 53) (.seq (.reg [
    ⟨(some 8), .mov (.c (.rv (.one .esl))), none⟩,
    ⟨(some 9), .mov (.c (.rv (.one (.dat (.val (.int .i64 (15))))))), none⟩]) .ret) .skip)) (.seq (.reg [
    ⟨(some 54), .mov (.t 0), none⟩,
    ⟨(some 55), .mov (.t 1), none⟩,
    ⟨(some 56), .idx 9 (.t 54) (.t 55), none⟩,
    ⟨(some 57), .load true 9 (.t 56), none⟩,
    ⟨(some 10), .alloc [(.dat (.val (.int .i64 (0)))), .esl, .esl, (.dat (.val (.string ⟨#[]⟩))), (.dat (.val (.int .i64 (0)))), .esl, (.dat (.val (.int .i64 (0)))), (.dat (.val (.int .i64 (0)))), (.dat (.val (.int .i64 (0))))], none⟩,
    ⟨none, .store 9 (.t 10) (.t 57), none⟩]) (.seq (.reg [
    ⟨(some 58), .fadr 2 (.t 10), none⟩,
    ⟨none, .store 1 (.t 58) (.c (.rv (.one .esl))), none⟩]) (.seq (.reg [
    ⟨(some 11), .mov (.c (.rv (.one (.dat (.val (.bool false)))))), none⟩]) (.seq (.seq (.reg [
    ⟨(some 59), .mov (.t 0), none⟩,
    ⟨(some 60), .mov (.t 1), none⟩,
    ⟨(some 61), .idx 9 (.t 59) (.t 60), none⟩,
    ⟨(some 62), .fadr 2 (.t 61), none⟩,
    ⟨(some 63), .load false 1 (.t 62), none⟩,
    ⟨(some 64), .len 1 (.t 63), none⟩,
    ⟨(some 65), .mov (.c (.rv (.one (.dat (.val (.int .i64 (0))))))), none⟩]) (.block 0 (.loop (.seq (.reg [
    ⟨(some 66), .bin .lss (.t 65) (.t 64), none⟩]) (.seq (.cond (.t 66) .skip (.exit 0)) (.seq (.block 1 (.seq (.reg [
    ⟨(some 67), .idx 2 (.t 63) (.t 65), none⟩,
    ⟨(some 68), .load true 2 (.t 67), none⟩,
    ⟨(some 13), .alloc [(.dat (.val (.string ⟨#[]⟩))), (.dat (.val (.int .i64 (0))))], none⟩,
    ⟨none, .store 2 (.t 13) (.t 68), none⟩]) (.seq (.seq (.reg [
    ⟨(some 69), .mov (.t 11), none⟩,
    ⟨(some 70), .un .not (.t 69), none⟩,
    ⟨(some 71), .mov (.t 70), none⟩,
    ⟨(some 72), .fadr 0 (.t 13), (some (71, true))⟩,
    ⟨(some 73), .load false 1 (.t 72), (some (71, true))⟩,
    ⟨(some 74), .mov (.t 2), (some (71, true))⟩,
    ⟨(some 75), .bin .gtr (.t 73) (.t 74), (some (71, true))⟩,
    ⟨(some 76), .pick (.t 71) (.t 75) (.c (.rv (.one (.dat (.val (.bool false)))))), none⟩]) (.cond (.t 76) (.seq (.reg [
    ⟨(some 77), .fadr 2 (.t 10), none⟩,
    ⟨(some 78), .load false 1 (.t 77), none⟩,
    ⟨(some 79), .mov (.t 2), none⟩,
    ⟨(some 80), .mov (.t 3), none⟩,
    ⟨(some 81), .build [(.dat (.val (.string ⟨#[]⟩))), (.dat (.val (.int .i64 (0))))] [(0, 1, (.t 79)), (1, 1, (.t 80))], none⟩,
    ⟨(some 82), .bsl 2 [(.dat (.val (.string ⟨#[]⟩))), (.dat (.val (.int .i64 (0))))] 1 [(0, (.t 81))], none⟩,
    ⟨(some 83), .app 2 24 (.t 78) (.t 82), none⟩,
    ⟨(some 84), .fadr 2 (.t 10), none⟩,
    ⟨none, .store 1 (.t 84) (.t 83), none⟩]) (.reg [
    ⟨(some 11), .mov (.c (.rv (.one (.dat (.val (.bool true)))))), none⟩])) .skip)) (.reg [
    ⟨(some 85), .fadr 2 (.t 10), none⟩,
    ⟨(some 86), .load false 1 (.t 85), none⟩,
    ⟨(some 87), .load true 2 (.t 13), none⟩,
    ⟨(some 88), .bsl 2 [(.dat (.val (.string ⟨#[]⟩))), (.dat (.val (.int .i64 (0))))] 1 [(0, (.t 87))], none⟩,
    ⟨(some 89), .app 2 24 (.t 86) (.t 88), none⟩,
    ⟨(some 90), .fadr 2 (.t 10), none⟩,
    ⟨none, .store 1 (.t 90) (.t 89), none⟩])))) (.reg [
    ⟨(some 91), .bin .add (.t 65) (.c (.rv (.one (.dat (.val (.int .i64 (1))))))), none⟩,
    ⟨(some 65), .mov (.t 91), none⟩]))))))) (.seq (.seq (.reg [
    ⟨(some 92), .mov (.t 11), none⟩,
    ⟨(some 93), .un .not (.t 92), none⟩]) (.cond (.t 93) (.reg [
    ⟨(some 94), .fadr 2 (.t 10), none⟩,
    ⟨(some 95), .load false 1 (.t 94), none⟩,
    ⟨(some 96), .mov (.t 2), none⟩,
    ⟨(some 97), .mov (.t 3), none⟩,
    ⟨(some 98), .build [(.dat (.val (.string ⟨#[]⟩))), (.dat (.val (.int .i64 (0))))] [(0, 1, (.t 96)), (1, 1, (.t 97))], none⟩,
    ⟨(some 99), .bsl 2 [(.dat (.val (.string ⟨#[]⟩))), (.dat (.val (.int .i64 (0))))] 1 [(0, (.t 98))], none⟩,
    ⟨(some 100), .app 2 24 (.t 95) (.t 99), none⟩,
    ⟨(some 101), .fadr 2 (.t 10), none⟩,
    ⟨none, .store 1 (.t 101) (.t 100), none⟩]) .skip)) (.seq (.reg [
    ⟨(some 102), .mov (.t 0), none⟩,
    ⟨(some 103), .mov (.t 1), none⟩,
    ⟨(some 104), .load true 9 (.t 10), none⟩,
    ⟨(some 105), .call (.c (.rv (.one (.fn 12 [])))) [(.t 102), (.t 103), (.t 104)], none⟩,
    ⟨(some 0), .mov (.t 105), none⟩]) (.seq (.reg [
    ⟨(some 106), .mov (.t 0), none⟩,
    ⟨(some 107), .mov (.t 3), none⟩,
    ⟨(some 108), .idx 9 (.t 106) (.t 107), none⟩,
    ⟨(some 109), .load true 9 (.t 108), none⟩,
    ⟨(some 14), .alloc [(.dat (.val (.int .i64 (0)))), .esl, .esl, (.dat (.val (.string ⟨#[]⟩))), (.dat (.val (.int .i64 (0)))), .esl, (.dat (.val (.int .i64 (0)))), (.dat (.val (.int .i64 (0)))), (.dat (.val (.int .i64 (0))))], none⟩,
    ⟨none, .store 9 (.t 14) (.t 109), none⟩]) (.seq (.reg [
    ⟨(some 110), .fadr 7 (.t 14), none⟩,
    ⟨(some 111), .load false 1 (.t 110), none⟩,
    ⟨(some 112), .bin .add (.t 111) (.c (.rv (.one (.dat (.val (.int .i64 (1))))))), none⟩,
    ⟨(some 113), .fadr 7 (.t 14), none⟩,
    ⟨none, .store 1 (.t 113) (.t 112), none⟩]) (.seq (.seq (.reg [
    ⟨(some 114), .fadr 0 (.t 14), none⟩,
    ⟨(some 115), .load false 1 (.t 114), none⟩,
    ⟨(some 116), .bin .eql (.t 115) (.c (.rv (.one (.dat (.val (.int .i64 (2))))))), none⟩]) (.cond (.t 116) (.reg [
    ⟨(some 117), .mov (.t 1), none⟩,
    ⟨(some 118), .fadr 8 (.t 14), none⟩,
    ⟨none, .store 1 (.t 118) (.t 117), none⟩]) .skip)) (.seq (.reg [
    ⟨(some 119), .mov (.t 0), none⟩,
    ⟨(some 120), .mov (.t 3), none⟩,
    ⟨(some 121), .load true 9 (.t 14), none⟩,
    ⟨(some 122), .call (.c (.rv (.one (.fn 12 [])))) [(.t 119), (.t 120), (.t 121)], none⟩,
    ⟨(some 8), .mov (.t 122), none⟩,
    ⟨(some 9), .mov (.c (.rv (.one (.dat (.val (.int .i64 (0))))))), none⟩]) .ret))))))))))))))))⟩
/-! Enter of the document: what it says fits -/
theorem frzE {m : Mem} {Z : Nat → Prop} {p : Option Nat} {id : Nat} {X : List (List CC)} {es : List (ByteArray × Int)} (hz : Z id) (h : m[id]? = some (.row 2 X)) (hX : X = dRows (es.map entD)) : FrzD m Z p (.row id 2 0 none) (.sl 2 (es.map entD)) := by
  subst hX
  exact FrzD.rowD hz h 0 none
structure EntSt where
  k : Nat
  d : Bool
  acc : List (ByteArray × Int)
theorem with_good {l1 : List Obj} (g : GoodL l1) {p : Nat} (hp1 : p < l1.length) (lk u : Int) : GoodL (withS l1 p { l1[p] with links := lk, up := u }) ∧ (withS l1 p { l1[p] with links := lk, up := u }).length = l1.length := by
  have hw : withS l1 p { l1[p] with links := lk, up := u } = l1.set p { l1[p] with links := lk, up := u } := by
    rw [withS, if_neg (by omega)]; simp
  have hs := g.sm _ (List.getElem_mem hp1)
  rw [hw]
  exact ⟨g.set ⟨⟨hs.t.1, hs.t.2.1, hs.t.2.2⟩, hs.d, hs.e, hs.q, hs.qd⟩ hp1 rfl, by simp⟩
theorem l11 : lowF Try.prog Try.f11 = some c11 := by kernel_rfl
set_option maxRecDepth 100000 in
set_option maxHeartbeats 16000000 in
theorem enter_body (l : List Obj) (hg : GoodL l) (dir : Int) (name : ByteArray) (hs : name.size ≤ 4194304) (obj : Int) : body Try.prog c11 [objsV l, vInt .i64 dir, vStr name, vInt .i64 obj] []
    (fun r m => ∃ y e, (e = 0 → GoodL y ∧ y.length = l.length) ∧ FrzV m r (twoV y e)) := by
  refine is_ok l dir 0 ?_
  by_cases hI : isS l dir 0 = true
  · rw [hI]
    obtain ⟨n, rfl, hn⟩ := is0_yes hI
    refine is_ok l obj 0 ?_
    by_cases hI2 : isS l obj 0 = true
    · rw [hI2]
      obtain ⟨p, rfl, hp⟩ := is0_yes hI2
      have hog := obj_get hn
      refine ok_some hog ?_
      have hsm := hg.sm _ (List.getElem_mem hn)
      have hset := fun (o : Obj) (ho : o.sm) (hk : o.kind = l[n].kind) => hg.set ho hn hk
      generalize l[n] = o at hsm hog hset
      obtain ⟨kind, data, entries, target, peer, queue, proc, links, up⟩ := o
      obtain ⟨es, rfl⟩ : ∃ es : List (ByteArray × Int), entries = es.map entD := hsm.t.2.1
      have hlen : es.length ≤ 8 := by have := hsm.e; simpa using this
      refine bB_bne (fun h => ?_) (fun h => ?_)
      · exact ⟨[], 11, fun h => absurd h (by decide), frz2 (.one (.esl 9))⟩
      refine ok_some hog ?_
      refine bB_beq (fun h => ?_) (fun h => ?_)
      · exact ⟨[], 6, fun h => absurd h (by decide), frz2 (.one (.esl 9))⟩
      refine name_ok name hs fun b => ?_
      cases b with
      | false => exact ⟨[], 7, fun h => absurd h (by decide), frz2 (.one (.esl 9))⟩
      | true =>
        refine find_ok l hg n name fun f => ?_
        refine bB_dec (fun h => ?_) (fun h => ?_)
        · exact ⟨[], 7, fun h => absurd h (by decide), frz2 (.one (.esl 9))⟩
        refine ok_some hog ?_
        refine bB_dec (fun h => ?_) (fun h8 => ?_)
        · exact ⟨[], 15, fun h => absurd h (by decide), frz2 (.one (.esl 9))⟩
        have h8 : es.length < 8 := by
          have h : ¬ (((es.map entD).length : Int) ≥ 8) := h8
          rw [List.length_map] at h
          omega
        refine ok_some hog ?_
        refine ok_some hog ?_
        have after : ∀ acc : List (ByteArray × Int), acc.length ≤ 8 → ∃ l1, withS l n ⟨kind, data, acc.map entD, target, peer, queue, proc, links, up⟩ = l1 ∧ l1.length ≤ 4194304 ∧ ∃ hp1 : p < l1.length,
            ∀ lk u : Int, GoodL (withS l1 p { l1[p] with links := lk, up := u }) ∧ (withS l1 p { l1[p] with links := lk, up := u }).length = l.length := by
          intro acc hacc
          have hw : withS l n ⟨kind, data, acc.map entD, target, peer, queue, proc, links, up⟩ = l.set n ⟨kind, data, acc.map entD, target, peer, queue, proc, links, up⟩ := by
            rw [withS, if_neg (by omega)]; simp
          have g1 := hset ⟨kind, data, acc.map entD, target, peer, queue, proc, links, up⟩ ⟨⟨hsm.t.1, ⟨acc, rfl⟩, hsm.t.2.2⟩, hsm.d, by simpa using hacc, hsm.q, hsm.qd⟩ rfl
          refine ⟨_, hw, by rw [List.length_set]; have := hg.len; omega, by simpa using hp, fun lk u => ?_⟩
          have := with_good g1 (p := p) (by simpa using hp) lk u
          exact ⟨this.1, this.2.trans (by simp)⟩
        refine loop_keep (fun (a : EntSt) => a.k ≤ es.length ∧ a.acc.length = a.k + a.d.toNat) [0, 1, 2, 3, 10, 63, 64] (fun a => [(65, vInt .i64 (a.k : Nat)), (11, vBool a.d)])
          (fun a => match a.acc with
            | [] => [.var [.dat (.val (.int .i64 kind)), .dat (.sl 1 data), .esl, .dat (.val (.string target)), .dat (.val (.int .i64 peer)), .dat (.sl 4 (queue.map Msg.enc)), .dat (.val (.int .i64 proc)), .dat (.val (.int .i64 links)), .dat (.val (.int .i64 up))]]
            | x :: r => [.var [.dat (.val (.int .i64 kind)), .dat (.sl 1 data), .row 1 2 0 none, .dat (.val (.string target)), .dat (.val (.int .i64 peer)), .dat (.sl 4 (queue.map Msg.enc)), .dat (.val (.int .i64 proc)), .dat (.val (.int .i64 links)), .dat (.val (.int .i64 up))], .row 2 (dRows ((x :: r).map entD))])
          (fun a => es.length - a.k) ⟨0, false, []⟩ ⟨Nat.zero_le _, rfl⟩ ?_ (fun a ha => ?_)
        · refine View.of 1 [0] [] rfl rfl rfl rfl rfl rfl ?_ ?_
          · repeat (first | exact .nil | refine .junk ?_ | refine .eq rfl ?_)
          · exact .put (notF rfl) rfl (.eq rfl (by simp)) (.nil _)
        obtain ⟨k, d, acc⟩ := a
        obtain ⟨hJ1, hJ2⟩ := ha
        have hJ1 : k ≤ es.length := hJ1
        have hJ2 : acc.length = k + d.toNat := hJ2
        have hd1 : d.toNat ≤ 1 := by cases d <;> simp
        cases acc with
        | nil =>
          refine bB_dec (fun h => ?_) (fun h => ?_)
          · have hlt : k < es.length := by
              have h : (k : Int) < ((es.map entD).length : Int) := h
              rw [List.length_map] at h
              omega
            refine ok_some (ent_get hlt) ?_
            cases d with
            | true =>
              simp at hJ2
            | false =>
              refine bB_split (fun _ => ?_) (fun _ => ?_)
              · refine ⟨by simp [subL, dRows] <;> omega, ?_⟩
                refine ⟨by simp [subL, dRows] <;> omega, ?_⟩
                refine ⟨⟨k + 1, true, ([(name, (p : Int)), es[k]])⟩, ⟨hlt, by simp at hJ2 ⊢; omega⟩, (show es.length - (k + 1) < es.length - k by omega), View.of 6 [0, 5] [] rfl rfl rfl rfl rfl rfl ?_ ?_⟩
                · repeat (first | exact .nil | refine .junk ?_ | refine .put (.ren (next_i64 (by omega)).symm) ?_ | refine .eq rfl ?_)
                · exact .put (notF rfl) rfl (.eq rfl (by simp)) (.put (notF rfl) rfl (.rowDE (by simp [subL, dRows, entD])) (.nil _))
              · refine ⟨by simp [subL, dRows] <;> omega, ?_⟩
                refine ⟨⟨k + 1, false, ([es[k]])⟩, ⟨hlt, by simp at hJ2 ⊢; omega⟩, (show es.length - (k + 1) < es.length - k by omega), View.of 4 [0, 3] [] rfl rfl rfl rfl rfl rfl ?_ ?_⟩
                · repeat (first | exact .nil | refine .junk ?_ | refine .put (.ren (next_i64 (by omega)).symm) ?_ | refine .eq rfl ?_)
                · exact .put (notF rfl) rfl (.eq rfl (by simp)) (.put (notF rfl) rfl (.rowDE (by simp [subL, dRows, entD])) (.nil _))
          · have hke : k = es.length := by
              have h : ¬ (k : Int) < ((es.map entD).length : Int) := h
              rw [List.length_map] at h
              omega
            cases d with
            | true => simp at hJ2
            | false =>
              refine ⟨by simp [subL, dRows] <;> omega, ?_⟩
              obtain ⟨l1, hw, hl1, hp1, fin1⟩ := after ([(name, (p : Int))]) (by simp at hJ2 ⊢ <;> omega)
              refine acall_pre (args' := [objsV l, vInt .i64 (n : Nat), (Obj.mk kind data (([(name, (p : Int))]).map entD) target peer queue proc links up).cv]) (m' := [.dead, .dead, .dead]) (View.of 3 [0, 1, 2] [2] rfl rfl rfl rfl rfl rfl
                (.eq rfl (.eq rfl (.put (CcsVw.agg (.cons (.ren (.dat _)) (.cons (.ren (.dat _)) (.cons (.frz (frzE (Z := fun k => memN [2] k = true) rfl rfl (by simp [subL, dRows, entD]))) (.cons (.ren (.dat _)) (.cons (.ren (.dat _)) (.cons (.ren (.dat _)) (.cons (.ren (.dat _)) (.cons (.ren (.dat _)) (.cons (.ren (.dat _)) .nil)))))))))) .nil)))
                (.dead (.dead (.dead (.nil _))))) ?_
              refine with_ok l hg.fit.1 n (by omega) _ ?_
              rw [hw]
              refine ok_some (obj_get hp1) ?_
              refine bB_beq (fun h => ?_) (fun h => ?_)
              · refine with_ok l1 hl1 p (by omega) { l1[p] with links := IntKind.i64.wrap (l1[p].links + 1), up := n } ?_
                exact ⟨_, 0, fun _ => fin1 _ _, frz2 (FrzR.self rfl)⟩
              · refine with_ok l1 hl1 p (by omega) { l1[p] with links := IntKind.i64.wrap (l1[p].links + 1) } ?_
                exact ⟨_, 0, fun _ => fin1 _ _, frz2 (FrzR.self rfl)⟩
        | cons x r =>
          have hr : r.length ≤ 9 := by simp at hJ2; omega
          refine bB_dec (fun h => ?_) (fun h => ?_)
          · have hlt : k < es.length := by
              have h : (k : Int) < ((es.map entD).length : Int) := h
              rw [List.length_map] at h
              omega
            refine ok_some (ent_get hlt) ?_
            cases d with
            | true =>
              refine ⟨by simp [subL, dRows] <;> omega, ?_⟩
              refine ⟨⟨k + 1, true, ((x :: r) ++ [es[k]])⟩, ⟨hlt, by simp at hJ2 ⊢; omega⟩, (show es.length - (k + 1) < es.length - k by omega), View.of 5 [0, 4] [] rfl rfl rfl rfl rfl rfl ?_ ?_⟩
              · repeat (first | exact .nil | refine .junk ?_ | refine .put (.ren (next_i64 (by omega)).symm) ?_ | refine .eq rfl ?_)
              · exact .put (notF rfl) rfl (.eq rfl (by simp)) (.put (notF rfl) rfl (.rowDE (by simp [subL, dRows, entD])) (.nil _))
            | false =>
              refine bB_split (fun _ => ?_) (fun _ => ?_)
              · refine ⟨by simp [subL, dRows] <;> omega, ?_⟩
                refine ⟨by simp [subL, dRows] <;> omega, ?_⟩
                refine ⟨⟨k + 1, true, ((x :: r) ++ [(name, (p : Int)), es[k]])⟩, ⟨hlt, by simp at hJ2 ⊢; omega⟩, (show es.length - (k + 1) < es.length - k by omega), View.of 7 [0, 6] [] rfl rfl rfl rfl rfl rfl ?_ ?_⟩
                · repeat (first | exact .nil | refine .junk ?_ | refine .put (.ren (next_i64 (by omega)).symm) ?_ | refine .eq rfl ?_)
                · exact .put (notF rfl) rfl (.eq rfl (by simp)) (.put (notF rfl) rfl (.rowDE (by simp [subL, dRows, entD])) (.nil _))
              · refine ⟨by simp [subL, dRows] <;> omega, ?_⟩
                refine ⟨⟨k + 1, false, ((x :: r) ++ [es[k]])⟩, ⟨hlt, by simp at hJ2 ⊢; omega⟩, (show es.length - (k + 1) < es.length - k by omega), View.of 5 [0, 4] [] rfl rfl rfl rfl rfl rfl ?_ ?_⟩
                · repeat (first | exact .nil | refine .junk ?_ | refine .put (.ren (next_i64 (by omega)).symm) ?_ | refine .eq rfl ?_)
                · exact .put (notF rfl) rfl (.eq rfl (by simp)) (.put (notF rfl) rfl (.rowDE (by simp [subL, dRows, entD])) (.nil _))
          · have hke : k = es.length := by
              have h : ¬ (k : Int) < ((es.map entD).length : Int) := h
              rw [List.length_map] at h
              omega
            cases d with
            | true =>
              obtain ⟨l1, hw, hl1, hp1, fin1⟩ := after ((x :: r)) (by simp at hJ2 ⊢ <;> omega)
              refine acall_pre (args' := [objsV l, vInt .i64 (n : Nat), (Obj.mk kind data (((x :: r)).map entD) target peer queue proc links up).cv]) (m' := [.dead, .dead]) (View.of 2 [0, 1] [1] rfl rfl rfl rfl rfl rfl
                (.eq rfl (.eq rfl (.put (CcsVw.agg (.cons (.ren (.dat _)) (.cons (.ren (.dat _)) (.cons (.frz (frzE (Z := fun k => memN [1] k = true) rfl rfl (by simp [subL, dRows, entD]))) (.cons (.ren (.dat _)) (.cons (.ren (.dat _)) (.cons (.ren (.dat _)) (.cons (.ren (.dat _)) (.cons (.ren (.dat _)) (.cons (.ren (.dat _)) .nil)))))))))) .nil)))
                (.dead (.dead (.nil _)))) ?_
              refine with_ok l hg.fit.1 n (by omega) _ ?_
              rw [hw]
              refine ok_some (obj_get hp1) ?_
              refine bB_beq (fun h => ?_) (fun h => ?_)
              · refine with_ok l1 hl1 p (by omega) { l1[p] with links := IntKind.i64.wrap (l1[p].links + 1), up := n } ?_
                exact ⟨_, 0, fun _ => fin1 _ _, frz2 (FrzR.self rfl)⟩
              · refine with_ok l1 hl1 p (by omega) { l1[p] with links := IntKind.i64.wrap (l1[p].links + 1) } ?_
                exact ⟨_, 0, fun _ => fin1 _ _, frz2 (FrzR.self rfl)⟩
            | false =>
              refine ⟨by simp [subL, dRows] <;> omega, ?_⟩
              obtain ⟨l1, hw, hl1, hp1, fin1⟩ := after (((x :: r) ++ [(name, (p : Int))])) (by simp at hJ2 ⊢ <;> omega)
              refine acall_pre (args' := [objsV l, vInt .i64 (n : Nat), (Obj.mk kind data ((((x :: r) ++ [(name, (p : Int))])).map entD) target peer queue proc links up).cv]) (m' := [.dead, .dead, .dead, .dead]) (View.of 4 [0, 1, 2, 3] [3] rfl rfl rfl rfl rfl rfl
                (.eq rfl (.eq rfl (.put (CcsVw.agg (.cons (.ren (.dat _)) (.cons (.ren (.dat _)) (.cons (.frz (frzE (Z := fun k => memN [3] k = true) rfl rfl (by simp [subL, dRows, entD]))) (.cons (.ren (.dat _)) (.cons (.ren (.dat _)) (.cons (.ren (.dat _)) (.cons (.ren (.dat _)) (.cons (.ren (.dat _)) (.cons (.ren (.dat _)) .nil)))))))))) .nil)))
                (.dead (.dead (.dead (.dead (.nil _)))))) ?_
              refine with_ok l hg.fit.1 n (by omega) _ ?_
              rw [hw]
              refine ok_some (obj_get hp1) ?_
              refine bB_beq (fun h => ?_) (fun h => ?_)
              · refine with_ok l1 hl1 p (by omega) { l1[p] with links := IntKind.i64.wrap (l1[p].links + 1), up := n } ?_
                exact ⟨_, 0, fun _ => fin1 _ _, frz2 (FrzR.self rfl)⟩
              · refine with_ok l1 hl1 p (by omega) { l1[p] with links := IntKind.i64.wrap (l1[p].links + 1) } ?_
                exact ⟨_, 0, fun _ => fin1 _ _, frz2 (FrzR.self rfl)⟩
    · rw [Bool.not_eq_true] at hI2
      rw [hI2]
      exact ⟨[], 6, fun h => absurd h (by decide), frz2 (.one (.esl 9))⟩
  · rw [Bool.not_eq_true] at hI
    rw [hI]
    exact ⟨[], 6, fun h => absurd h (by decide), frz2 (.one (.esl 9))⟩
set_option maxRecDepth 100000 in
theorem enter_ok (l : List Obj) (hg : GoodL l) (dir : Int) (name : ByteArray) (hs : name.size ≤ 4194304) (obj : Int) {m : Mem} {K : CV → Mem → Prop} (h : ∀ y e, (e = 0 → GoodL y ∧ y.length = l.length) → K (twoV y e) m) :
    ACall Try.prog 11 [objsV l, vInt .i64 dir, vStr name, vInt .i64 obj] m K := by
  refine acall_frame (K0 := fun r m => ∃ y e, (e = 0 → GoodL y ∧ y.length = l.length) ∧ FrzV m r (twoV y e)) (acall_body Try.func11 l11 rfl (Nat.le_of_ble_eq_true rfl) (enter_body l hg dir name hs obj)) (by simp [vStr, vInt, objsV, CV.isD, CC.isD, RV.isD]) fun r m1 hr => ?_
  obtain ⟨y, e, hy, hf⟩ := hr
  exact ⟨_, hf, h y e hy⟩

def c14 : LF := ⟨54, [.tmp 4, .tmp 5, .tmp 6], (.seq (.reg [
    ⟨(some 3), .box (.t 1), none⟩,
    ⟨(some 4), .mov (.c (.rv (.one .esl))), none⟩,
    ⟨(some 5), .mov (.c (.rv (.one (.dat (.val (.int .i64 (0))))))), none⟩,
    ⟨(some 6), .mov (.c (.rv (.one (.dat (.val (.int .i64 (0))))))), none⟩]) (.seq (.seq (.reg [
    ⟨(some 9), .fadr 1 (.t 3), none⟩,
    ⟨(some 10), .load false 1 (.t 9), none⟩,
    ⟨(some 11), .bin .lss (.t 10) (.c (.rv (.one (.dat (.val (.int .i64 (0))))))), none⟩,
    ⟨(some 12), .mov (.t 11), none⟩,
    ⟨(some 13), .fadr 1 (.t 3), (some (12, false))⟩,
    ⟨(some 14), .load false 1 (.t 13), (some (12, false))⟩,
    ⟨(some 15), .bin .gtr (.t 14) (.c (.rv (.one (.dat (.val (.int .i64 (4095))))))), (some (12, false))⟩,
    ⟨(some 16), .pick (.t 12) (.c (.rv (.one (.dat (.val (.bool true)))))) (.t 15), none⟩,
    ⟨(some 17), .mov (.t 16), none⟩,
    ⟨(some 18), .fadr 0 (.t 3), (some (17, false))⟩,
    ⟨(some 19), .load false 1 (.t 18), (some (17, false))⟩,
    ⟨(some 20), .bin .lss (.t 19) (.c (.rv (.one (.dat (.val (.int .i64 (0))))))), (some (17, false))⟩,
    ⟨(some 21), .pick (.t 17) (.c (.rv (.one (.dat (.val (.bool true)))))) (.t 20), none⟩]) (.cond (.t 21) (.seq (.reg [
    ⟨(some 4), .mov (.c (.rv (.one .esl))), none⟩,
    ⟨(some 5), .mov (.c (.rv (.one (.dat (.val (.int .i64 (0))))))), none⟩,
    ⟨(some 6), .mov (.c (.rv (.one (.dat (.val (.int .i64 (3))))))), none⟩]) .ret) .skip)) (.seq (.reg [
    ⟨(some 22), .bsl 3 [(.dat (.val (.bool false))), (.dat (.val (.int .i64 (0)))), (.dat (.val (.int .i64 (0))))] 0 [], none⟩,
    ⟨(some 23), .mov (.t 0), none⟩,
    ⟨(some 24), .app 3 24 (.t 22) (.t 23), none⟩,
    ⟨(some 7), .mov (.t 24), none⟩]) (.seq (.seq (.reg [
    ⟨(some 25), .mov (.t 7), none⟩,
    ⟨(some 26), .len 1 (.t 25), none⟩,
    ⟨(some 27), .mov (.c (.rv (.one (.dat (.val (.int .i64 (0))))))), none⟩]) (.block 0 (.loop (.seq (.reg [
    ⟨(some 28), .bin .lss (.t 27) (.t 26), none⟩]) (.seq (.cond (.t 28) .skip (.exit 0)) (.seq (.block 1 (.seq (.reg [
    ⟨(some 29), .mov (.t 27), none⟩,
    ⟨(some 8), .mov (.t 29), none⟩]) (.seq (.reg [
    ⟨(some 30), .mov (.t 7), none⟩,
    ⟨(some 31), .mov (.t 8), none⟩,
    ⟨(some 32), .idx 3 (.t 30) (.t 31), none⟩,
    ⟨(some 33), .fadr 0 (.t 32), none⟩,
    ⟨(some 34), .load false 1 (.t 33), none⟩,
    ⟨(some 35), .un .not (.t 34), none⟩]) (.cond (.t 35) (.seq (.reg [
    ⟨(some 36), .mov (.t 7), none⟩,
    ⟨(some 37), .mov (.t 8), none⟩,
    ⟨(some 38), .load true 2 (.t 3), none⟩,
    ⟨(some 39), .build [(.dat (.val (.bool false))), (.dat (.val (.int .i64 (0)))), (.dat (.val (.int .i64 (0))))] [(0, 1, (.c (.rv (.one (.dat (.val (.bool true))))))), (1, 2, (.t 38))], none⟩,
    ⟨(some 40), .idx 3 (.t 36) (.t 37), none⟩,
    ⟨none, .store 3 (.t 40) (.t 39), none⟩]) (.seq (.reg [
    ⟨(some 41), .mov (.t 7), none⟩,
    ⟨(some 42), .mov (.t 8), none⟩,
    ⟨(some 4), .mov (.t 41), none⟩,
    ⟨(some 5), .mov (.t 42), none⟩,
    ⟨(some 6), .mov (.c (.rv (.one (.dat (.val (.int .i64 (0))))))), none⟩]) .ret)) .skip)))) (.reg [
    ⟨(some 43), .bin .add (.t 27) (.c (.rv (.one (.dat (.val (.int .i64 (1))))))), none⟩,
    ⟨(some 27), .mov (.t 43), none⟩]))))))) (.seq (.seq (.reg [
    ⟨(some 44), .mov (.t 7), none⟩,
    ⟨(some 45), .len 1 (.t 44), none⟩,
    ⟨(some 46), .bin .geq (.t 45) (.c (.rv (.one (.dat (.val (.int .i64 (10))))))), none⟩]) (.cond (.t 46) (.seq (.reg [
    ⟨(some 4), .mov (.c (.rv (.one .esl))), none⟩,
    ⟨(some 5), .mov (.c (.rv (.one (.dat (.val (.int .i64 (0))))))), none⟩,
    ⟨(some 6), .mov (.c (.rv (.one (.dat (.val (.int .i64 (15))))))), none⟩]) .ret) .skip)) (.seq (.reg [
    ⟨(some 47), .mov (.t 7), none⟩,
    ⟨(some 48), .load true 2 (.t 3), none⟩,
    ⟨(some 49), .build [(.dat (.val (.bool false))), (.dat (.val (.int .i64 (0)))), (.dat (.val (.int .i64 (0))))] [(0, 1, (.c (.rv (.one (.dat (.val (.bool true))))))), (1, 2, (.t 48))], none⟩,
    ⟨(some 50), .bsl 3 [(.dat (.val (.bool false))), (.dat (.val (.int .i64 (0)))), (.dat (.val (.int .i64 (0))))] 1 [(0, (.t 49))], none⟩,
    ⟨(some 51), .app 3 24 (.t 47) (.t 50), none⟩,
    ⟨(some 52), .mov (.t 0), none⟩,
    ⟨(some 53), .len 1 (.t 52), none⟩,
    ⟨(some 4), .mov (.t 51), none⟩,
    ⟨(some 5), .mov (.t 53), none⟩,
    ⟨(some 6), .mov (.c (.rv (.one (.dat (.val (.int .i64 (0))))))), none⟩]) .ret))))))⟩
/-! Put of the document: what it says fits -/
structure Sl3 where
  has : Bool
  opn : Int
  rts : Int
def Sl3.enc (s : Sl3) : List Dt := [.val (.bool s.has), .val (.int .i64 s.opn), .val (.int .i64 s.rts)]
def sl3D (l : List Sl3) : Dt := .sl 3 (l.map Sl3.enc)
def sl3R (l : List Sl3) : RV := .one (.dat (sl3D l))
def sl3V (l : List Sl3) : CV := .rv (.one (.dat (sl3D l)))
def SlOK (l : List Sl3) : Prop := l.length ≤ 10 ∧ ∀ s, s ∈ l → s.has = true
theorem SlOK.nil : SlOK [] := ⟨by simp, by simp⟩
theorem dRows_nth' {α : Type} (f : α → List Dt) (l : List α) {k : Nat} (h : k < l.length) : nth (dRows (l.map f)) k = some ((f l[k]).map .dat) := by
  rw [nth_eq, dRows, List.getElem?_map, List.getElem?_map, List.getElem?_eq_getElem h]; rfl
theorem dRows_set' {α : Type} (f : α → List Dt) (l : List α) (k : Nat) (x : α) : setN (dRows (l.map f)) k ((f x).map .dat) = dRows ((l.set k x).map f) := by
  rw [setN_eq, dRows, dRows, List.map_set, List.map_set]
theorem frz3b {m : Mem} {a b : RV} {x y : Int} (h : FrzR m a b) : FrzV m (.tup [a, iRV x, iRV y]) (.tup [b, iRV x, iRV y]) := frz3 h (FrzR.self rfl)
theorem l14 : lowF Try.prog Try.f14 = some c14 := by kernel_rfl
set_option maxRecDepth 100000 in
set_option maxHeartbeats 8000000 in
theorem rput_body (l : List Sl3) (hS : SlOK l) (opn rts : Int) : body Try.prog c14 [sl3V l, .rv (.agg [.dat (.val (.int .i64 opn)), .dat (.val (.int .i64 rts))])] []
    (fun r m => ∃ (y : List Sl3) (fd e : Int), (e = 0 → SlOK y) ∧ FrzV m r (.tup [sl3R y, iRV fd, iRV e])) := by
  have hl := hS.1
  have bad : ∀ m e, e ≠ 0 → ∃ (y : List Sl3) (fd : Int) (e' : Int), (e' = 0 → SlOK y) ∧ FrzV m (.tup [.one .esl, iRV 0, iRV e]) (.tup [sl3R y, iRV fd, iRV e']) := fun m e he => ⟨[], 0, e, fun h => absurd h he, frz3b (.one (.esl 3))⟩
  refine bB_dec (fun h => ?_) (fun h1 => ?_)
  · exact bad _ 3 (by decide)
  refine bB_dec (fun h => ?_) (fun h2 => ?_)
  · exact bad _ 3 (by decide)
  refine bB_dec (fun h => ?_) (fun h3 => ?_)
  · exact bad _ 3 (by decide)
  refine ⟨by simp [dRows, subL] <;> omega, ?_⟩
  refine loop_keep (fun k => k ≤ l.length) [0, 3, 26] (fun k => [(27, vInt .i64 (k : Nat)), (7, .rv (.one (.row 1 3 0 none))), (25, .rv (.one (.row 1 3 0 none)))])
    (fun _ => [.var [.dat (.val (.int .i64 opn)), .dat (.val (.int .i64 rts))], .row 3 (dRows (l.map Sl3.enc))]) (fun k => l.length - k) 0 (Nat.zero_le _) ?_ (fun k hk => ?_)
  · refine View.of 3 [0, 2] [] rfl rfl rfl rfl rfl rfl ?_ ?_
    · repeat (first | exact .nil | refine .junk ?_ | refine .eq rfl ?_)
    · exact .put (notF rfl) rfl (.eq rfl (by simp)) (.put (notF rfl) rfl (.rowDE (by simp [subL, dRows])) (.nil _))
  have hk : k ≤ l.length := hk
  have hlen : (dRows (l.map Sl3.enc)).length = l.length := by simp [dRows]
  refine bB_dec (fun h => ?_) (fun h => ?_)
  · have hlt : k < l.length := by
      have h : (k : Int) < (((([] : List (List CC)) ++ dRows (l.map Sl3.enc)).length : Nat) : Int) := h
      rw [List.nil_append, hlen] at h
      omega
    have hidx : idxZ (k : Int) (lenOf (dRows (l.map Sl3.enc)).length 0 none) = some k := idxZ_nat (by simpa [hlen, lenOf] using hlt)
    refine ok_some hidx ?_
    refine ok_some (dRows_nth' Sl3.enc l hlt) ?_
    have hk2 : k < 10 := by omega
    generalize l[k] = s
    refine bB_split (fun _ => ?_) (fun _ => ?_)
    · refine ok_some hidx ?_
      refine ok_some (dRows_nth' Sl3.enc l hlt) ?_
      refine ⟨l.set k ⟨true, opn, rts⟩, k, 0, fun _ => ⟨by simpa using hl, fun s hs => by rcases List.mem_or_eq_of_mem_set hs with hs | rfl <;> first | exact hS.2 s hs | rfl⟩, frz3b (.one (FrzC.rowD ?_ 0 none))⟩
      show some (Bk.row 3 (setN (dRows (l.map Sl3.enc)) k _)) = _
      rw [← dRows, ← dRows_set' Sl3.enc]
      rfl
    · refine ⟨k + 1, hlt, (show l.length - (k + 1) < l.length - k by omega), View.of 2 [0, 1] [] rfl rfl rfl rfl rfl rfl ?_ ?_⟩
      · repeat (first | exact .nil | refine .junk ?_ | refine .put (.ren (next_i64 (by omega)).symm) ?_ | refine .eq rfl ?_)
      · exact .put (notF rfl) rfl (.eq rfl (by simp)) (.put (notF rfl) rfl (.rowDE rfl) (.nil _))
  · refine bB_dec (fun h => ?_) (fun h10 => ?_)
    · exact bad _ 15 (by decide)
    · have h10 : l.length < 10 := by
        have h : ¬ (((dRows (l.map Sl3.enc)).length : Int) ≥ 10) := h10
        rw [hlen] at h
        omega
      refine ⟨by simp [dRows, subL] <;> omega, ?_⟩
      refine ⟨l ++ [⟨true, opn, rts⟩], _, 0, fun _ => ⟨by simp <;> omega, fun s hs => by rcases List.mem_append.1 hs with hs | hs <;> first | exact hS.2 s hs | (simp at hs; subst hs; rfl)⟩, frz3b (.one (FrzC.rowD ?_ 0 none))⟩
      show some (Bk.row 3 _) = some (Bk.row 3 _)
      simp [subL, dRows, Sl3.enc]
set_option maxRecDepth 100000 in
theorem rput_ok (l : List Sl3) (hS : SlOK l) (opn rts : Int) {m : Mem} {K : CV → Mem → Prop} (h : ∀ (y : List Sl3) (fd e : Int), (e = 0 → SlOK y) → K (.tup [sl3R y, iRV fd, iRV e]) m) :
    ACall Try.prog 14 [sl3V l, .rv (.agg [.dat (.val (.int .i64 opn)), .dat (.val (.int .i64 rts))])] m K := by
  refine acall_frame (K0 := fun r m => ∃ (y : List Sl3) (fd e : Int), (e = 0 → SlOK y) ∧ FrzV m r (.tup [sl3R y, iRV fd, iRV e])) (acall_body (args := [sl3V l, .rv (.agg [.dat (.val (.int .i64 opn)), .dat (.val (.int .i64 rts))])]) Try.func14 l14 rfl (Nat.le_of_ble_eq_true rfl) (rput_body l hS opn rts)) (by simp [sl3V, sl3D, CV.isD, CC.isD, RV.isD]) fun r m1 hr => ?_
  obtain ⟨y, fd, e, hy, hf⟩ := hr
  exact ⟨_, hf, h y fd e hy⟩


end Go.Proofs.Ytbemknkbegkflaa
