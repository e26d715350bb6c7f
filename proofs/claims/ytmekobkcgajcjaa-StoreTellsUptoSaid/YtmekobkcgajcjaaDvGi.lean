import Derived.Test.YtmekobkcgajcjaaAmZ2
import Derived.Test.YtmekobkcgajcjaaDvGh
import Derived.Test.YtmekobkcgajcjaaDvGg
import Derived.Test.YtmekobkcgajcjaaAmY
set_option linter.unusedVariables false
set_option linter.unusedSimpArgs false
namespace Go.Proofs.Ytmekobkcgajcjaa
open Go.AM Go.ChangeShapes Go.WideShapes Go.ChangeAt Go.RowKit
/-! DeleteFunc of one entry of a block -/
def nmB (name : ByteArray) : Bk := .var [.dat (.val (.string name))]
set_option maxRecDepth 100000 in
theorem clo42_bodyG (e : NE) (name : ByteArray) : body Try.prog c42 [entC e, .rv (.one (.ptr 0 0))] [.var ([Dt.val (.string name)].map .dat)] (fun r m => r = vBool (e.1.toList == name.toList) ∧ ∃ ex, m = .var ([Dt.val (.string name)].map .dat) :: ex) := by
  exact ⟨rfl, _, rfl⟩
set_option maxRecDepth 100000 in
theorem clo42G (e : NE) (name : ByteArray) (K : CV → Mem → Prop) (h : K (vBool (e.1.toList == name.toList)) [.var ([Dt.val (.string name)].map .dat)]) : ACall Try.prog 42 [entC e, .rv (.one (.ptr 0 0))] [.var ([Dt.val (.string name)].map .dat)] K :=
  acall_trim rfl (acall_body Try.func42 l42 rfl (Nat.le_of_ble_eq_true rfl) (clo42_bodyG e name)) h
theorem entRow {es : List NE} {k : Nat} (h : k < es.length) : nth (dRows (es.map entW)) k = some [.dat (.val (.string es[k].1)), .dat (.val (.int .i64 es[k].2))] := by
  rw [nth_eq]
  simp [dRows, h, entW]
theorem lenW (es : List NE) : lenOf (dRows (es.map entW)).length 0 none = es.length := by
  show (dRows (es.map entW)).length = _
  simp [dRows]
set_option maxRecDepth 100000 in
set_option maxHeartbeats 8000000 in
theorem idx46G_body (es : List NE) (hl : es.length ≤ 4194304) (name : ByteArray) (j : Nat) (hj : j < es.length) (hjn : es[j].1.toList = name.toList) (hb : ∀ (i : Nat) e, i < j → es[i]? = some e → e.1.toList ≠ name.toList) :
    body Try.prog c46 [.rv (.one (.row 0 2 0 none)), .rv (.one (.fn 42 [1]))] [.row 2 (dRows (es.map entW)), nmB name] (fun r m => r = vInt .i64 (j : Nat) ∧ m = [.row 2 (dRows (es.map entW)), nmB name]) := by
  refine loop_keep (fun k => k ≤ j) [0, 1] (fun k => [(7, vInt .i64 (es.length : Nat)), (8, vInt .i64 (k : Nat))]) (fun _ => [.row 2 (dRows (es.map entW)), nmB name]) (fun k => j - k) 0 (Nat.zero_le _) ?_ (fun k hk => ?_)
  · refine View.of 2 [0, 1] [] rfl rfl rfl rfl rfl rfl ?_ ?_
    · repeat (first | exact .nil | refine .junk ?_ | refine .eq rfl ?_ | refine .put (.ren (by rw [lenW]; rfl)) ?_)
    · exact .put (notF rfl) rfl (.rowDE rfl) (.put (notF rfl) rfl (.varDE (ds := [.val (.string name)]) rfl) (.nil _))
  have hk : k ≤ j := hk
  have hkl : k < es.length := by omega
  refine bB_yes (decide_eq_true (by show (k : Int) < (es.length : Int); omega)) ?_
  refine ok_some (idxZ_nat (by rw [lenW]; exact hkl) : idxZ (k : Nat) (lenOf (dRows (es.map entW)).length 0 none) = some k) ?_
  refine ok_some (entRow hkl) ?_
  refine acall_look (args0 := [entC es[k], .rv (.one (.ptr 0 0))]) (cs := [.val (.string name)]) 1 rfl rfl (r0 := vBool (es[k].1.toList == name.toList)) rfl (fun K hK => clo42G es[k] name K hK) ?_
  refine bB_split (fun h => ?_) (fun h => ?_)
  · have h : es[k].1.toList = name.toList := by simpa using h
    have : k = j := by
      rcases Nat.lt_or_ge k j with h2 | h2
      · exact absurd h (hb k _ h2 (List.getElem?_eq_getElem hkl))
      · omega
    subst this
    exact ⟨rfl, rfl⟩
  · have hne : k ≠ j := fun e => by subst e; rw [hjn] at h; simp at h
    refine ⟨k + 1, (by show k + 1 ≤ j; omega), (show j - (k + 1) < j - k by omega), View.of 2 [0, 1] [] rfl rfl rfl rfl rfl rfl ?_ ?_⟩
    · repeat (first | exact .nil | refine .junk ?_ | refine .put (.ren (next_i64 (by omega)).symm) ?_ | refine .eq rfl ?_)
    · exact .put (notF rfl) rfl (.rowDE rfl) (.put (notF rfl) rfl (.varDE (ds := [.val (.string name)]) rfl) (.nil _))
structure StD where
  t : Nat
  y : NE
def delL (a b : List NE) (t : Nat) (y : NE) : List NE := a ++ b.take t ++ y :: b.drop t
theorem delL_len {a b : List NE} {t : Nat} (h : t ≤ b.length) (y : NE) : (delL a b t y).length = a.length + b.length + 1 := by
  simp [delL]; omega
theorem delL_next {a b : List NE} {t : Nat} (h : t < b.length) (y : NE) : (delL a b t y).set (a.length + t) b[t] = delL a b (t + 1) b[t] ∧ (delL a b t y)[a.length + 1 + t]? = some b[t] := by
  have h1 : (a ++ b.take t).length = a.length + t := by simp; omega
  have hd : b.drop t = b[t] :: b.drop (t + 1) := List.drop_eq_getElem_cons h
  constructor
  · unfold delL
    rw [List.set_append_right _ _ (by omega), h1, Nat.sub_self, List.set_cons_zero, List.take_succ_eq_append_getElem h, hd]
    simp only [List.append_assoc, List.singleton_append]
  · unfold delL
    rw [List.getElem?_append_right (by omega), h1, show a.length + 1 + t - (a.length + t) = 1 by omega, hd]
    rfl
def zNE : NE := (⟨#[]⟩, 0)
set_option maxRecDepth 100000 in
set_option maxHeartbeats 8000000 in
theorem delG_body (a b : List NE) (x : NE) (hl : a.length + b.length ≤ 4194303) (name : ByteArray) (hx : x.1.toList = name.toList) (ha : ∀ e, e ∈ a → e.1.toList ≠ name.toList) (hb : ∀ e, e ∈ b → e.1.toList ≠ name.toList) :
    body Try.prog c41 [.rv (.one (.row 0 2 0 none)), .rv (.one (.fn 42 [1]))] [.row 2 (dRows ((a ++ x :: b).map entW)), nmB name]
    (fun r m => r = .rv (.one (.row 0 2 0 (some (a.length + b.length)))) ∧ m = [.row 2 (dRows ((a ++ b ++ [zNE]).map entW)), nmB name]) := by
  have hlen : (a ++ x :: b).length = a.length + b.length + 1 := by simp; omega
  refine (acall_body Try.func46 l46 rfl (Nat.le_of_ble_eq_true rfl) (idx46G_body (a ++ x :: b) (by omega) name a.length (by omega) (by simp [hx]) (fun i e hi he => ?_))).mono fun r m ⟨hr, hm⟩ => ?_
  · rw [List.getElem?_append_left hi] at he
    exact ha e (List.mem_of_getElem? he)
  subst hr hm
  refine loop_keep (fun s : StD => s.t ≤ b.length) [0, 1] (fun s => [(5, vInt .i64 ((a.length + s.t : Nat) : Int)), (6, vInt .i64 ((a.length + 1 + s.t : Nat) : Int))]) (fun s => [.row 2 (dRows ((delL a b s.t s.y).map entW)), nmB name]) (fun s => b.length - s.t) ⟨0, x⟩ (Nat.zero_le _) ?_ (fun s hs => ?_)
  · refine View.of 2 [0, 1] [] rfl rfl rfl rfl rfl rfl ?_ ?_
    · repeat (first | exact .nil | refine .junk ?_ | refine .eq rfl ?_ | refine .put (.ren (next_i64 (by omega)).symm) ?_)
    · exact .put (notF rfl) rfl (.rowDE (by show dRows _ = dRows _; simp [delL])) (.put (notF rfl) rfl (.varDE (ds := [.val (.string name)]) rfl) (.nil _))
  obtain ⟨t, y⟩ := s
  have hs : t ≤ b.length := hs
  have hdl := delL_len (a := a) hs y
  refine bB_dec (fun h => ?_) (fun h => ?_)
  · have h : ((a.length + 1 + t : Nat) : Int) < ((lenOf (dRows ((delL a b t y).map entW)).length 0 none : Nat) : Int) := h
    rw [lenW, hdl] at h
    have ht : t < b.length := by omega
    obtain ⟨n1, n2⟩ := delL_next (a := a) ht y
    have hjl : a.length + 1 + t < (delL a b t y).length := by omega
    have hget : (delL a b t y)[a.length + 1 + t] = b[t] := by
      rw [List.getElem?_eq_getElem hjl] at n2
      exact Option.some.inj n2
    have hr := entRow hjl
    rw [hget] at hr
    refine ok_some (idxZ_nat (by rw [lenW]; exact hjl) : idxZ ((a.length + 1 + t : Nat) : Int) (lenOf (dRows ((delL a b t y).map entW)).length 0 none) = some (a.length + 1 + t)) ?_
    refine ok_some hr ?_
    have hne := hb b[t] (List.getElem_mem ht)
    generalize hbt : b[t] = v at n1 hne
    refine acall_look (args0 := [entC v, .rv (.one (.ptr 0 0))]) (cs := [.val (.string name)]) 1 rfl rfl (r0 := vBool (v.1.toList == name.toList)) rfl (fun K hK => clo42G v name K hK) ?_
    refine bB_yes (by simpa using hne) ?_
    refine ok_some (idxZ_nat (by rw [lenW, hdl]; omega) : idxZ ((a.length + t : Nat) : Int) (lenOf (dRows ((delL a b t y).map entW)).length 0 none) = some (a.length + t)) ?_
    refine ok_some (entRow (by rw [hdl]; omega) : nth (dRows ((delL a b t y).map entW)) (a.length + t) = _) ?_
    have hset : setN (dRows ((delL a b t y).map entW)) (a.length + t) [.dat (.val (.string v.1)), .dat (.val (.int .i64 v.2))] = dRows ((delL a b (t + 1) v).map entW) := by
      rw [← n1, setN_eq, List.map_set]
      simp [dRows, List.map_set, entW]
    have e1 := next_i64 (k := a.length + t) (by omega)
    have e2 := next_i64 (k := a.length + 1 + t) (by omega)
    refine ⟨⟨t + 1, v⟩, ht, (show b.length - (t + 1) < b.length - t by omega), View.of 3 [0, 1] [] rfl rfl rfl rfl rfl rfl ?_ ?_⟩
    · repeat (first | exact .nil | refine .junk ?_ | refine .put (.ren e1.symm) ?_ | refine .put (.ren e2.symm) ?_ | refine .eq rfl ?_)
    · exact .put (notF rfl) rfl (.rowDE hset) (.put (notF rfl) rfl (.varDE (ds := [.val (.string name)]) rfl) (.nil _))
  · have h : ¬ ((a.length + 1 + t : Nat) : Int) < ((lenOf (dRows ((delL a b t y).map entW)).length 0 none : Nat) : Int) := h
    rw [lenW, hdl] at h
    have ht : t = b.length := by omega
    subst ht
    have hXl : (dRows ((delL a b b.length y).map entW)).length = a.length + b.length + 1 := by rw [← hdl]; simp [dRows]
    have hfin : splice (dRows ((delL a b b.length y).map entW)) (a.length + b.length) [[.dat (.val (.string ⟨#[]⟩)), .dat (.val (.int .i64 0))]] = dRows ((a ++ b ++ [zNE]).map entW) := by
      have h1 : dRows ((delL a b b.length y).map entW) = dRows ((a ++ b).map entW) ++ [[.dat (.val (.string y.1)), .dat (.val (.int .i64 y.2))]] := by
        simp [delL, dRows, entW]
      have h2 : (dRows ((a ++ b).map entW)).length = a.length + b.length := by simp [dRows]
      rw [h1, splice, List.take_left' h2, List.drop_eq_nil_of_le (by rw [List.length_append, h2]; simp)]
      simp [dRows, entW, zNE]
    generalize hX : dRows ((delL a b b.length y).map entW) = X at hXl hfin
    have hLX : lenOf X.length 0 none = a.length + b.length + 1 := hXl
    refine bB_yes (t := (Nat.ble (a.length + b.length) (lenOf X.length 0 none) && Nat.ble (lenOf X.length 0 none) (X.length - 0))) (by rw [hLX, hXl]; simp [Nat.ble_eq]) ?_
    have hfin2 : splice X (a.length + b.length) (repl (lenOf X.length 0 none - (a.length + b.length)) [.dat (.val (.string ⟨#[]⟩)), .dat (.val (.int .i64 0))]) = dRows ((a ++ b ++ [zNE]).map entW) := by
      rw [hLX, show a.length + b.length + 1 - (a.length + b.length) = 1 by omega]
      exact hfin
    refine bB_yes (t := Nat.ble (lenOf X.length 0 none) X.length) (by rw [hLX, hXl]; simp [Nat.ble_eq]) ?_
    refine bB_yes (t := Nat.blt (a.length + b.length) (lenOf X.length 0 none)) (by rw [hLX, Nat.blt_eq]; omega) ?_
    refine bB_yes (t := (Nat.ble 0 (a.length + b.length) && Nat.ble (a.length + b.length) ((splice X (a.length + b.length) (repl (lenOf X.length 0 none - (a.length + b.length)) [.dat (.val (.string ⟨#[]⟩)), .dat (.val (.int .i64 0))])).length - 0))) (by rw [hfin2]; simp [dRows, Nat.ble_eq]) ?_
    exact ⟨rfl, congrArg (fun z => [Bk.row 2 z, nmB name]) hfin2⟩
set_option maxRecDepth 100000 in
/-- DeleteFunc takes one entry out of a block -/
theorem delG_ok (a b : List NE) (x : NE) (hl : a.length + b.length ≤ 4194303) (name : ByteArray) (hx : x.1.toList = name.toList) (ha : ∀ e, e ∈ a → e.1.toList ≠ name.toList) (hb : ∀ e, e ∈ b → e.1.toList ≠ name.toList) {m : Mem} {K : CV → Mem → Prop} (i j : Nat) (hij : nodupN [i, j] = true) (hlt : allLt m.length [i, j] = true)
    (hi : nth m i = some (.row 2 (dRows ((a ++ x :: b).map entW)))) (hj : nth m j = some (nmB name))
    (h : K (.rv (.one (.row i 2 0 (some (a.length + b.length))))) (weave m [i, j] [.row 2 (dRows ((a ++ b ++ [zNE]).map entW)), nmB name])) : ACall Try.prog 41 [.rv (.one (.row i 2 0 none)), .rv (.one (.fn 42 [j]))] m K := by
  refine acall_borrow [i, j] m.length rfl rfl hij hlt (args0 := [.rv (.one (.row 0 2 0 none)), .rv (.one (.fn 42 [1]))]) rfl (m0 := [.row 2 (dRows ((a ++ x :: b).map entW)), nmB name]) (fun k b' hk => ?_) (acall_body Try.func41 l41 rfl (Nat.le_of_ble_eq_true rfl) (delG_body a b x hl name hx ha hb)) (fun r1 m1 hr => ?_)
  · match k, hk with
    | 0, hk => cases hk; exact .inr ⟨fun h => h, _, by rw [nth_eq] at hi; exact hi, .rowDE rfl⟩
    | 1, hk => cases hk; exact .inr ⟨fun h => h, _, by rw [nth_eq] at hj; exact hj, .varDE (ds := [.val (.string name)]) rfl⟩
    | n + 2, hk => simp at hk
  · obtain ⟨rfl, rfl⟩ := hr
    refine ⟨by simp, ?_⟩
    show K (.rv (.one (.row i 2 0 (some (a.length + b.length))))) (weave m [i, j] [.row 2 ((dRows ((a ++ b ++ [zNE]).map entW)).map (fun cs => cs.map (CC.ren (sg [i, j] m.length)))), nmB name])
    rw [dRows_ren1]
    exact h

/-! store.Remove: exactly -/
def rowG (p : Nat) (c : CC) (k : Nat) (o : Obj) : List CC := [.dat (.val (.int .i64 o.kind)), .dat (.sl 1 o.data), (if k = p then c else .dat (.sl 2 o.entries)), .dat (.val (.string o.target)), .dat (.val (.int .i64 o.peer)), .dat (.sl 4 (o.queue.map Msg.enc)), .dat (.val (.int .i64 o.proc)), .dat (.val (.int .i64 o.links)), .dat (.val (.int .i64 o.up))]
def rowsG (p : Nat) (c : CC) (l : List Obj) : List (List CC) := (l.zipIdx.map fun x => rowG p c x.2 x.1)
theorem rowsG_get (p : Nat) (c : CC) (l : List Obj) (i : Nat) : (rowsG p c l)[i]? = (l[i]?).map (rowG p c i) := by
  simp only [rowsG, List.getElem?_map, List.getElem?_zipIdx, Nat.zero_add]
  cases l[i]? <;> rfl
theorem rowsG_len (p : Nat) (c : CC) (l : List Obj) : (rowsG p c l).length = l.length := by simp [rowsG]
theorem rowsE_G (p Q : Nat) (l : List Obj) : rowsE p Q 0 l = rowsG p (.row Q 2 0 none) l := by
  apply List.ext_getElem?
  intro i
  rw [rowsE_get, rowsG_get, Nat.zero_add]
  rfl
theorem rowsG_set {p : Nat} {c : CC} {l : List Obj} {k : Nat} {o : Obj} (hk : k < l.length) : setN (rowsG p c l) k (rowG p c k o) = rowsG p c (l.set k o) := by
  rw [setN_eq]
  apply List.ext_getElem?
  intro i
  rw [rowsG_get]
  by_cases h : k = i
  · subst h
    rw [List.getElem?_set_self (by rw [rowsG_len]; exact hk), List.getElem?_set_self hk]
    rfl
  · rw [List.getElem?_set_ne h, List.getElem?_set_ne h, rowsG_get]
theorem rowsG_setQ {p : Nat} {c c' : CC} {l : List Obj} {o : Obj} (hp : l[p]? = some o) : setN (rowsG p c l) p (rowG p c' p o) = rowsG p c' l := by
  have hpl := (List.getElem?_eq_some_iff.1 hp).1
  rw [setN_eq]
  apply List.ext_getElem?
  intro i
  rw [rowsG_get]
  by_cases h : p = i
  · subst h
    rw [List.getElem?_set_self (by rw [rowsG_len]; exact hpl), hp]
    rfl
  · rw [List.getElem?_set_ne h, rowsG_get]
    cases l[i]? with
    | none => rfl
    | some x =>
      have h2 : ¬ i = p := fun e => h e.symm
      simp only [Option.map_some, rowG, if_neg h2]
theorem frzG {m : Mem} {Z : Nat → Prop} {pp : Option Nat} {id p : Nat} {c : CC} {l : List Obj} {o : Obj} {E : List (List Dt)} (hz : Z id) (hm : m[id]? = some (.row 9 (rowsG p c l))) (hq : FrzD m Z (some id) c (.sl 2 E)) (hp : l[p]? = some o) :
    FrzD m Z pp (.row id 9 0 none) (objsD (l.set p { o with entries := E })) := by
  have hpl := (List.getElem?_eq_some_iff.1 hp).1
  have key : ∀ (i : Nat) cs es, (rowsG p c l)[i]? = some cs → ((l.set p { o with entries := E }).map Obj.enc)[i]? = some es → CcsFz m Z (some id) cs es := by
    intro i cs es h1 h2
    rw [rowsG_get] at h1
    rw [List.getElem?_map] at h2
    by_cases h : p = i
    · subst h
      rw [List.getElem?_set_self hpl] at h2
      rw [hp] at h1
      cases h1
      cases h2
      simp only [rowG, if_pos, Obj.enc]
      exact .cons (.dat _) (.cons (.dat _) (.cons hq (.cons (.dat _) (.cons (.dat _) (.cons (.dat _) (.cons (.dat _) (.cons (.dat _) (.cons (.dat _) .nil))))))))
    · rw [List.getElem?_set_ne h] at h2
      cases hx : l[i]? with
      | none => rw [hx] at h1; cases h1
      | some x =>
        rw [hx] at h1 h2
        cases h1
        cases h2
        have h3 : ¬ i = p := fun e => h e.symm
        simp only [rowG, if_neg h3, Obj.enc]
        exact .cons (.dat _) (.cons (.dat _) (.cons (.dat _) (.cons (.dat _) (.cons (.dat _) (.cons (.dat _) (.cons (.dat _) (.cons (.dat _) (.cons (.dat _) .nil))))))))
  exact FrzD.row id 9 0 none _ _ hz hm (by rw [rowsG_len, List.length_map, List.length_set]) (fun i cs es h1 h2 => (key i cs es h1 h2).len) (fun i cs es j c d h1 h2 h3 h4 => (key i cs es h1 h2).get j c d h3 h4)
/-- what the document's Remove comes to -/
def remSO (l : List Obj) (n k : Nat) (name : ByteArray) : List Obj := match l[n]? with
  | none => l
  | some o => match (l.set n { o with entries := ((o.entries.map unE).filter fun e => decide (e.1.toList ≠ name.toList)).map entD })[k]? with
    | none => l
    | some q => (l.set n { o with entries := ((o.entries.map unE).filter fun e => decide (e.1.toList ≠ name.toList)).map entD }).set k { q with links := IntKind.i64.wrap (q.links - 1), up := if q.kind = 2 then (k : Int) else q.up }
def remKO (o : Obj) (l : List Obj) (n : Nat) (name : ByteArray) : List Obj × Int × Int :=
  if o.kind ≠ 2 then ([], 0, 11) else if findS (o.entries.map unE) name < 0 then ([], 0, 6) else match l[(findS (o.entries.map unE) name).toNat]? with
    | none => ([], 0, 6)
    | some q => if q.kind = 2 ∧ q.entries.length > 0 then ([], 0, 18) else (remSO l n (findS (o.entries.map unE) name).toNat name, findS (o.entries.map unE) name, 0)
def sRemoveS (l : List Obj) (dir : Int) (name : ByteArray) : List Obj × Int × Int :=
  if isSO l dir 0 = true then (match l[dir.toNat]? with
    | none => ([], 0, 6)
    | some o => remKO o l dir.toNat name) else ([], 0, 6)
theorem remSO_at {l : List Obj} {n k : Nat} (hn : n < l.length) (hk : k < l.length) {name : ByteArray} {E : List (List Dt)} (hE : E = ((l[n].entries.map unE).filter fun e => decide (e.1.toList ≠ name.toList)).map entD) {q : Obj} (hq : q = { l[k] with links := IntKind.i64.wrap (l[k].links - 1), up := if l[k].kind = 2 then (k : Int) else l[k].up }) :
    ∃ o2, (l.set k q)[n]? = some o2 ∧ (l.set k q).set n { o2 with entries := E } = remSO l n k name := by
  subst hE
  unfold remSO
  rw [List.getElem?_eq_getElem hn]
  simp only []
  by_cases h : k = n
  · subst h
    rw [List.getElem?_set_self hn, List.getElem?_set_self hn]
    refine ⟨_, rfl, ?_⟩
    simp only [List.set_set]
    subst hq
    rfl
  · rw [List.getElem?_set_ne h, List.getElem?_eq_getElem hn, List.getElem?_set_ne (fun e => h e.symm), List.getElem?_eq_getElem hk]
    refine ⟨_, rfl, ?_⟩
    simp only []
    rw [List.set_comm _ _ h, ← hq]
/-- the one that goes, and the others -/
theorem srt_split {es : List NE} (hs : Srt es) {name : ByteArray} (h : ¬ findS es name < 0) (hpos : ∀ e, e ∈ es → 0 ≤ e.2) : ∃ a x b, es = a ++ x :: b ∧ x.1.toList = name.toList ∧ x.2 = findS es name ∧ (∀ e, e ∈ a → e.1.toList ≠ name.toList) ∧ (∀ e, e ∈ b → e.1.toList ≠ name.toList) ∧ es.filter (fun e => decide (e.1.toList ≠ name.toList)) = a ++ b := by
  rcases findS_OK es name with ⟨x, hx, h1, h2⟩ | ⟨h2, _⟩
  · obtain ⟨a, b, rfl⟩ := List.append_of_mem hx
    have hu : ∀ y, y ∈ a ++ x :: b → y.1.toList = name.toList → y = x := fun y hy he => srt_uniq hs hy hx (he.trans h1.symm)
    have hp := hs
    unfold Srt at hp
    rw [List.pairwise_append, List.pairwise_cons] at hp
    have hna : ∀ e, e ∈ a → e.1.toList ≠ name.toList := fun e he h3 => by
      have := hp.2.2 e he x (by simp)
      rw [ltN, h3, ← h1, bl_irr] at this
      cases this
    have hnb : ∀ e, e ∈ b → e.1.toList ≠ name.toList := fun e he h3 => by
      have := hp.2.1.1 e he
      rw [ltN, h3, ← h1, bl_irr] at this
      cases this
    refine ⟨a, x, b, rfl, h1, h2.symm, hna, hnb, ?_⟩
    rw [List.filter_append, List.filter_cons, if_neg (by simpa using h1), List.filter_eq_self.2 (fun e he => by simpa using hna e he), List.filter_eq_self.2 (fun e he => by simpa using hnb e he)]
  · rw [h2] at h; omega
def RemP (R : List Obj × Int × Int) (r : CV) (m : Mem) : Prop := ∃ r' m', View 0 ⟨[r], m⟩ ⟨[r'], m'⟩ ∧ r' = .tup [objsR R.1, iRV R.2.1, iRV R.2.2] ∧ m' = []
theorem remP_err {R : List Obj × Int × Int} {m : Mem} (e : Int) (h : R = ([], 0, e)) : RemP R (.tup [.one .esl, iRV 0, iRV e]) m := by
  subst h
  exact ⟨_, _, View.of m.length [] [] rfl rfl rfl rfl rfl rfl (.put (tup3V (.one (.frz (.esl 9))) (.one (.ren (.dat _))) (.one (.ren (.dat _)))) .nil) (.nil _), rfl, rfl⟩
set_option maxRecDepth 100000 in
set_option maxHeartbeats 16000000 in
theorem sremove_body (l : List Obj) (hs : SrtL l) (dir : Int) (name : ByteArray) : body Try.prog c16 [objsV l, vInt .i64 dir, vStr name] [] (RemP (sRemoveS l dir name)) := by
  refine bB_dec (fun h1 => ?_) (fun h1 => ?_)
  · exact remP_err 6 (by unfold sRemoveS; rw [isSO_no1 h1]; rfl)
  obtain ⟨n, rfl⟩ : ∃ n : Nat, dir = n := ⟨dir.toNat, by have h1 : ¬ dir < 0 := h1; omega⟩
  refine bB_dec (fun h2 => ?_) (fun h2 => ?_)
  · have h2 : (n : Int) ≥ ((l.map Obj.enc).length : Int) := h2
    rw [List.length_map] at h2
    exact remP_err 6 (by unfold sRemoveS; rw [isSO_no2 h2]; rfl)
  have h2 : ¬ (n : Int) ≥ ((l.map Obj.enc).length : Int) := h2
  rw [List.length_map] at h2
  have hn : n < l.length := by omega
  have hgn := obj_getO hn
  refine ok_some hgn ?_
  refine bB_beq (fun h3 => ?_) (fun h3 => ?_)
  · exact remP_err 6 (by unfold sRemoveS; rw [isSO_no3 hn h3]; rfl)
  have h3 : l[n].kind ≠ 0 := h3
  have hR : sRemoveS l n name = remKO l[n] l n name := by
    unfold sRemoveS
    rw [if_pos (isSO_yes hn h3), Int.toNat_natCast, List.getElem?_eq_getElem hn]
  rw [hR]
  unfold remKO
  refine ok_some hgn ?_
  refine bB_bne (fun h7 => ?_) (fun h7 => ?_)
  · exact remP_err 11 (if_pos h7)
  have h7 : l[n].kind = 2 := by simpa using h7
  rw [if_neg (by rw [h7]; simp)]
  obtain ⟨es, he, hsrt, hesl, hpos⟩ := hs.en _ (List.getElem_mem hn)
  have hun : l[n].entries.map unE = es := by rw [he, unE_map]
  refine sfind_ok l n hn h7 es he (by omega) name ?_
  have hfw : findW l es n name = findS es name := find_uniq hsrt name
  rw [hfw, hun]
  refine bB_dec (fun h9 => ?_) (fun h9 => ?_)
  · exact remP_err 6 (if_pos h9)
  have h9 : ¬ findS es name < 0 := h9
  rw [if_neg h9]
  obtain ⟨a, x, b, hab, hx, hx2, ha, hb, hfil⟩ := srt_split hsrt h9 fun e he => (hpos e he).1
  have hxr := hpos x (by rw [hab]; simp)
  obtain ⟨k, hk⟩ : ∃ k : Nat, findS es name = k := ⟨(findS es name).toNat, by omega⟩
  have hkl : k < l.length := by omega
  have hgk := obj_getO hkl
  rw [hk, Int.toNat_natCast, List.getElem?_eq_getElem hkl]
  simp only []
  have hab2 : a.length + b.length ≤ 4194303 := by rw [hab] at hesl; simp at hesl; omega
  have hrow : ∀ c, nth (rowsG n c l) n = some [.dat (.val (.int .i64 l[n].kind)), .dat (.sl 1 l[n].data), c, .dat (.val (.string l[n].target)), .dat (.val (.int .i64 l[n].peer)), .dat (.sl 4 (l[n].queue.map Msg.enc)), .dat (.val (.int .i64 l[n].proc)), .dat (.val (.int .i64 l[n].links)), .dat (.val (.int .i64 l[n].up))] := fun c => by
    rw [nth_eq, rowsG_get, List.getElem?_eq_getElem hn, Option.map_some, rowG, if_pos rfl]
  have heb : ebO l n l.length = .row 2 (dRows ((a ++ x :: b).map entW)) := by
    unfold ebO
    rw [show Nat.blt n l.length = true by simpa using hn]
    show Bk.row 2 (dRows (match l[n]? with | some o => o.entries | none => [])) = _
    rw [List.getElem?_eq_getElem hn]
    show Bk.row 2 (dRows l[n].entries) = _
    rw [he, hab]
    rfl
  have hi2 : ∀ (c : CC) (l2 : List Obj) (j : Nat), l2.length = l.length → j < l.length → idxZ (j : Nat) (lenOf (rowsG n c l2).length 0 none) = some j := fun c l2 j h hj => idxZ_nat (by rw [show lenOf (rowsG n c l2).length 0 none = l2.length from rowsG_len n c l2, h]; exact hj)
  have hEq : ((a ++ b).map entW) = ((l[n].entries.map unE).filter fun e => decide (e.1.toList ≠ name.toList)).map entD := by
    rw [hun, hfil]
    rfl
  have hfinal : ∀ L2 : List Obj, L2 = remSO l n k name → aw Try.prog 0 G88 (endK Try.prog c16.res (RemP (remSO l n k name, (k : Int), 0))) ⟨mkE 90 [(9, vInt .i64 (k : Nat)), (10, objsV L2)], []⟩ := fun L2 h => by
    subst h
    exact ⟨_, _, View.of 0 [] [] rfl rfl rfl rfl rfl rfl (.eq rfl .nil) (.nil _), rfl, rfl⟩
  have hX1 : (setN (rowsG n (.row 2 2 0 none) l) n [.dat (.val (.int .i64 l[n].kind)), .dat (.sl 1 l[n].data), .row 2 2 0 (some (a.length + b.length)), .dat (.val (.string l[n].target)), .dat (.val (.int .i64 l[n].peer)), .dat (.sl 4 (l[n].queue.map Msg.enc)), .dat (.val (.int .i64 l[n].proc)), .dat (.val (.int .i64 l[n].links)), .dat (.val (.int .i64 l[n].up))]) = rowsG n (.row 2 2 0 (some (a.length + b.length))) l := by
    have := rowsG_setQ (p := n) (c := .row 2 2 0 none) (c' := .row 2 2 0 (some (a.length + b.length))) (List.getElem?_eq_getElem hn)
    rw [← this, rowG, if_pos rfl]
  have hsub : subL ((a ++ b ++ [zNE]).map entW) 0 (some (a.length + b.length)) = (a ++ b).map entW := by
    show ((a ++ b ++ [zNE]).map entW).take (a.length + b.length) = _
    rw [List.map_append, List.take_left' (by simp)]
  have hq : ∀ m : Mem, m[2]? = some (.row 2 (dRows ((a ++ b ++ [zNE]).map entW))) → FrzD m (fun k => memN [1, 2] k = true) (some 1) (.row 2 2 0 (some (a.length + b.length))) (.sl 2 ((a ++ b).map entW)) := fun m hm => by
    have := FrzD.rowD (Z := fun k => memN [1, 2] k = true) (p := some 1) rfl hm 0 (some (a.length + b.length))
    rw [hsub] at this
    exact this
  refine ok_some hgk ?_
  refine bB_beq (fun hkk => ?_) (fun hkk => ?_)
  · refine ok_some hgk ?_
    refine bB_dec (fun hen => ?_) (fun hen => ?_)
    · exact remP_err 18 (if_pos ⟨hkk, by have hen : (l[k].entries.length : Int) > 0 := hen; omega⟩)
    · rw [if_neg (fun h => hen (by show (l[k].entries.length : Int) > 0; omega))]
      refine ownE_ok l hs.fit n ?_
      rw [heb, rowsE_G]
      refine ok_some (hi2 (.row 2 2 0 none) l n rfl hn) ?_
      refine ok_some (hrow (.row 2 2 0 none)) ?_
      refine delG_ok a b x hab2 name hx ha hb 2 0 rfl rfl rfl rfl ?_
      refine ok_some (hi2 (.row 2 2 0 none) l n rfl hn) ?_
      refine ok_some (hrow (.row 2 2 0 none)) ?_
      by_cases hkn : k = n
      · have hrk : nth (rowsG n (.row 2 2 0 (some (a.length + b.length))) l) k = some [.dat (.val (.int .i64 l[k].kind)), .dat (.sl 1 l[k].data), .row 2 2 0 (some (a.length + b.length)), .dat (.val (.string l[k].target)), .dat (.val (.int .i64 l[k].peer)), .dat (.sl 4 (l[k].queue.map Msg.enc)), .dat (.val (.int .i64 l[k].proc)), .dat (.val (.int .i64 l[k].links)), .dat (.val (.int .i64 l[k].up))] := by
          rw [nth_eq, rowsG_get, List.getElem?_eq_getElem hkl, Option.map_some, rowG, if_pos hkn]
        have hX2 : (setN (setN (rowsG n (.row 2 2 0 none) l) n [.dat (.val (.int .i64 l[n].kind)), .dat (.sl 1 l[n].data), .row 2 2 0 (some (a.length + b.length)), .dat (.val (.string l[n].target)), .dat (.val (.int .i64 l[n].peer)), .dat (.sl 4 (l[n].queue.map Msg.enc)), .dat (.val (.int .i64 l[n].proc)), .dat (.val (.int .i64 l[n].links)), .dat (.val (.int .i64 l[n].up))]) k [.dat (.val (.int .i64 l[k].kind)), .dat (.sl 1 l[k].data), .row 2 2 0 (some (a.length + b.length)), .dat (.val (.string l[k].target)), .dat (.val (.int .i64 l[k].peer)), .dat (.sl 4 (l[k].queue.map Msg.enc)), .dat (.val (.int .i64 l[k].proc)), .dat (.val (.int .i64 (IntKind.i64.wrap (l[k].links - 1)))), .dat (.val (.int .i64 l[k].up))]) = rowsG n (.row 2 2 0 (some (a.length + b.length))) (l.set k { l[k] with links := (IntKind.i64.wrap (l[k].links - 1)) }) := by
          rw [hX1]
          have := rowsG_set (p := n) (c := .row 2 2 0 (some (a.length + b.length))) (o := { l[k] with links := (IntKind.i64.wrap (l[k].links - 1)) }) hkl
          rw [← this, rowG, if_pos hkn]
        have hr2 : nth (setN (setN (rowsG n (.row 2 2 0 none) l) n [.dat (.val (.int .i64 l[n].kind)), .dat (.sl 1 l[n].data), .row 2 2 0 (some (a.length + b.length)), .dat (.val (.string l[n].target)), .dat (.val (.int .i64 l[n].peer)), .dat (.sl 4 (l[n].queue.map Msg.enc)), .dat (.val (.int .i64 l[n].proc)), .dat (.val (.int .i64 l[n].links)), .dat (.val (.int .i64 l[n].up))]) k [.dat (.val (.int .i64 l[k].kind)), .dat (.sl 1 l[k].data), .row 2 2 0 (some (a.length + b.length)), .dat (.val (.string l[k].target)), .dat (.val (.int .i64 l[k].peer)), .dat (.sl 4 (l[k].queue.map Msg.enc)), .dat (.val (.int .i64 l[k].proc)), .dat (.val (.int .i64 (IntKind.i64.wrap (l[k].links - 1)))), .dat (.val (.int .i64 l[k].up))]) k = some [.dat (.val (.int .i64 l[k].kind)), .dat (.sl 1 l[k].data), .row 2 2 0 (some (a.length + b.length)), .dat (.val (.string l[k].target)), .dat (.val (.int .i64 l[k].peer)), .dat (.sl 4 (l[k].queue.map Msg.enc)), .dat (.val (.int .i64 l[k].proc)), .dat (.val (.int .i64 (IntKind.i64.wrap (l[k].links - 1)))), .dat (.val (.int .i64 l[k].up))] := by
          rw [setN_eq, nth_eq, List.getElem?_set_self (by rw [hX1, rowsG_len]; exact hkl)]
        refine ok_some (by rw [hX1]; exact hi2 _ l k rfl hkl : idxZ (k : Nat) (lenOf (setN (rowsG n (.row 2 2 0 none) l) n [.dat (.val (.int .i64 l[n].kind)), .dat (.sl 1 l[n].data), .row 2 2 0 (some (a.length + b.length)), .dat (.val (.string l[n].target)), .dat (.val (.int .i64 l[n].peer)), .dat (.sl 4 (l[n].queue.map Msg.enc)), .dat (.val (.int .i64 l[n].proc)), .dat (.val (.int .i64 l[n].links)), .dat (.val (.int .i64 l[n].up))]).length 0 none) = some k) ?_
        refine ok_some (by rw [hX1]; exact hrk : nth (setN (rowsG n (.row 2 2 0 none) l) n [.dat (.val (.int .i64 l[n].kind)), .dat (.sl 1 l[n].data), .row 2 2 0 (some (a.length + b.length)), .dat (.val (.string l[n].target)), .dat (.val (.int .i64 l[n].peer)), .dat (.sl 4 (l[n].queue.map Msg.enc)), .dat (.val (.int .i64 l[n].proc)), .dat (.val (.int .i64 l[n].links)), .dat (.val (.int .i64 l[n].up))]) k = some [.dat (.val (.int .i64 l[k].kind)), .dat (.sl 1 l[k].data), .row 2 2 0 (some (a.length + b.length)), .dat (.val (.string l[k].target)), .dat (.val (.int .i64 l[k].peer)), .dat (.sl 4 (l[k].queue.map Msg.enc)), .dat (.val (.int .i64 l[k].proc)), .dat (.val (.int .i64 l[k].links)), .dat (.val (.int .i64 l[k].up))]) ?_
        refine ok_some (by rw [hX1]; exact hi2 _ l k rfl hkl : idxZ (k : Nat) (lenOf (setN (rowsG n (.row 2 2 0 none) l) n [.dat (.val (.int .i64 l[n].kind)), .dat (.sl 1 l[n].data), .row 2 2 0 (some (a.length + b.length)), .dat (.val (.string l[n].target)), .dat (.val (.int .i64 l[n].peer)), .dat (.sl 4 (l[n].queue.map Msg.enc)), .dat (.val (.int .i64 l[n].proc)), .dat (.val (.int .i64 l[n].links)), .dat (.val (.int .i64 l[n].up))]).length 0 none) = some k) ?_
        refine ok_some (by rw [hX1]; exact hrk : nth (setN (rowsG n (.row 2 2 0 none) l) n [.dat (.val (.int .i64 l[n].kind)), .dat (.sl 1 l[n].data), .row 2 2 0 (some (a.length + b.length)), .dat (.val (.string l[n].target)), .dat (.val (.int .i64 l[n].peer)), .dat (.sl 4 (l[n].queue.map Msg.enc)), .dat (.val (.int .i64 l[n].proc)), .dat (.val (.int .i64 l[n].links)), .dat (.val (.int .i64 l[n].up))]) k = some [.dat (.val (.int .i64 l[k].kind)), .dat (.sl 1 l[k].data), .row 2 2 0 (some (a.length + b.length)), .dat (.val (.string l[k].target)), .dat (.val (.int .i64 l[k].peer)), .dat (.sl 4 (l[k].queue.map Msg.enc)), .dat (.val (.int .i64 l[k].proc)), .dat (.val (.int .i64 l[k].links)), .dat (.val (.int .i64 l[k].up))]) ?_
        refine ok_some (by rw [hX2]; exact hi2 _ _ k (List.length_set ..) hkl : idxZ (k : Nat) (lenOf (setN (setN (rowsG n (.row 2 2 0 none) l) n [.dat (.val (.int .i64 l[n].kind)), .dat (.sl 1 l[n].data), .row 2 2 0 (some (a.length + b.length)), .dat (.val (.string l[n].target)), .dat (.val (.int .i64 l[n].peer)), .dat (.sl 4 (l[n].queue.map Msg.enc)), .dat (.val (.int .i64 l[n].proc)), .dat (.val (.int .i64 l[n].links)), .dat (.val (.int .i64 l[n].up))]) k [.dat (.val (.int .i64 l[k].kind)), .dat (.sl 1 l[k].data), .row 2 2 0 (some (a.length + b.length)), .dat (.val (.string l[k].target)), .dat (.val (.int .i64 l[k].peer)), .dat (.sl 4 (l[k].queue.map Msg.enc)), .dat (.val (.int .i64 l[k].proc)), .dat (.val (.int .i64 (IntKind.i64.wrap (l[k].links - 1)))), .dat (.val (.int .i64 l[k].up))]).length 0 none) = some k) ?_
        refine ok_some hr2 ?_
        refine bB_beq (fun hkd => ?_) (fun hkd => ?_)
        · have hkd : l[k].kind = 2 := hkd
          have hX3 : (setN (setN (setN (rowsG n (.row 2 2 0 none) l) n [.dat (.val (.int .i64 l[n].kind)), .dat (.sl 1 l[n].data), .row 2 2 0 (some (a.length + b.length)), .dat (.val (.string l[n].target)), .dat (.val (.int .i64 l[n].peer)), .dat (.sl 4 (l[n].queue.map Msg.enc)), .dat (.val (.int .i64 l[n].proc)), .dat (.val (.int .i64 l[n].links)), .dat (.val (.int .i64 l[n].up))]) k [.dat (.val (.int .i64 l[k].kind)), .dat (.sl 1 l[k].data), .row 2 2 0 (some (a.length + b.length)), .dat (.val (.string l[k].target)), .dat (.val (.int .i64 l[k].peer)), .dat (.sl 4 (l[k].queue.map Msg.enc)), .dat (.val (.int .i64 l[k].proc)), .dat (.val (.int .i64 (IntKind.i64.wrap (l[k].links - 1)))), .dat (.val (.int .i64 l[k].up))]) k [.dat (.val (.int .i64 l[k].kind)), .dat (.sl 1 l[k].data), .row 2 2 0 (some (a.length + b.length)), .dat (.val (.string l[k].target)), .dat (.val (.int .i64 l[k].peer)), .dat (.sl 4 (l[k].queue.map Msg.enc)), .dat (.val (.int .i64 l[k].proc)), .dat (.val (.int .i64 (IntKind.i64.wrap (l[k].links - 1)))), .dat (.val (.int .i64 (k : Nat)))]) = rowsG n (.row 2 2 0 (some (a.length + b.length))) (l.set k { l[k] with links := (IntKind.i64.wrap (l[k].links - 1)), up := (k : Int) }) := by
            rw [hX2]
            have := rowsG_set (p := n) (c := .row 2 2 0 (some (a.length + b.length))) (l := l.set k { l[k] with links := (IntKind.i64.wrap (l[k].links - 1)) }) (k := k) (o := { l[k] with links := (IntKind.i64.wrap (l[k].links - 1)), up := (k : Int) }) (by rw [List.length_set]; exact hkl)
            rw [List.set_set] at this
            rw [← this, rowG, if_pos hkn]
          refine ok_some (by rw [hX2]; exact hi2 _ _ k (List.length_set ..) hkl : idxZ (k : Nat) (lenOf (setN (setN (rowsG n (.row 2 2 0 none) l) n [.dat (.val (.int .i64 l[n].kind)), .dat (.sl 1 l[n].data), .row 2 2 0 (some (a.length + b.length)), .dat (.val (.string l[n].target)), .dat (.val (.int .i64 l[n].peer)), .dat (.sl 4 (l[n].queue.map Msg.enc)), .dat (.val (.int .i64 l[n].proc)), .dat (.val (.int .i64 l[n].links)), .dat (.val (.int .i64 l[n].up))]) k [.dat (.val (.int .i64 l[k].kind)), .dat (.sl 1 l[k].data), .row 2 2 0 (some (a.length + b.length)), .dat (.val (.string l[k].target)), .dat (.val (.int .i64 l[k].peer)), .dat (.sl 4 (l[k].queue.map Msg.enc)), .dat (.val (.int .i64 l[k].proc)), .dat (.val (.int .i64 (IntKind.i64.wrap (l[k].links - 1)))), .dat (.val (.int .i64 l[k].up))]).length 0 none) = some k) ?_
          refine ok_some hr2 ?_
          obtain ⟨o2, ho2, hfin⟩ := remSO_at (name := name) hn hkl hEq (q := { l[k] with links := (IntKind.i64.wrap (l[k].links - 1)), up := (k : Int) }) (by rw [if_pos hkd])
          refine ⟨_, View.of 3 [] [1, 2] rfl rfl rfl rfl rfl rfl ?_ (.nil _), hfinal _ hfin⟩
          iterate 9 refine .junk ?_
          refine .eq rfl ?_
          refine .put (.rv (.one (.frz (p := none) (frzG (Z := fun k => memN [1, 2] k = true) rfl (by show some (Bk.row 9 _) = some (Bk.row 9 _); congr 1; exact congrArg _ hX3) (hq _ rfl) ho2)))) ?_
          repeat (first | exact .nil | refine .junk ?_)
        · have hkd : l[k].kind ≠ 2 := hkd
          obtain ⟨o2, ho2, hfin⟩ := remSO_at (name := name) hn hkl hEq (q := { l[k] with links := (IntKind.i64.wrap (l[k].links - 1)) }) (by rw [if_neg hkd])
          refine ⟨_, View.of 3 [] [1, 2] rfl rfl rfl rfl rfl rfl ?_ (.nil _), hfinal _ hfin⟩
          iterate 9 refine .junk ?_
          refine .eq rfl ?_
          refine .put (.rv (.one (.frz (p := none) (frzG (Z := fun k => memN [1, 2] k = true) rfl (by show some (Bk.row 9 _) = some (Bk.row 9 _); congr 1; exact congrArg _ hX2) (hq _ rfl) ho2)))) ?_
          repeat (first | exact .nil | refine .junk ?_)
      · have hrk : nth (rowsG n (.row 2 2 0 (some (a.length + b.length))) l) k = some [.dat (.val (.int .i64 l[k].kind)), .dat (.sl 1 l[k].data), .dat (.sl 2 l[k].entries), .dat (.val (.string l[k].target)), .dat (.val (.int .i64 l[k].peer)), .dat (.sl 4 (l[k].queue.map Msg.enc)), .dat (.val (.int .i64 l[k].proc)), .dat (.val (.int .i64 l[k].links)), .dat (.val (.int .i64 l[k].up))] := by
          rw [nth_eq, rowsG_get, List.getElem?_eq_getElem hkl, Option.map_some, rowG, if_neg hkn]
        have hX2 : (setN (setN (rowsG n (.row 2 2 0 none) l) n [.dat (.val (.int .i64 l[n].kind)), .dat (.sl 1 l[n].data), .row 2 2 0 (some (a.length + b.length)), .dat (.val (.string l[n].target)), .dat (.val (.int .i64 l[n].peer)), .dat (.sl 4 (l[n].queue.map Msg.enc)), .dat (.val (.int .i64 l[n].proc)), .dat (.val (.int .i64 l[n].links)), .dat (.val (.int .i64 l[n].up))]) k [.dat (.val (.int .i64 l[k].kind)), .dat (.sl 1 l[k].data), .dat (.sl 2 l[k].entries), .dat (.val (.string l[k].target)), .dat (.val (.int .i64 l[k].peer)), .dat (.sl 4 (l[k].queue.map Msg.enc)), .dat (.val (.int .i64 l[k].proc)), .dat (.val (.int .i64 (IntKind.i64.wrap (l[k].links - 1)))), .dat (.val (.int .i64 l[k].up))]) = rowsG n (.row 2 2 0 (some (a.length + b.length))) (l.set k { l[k] with links := (IntKind.i64.wrap (l[k].links - 1)) }) := by
          rw [hX1]
          have := rowsG_set (p := n) (c := .row 2 2 0 (some (a.length + b.length))) (o := { l[k] with links := (IntKind.i64.wrap (l[k].links - 1)) }) hkl
          rw [← this, rowG, if_neg hkn]
        have hr2 : nth (setN (setN (rowsG n (.row 2 2 0 none) l) n [.dat (.val (.int .i64 l[n].kind)), .dat (.sl 1 l[n].data), .row 2 2 0 (some (a.length + b.length)), .dat (.val (.string l[n].target)), .dat (.val (.int .i64 l[n].peer)), .dat (.sl 4 (l[n].queue.map Msg.enc)), .dat (.val (.int .i64 l[n].proc)), .dat (.val (.int .i64 l[n].links)), .dat (.val (.int .i64 l[n].up))]) k [.dat (.val (.int .i64 l[k].kind)), .dat (.sl 1 l[k].data), .dat (.sl 2 l[k].entries), .dat (.val (.string l[k].target)), .dat (.val (.int .i64 l[k].peer)), .dat (.sl 4 (l[k].queue.map Msg.enc)), .dat (.val (.int .i64 l[k].proc)), .dat (.val (.int .i64 (IntKind.i64.wrap (l[k].links - 1)))), .dat (.val (.int .i64 l[k].up))]) k = some [.dat (.val (.int .i64 l[k].kind)), .dat (.sl 1 l[k].data), .dat (.sl 2 l[k].entries), .dat (.val (.string l[k].target)), .dat (.val (.int .i64 l[k].peer)), .dat (.sl 4 (l[k].queue.map Msg.enc)), .dat (.val (.int .i64 l[k].proc)), .dat (.val (.int .i64 (IntKind.i64.wrap (l[k].links - 1)))), .dat (.val (.int .i64 l[k].up))] := by
          rw [setN_eq, nth_eq, List.getElem?_set_self (by rw [hX1, rowsG_len]; exact hkl)]
        refine ok_some (by rw [hX1]; exact hi2 _ l k rfl hkl : idxZ (k : Nat) (lenOf (setN (rowsG n (.row 2 2 0 none) l) n [.dat (.val (.int .i64 l[n].kind)), .dat (.sl 1 l[n].data), .row 2 2 0 (some (a.length + b.length)), .dat (.val (.string l[n].target)), .dat (.val (.int .i64 l[n].peer)), .dat (.sl 4 (l[n].queue.map Msg.enc)), .dat (.val (.int .i64 l[n].proc)), .dat (.val (.int .i64 l[n].links)), .dat (.val (.int .i64 l[n].up))]).length 0 none) = some k) ?_
        refine ok_some (by rw [hX1]; exact hrk : nth (setN (rowsG n (.row 2 2 0 none) l) n [.dat (.val (.int .i64 l[n].kind)), .dat (.sl 1 l[n].data), .row 2 2 0 (some (a.length + b.length)), .dat (.val (.string l[n].target)), .dat (.val (.int .i64 l[n].peer)), .dat (.sl 4 (l[n].queue.map Msg.enc)), .dat (.val (.int .i64 l[n].proc)), .dat (.val (.int .i64 l[n].links)), .dat (.val (.int .i64 l[n].up))]) k = some [.dat (.val (.int .i64 l[k].kind)), .dat (.sl 1 l[k].data), .dat (.sl 2 l[k].entries), .dat (.val (.string l[k].target)), .dat (.val (.int .i64 l[k].peer)), .dat (.sl 4 (l[k].queue.map Msg.enc)), .dat (.val (.int .i64 l[k].proc)), .dat (.val (.int .i64 l[k].links)), .dat (.val (.int .i64 l[k].up))]) ?_
        refine ok_some (by rw [hX1]; exact hi2 _ l k rfl hkl : idxZ (k : Nat) (lenOf (setN (rowsG n (.row 2 2 0 none) l) n [.dat (.val (.int .i64 l[n].kind)), .dat (.sl 1 l[n].data), .row 2 2 0 (some (a.length + b.length)), .dat (.val (.string l[n].target)), .dat (.val (.int .i64 l[n].peer)), .dat (.sl 4 (l[n].queue.map Msg.enc)), .dat (.val (.int .i64 l[n].proc)), .dat (.val (.int .i64 l[n].links)), .dat (.val (.int .i64 l[n].up))]).length 0 none) = some k) ?_
        refine ok_some (by rw [hX1]; exact hrk : nth (setN (rowsG n (.row 2 2 0 none) l) n [.dat (.val (.int .i64 l[n].kind)), .dat (.sl 1 l[n].data), .row 2 2 0 (some (a.length + b.length)), .dat (.val (.string l[n].target)), .dat (.val (.int .i64 l[n].peer)), .dat (.sl 4 (l[n].queue.map Msg.enc)), .dat (.val (.int .i64 l[n].proc)), .dat (.val (.int .i64 l[n].links)), .dat (.val (.int .i64 l[n].up))]) k = some [.dat (.val (.int .i64 l[k].kind)), .dat (.sl 1 l[k].data), .dat (.sl 2 l[k].entries), .dat (.val (.string l[k].target)), .dat (.val (.int .i64 l[k].peer)), .dat (.sl 4 (l[k].queue.map Msg.enc)), .dat (.val (.int .i64 l[k].proc)), .dat (.val (.int .i64 l[k].links)), .dat (.val (.int .i64 l[k].up))]) ?_
        refine ok_some (by rw [hX2]; exact hi2 _ _ k (List.length_set ..) hkl : idxZ (k : Nat) (lenOf (setN (setN (rowsG n (.row 2 2 0 none) l) n [.dat (.val (.int .i64 l[n].kind)), .dat (.sl 1 l[n].data), .row 2 2 0 (some (a.length + b.length)), .dat (.val (.string l[n].target)), .dat (.val (.int .i64 l[n].peer)), .dat (.sl 4 (l[n].queue.map Msg.enc)), .dat (.val (.int .i64 l[n].proc)), .dat (.val (.int .i64 l[n].links)), .dat (.val (.int .i64 l[n].up))]) k [.dat (.val (.int .i64 l[k].kind)), .dat (.sl 1 l[k].data), .dat (.sl 2 l[k].entries), .dat (.val (.string l[k].target)), .dat (.val (.int .i64 l[k].peer)), .dat (.sl 4 (l[k].queue.map Msg.enc)), .dat (.val (.int .i64 l[k].proc)), .dat (.val (.int .i64 (IntKind.i64.wrap (l[k].links - 1)))), .dat (.val (.int .i64 l[k].up))]).length 0 none) = some k) ?_
        refine ok_some hr2 ?_
        refine bB_beq (fun hkd => ?_) (fun hkd => ?_)
        · have hkd : l[k].kind = 2 := hkd
          have hX3 : (setN (setN (setN (rowsG n (.row 2 2 0 none) l) n [.dat (.val (.int .i64 l[n].kind)), .dat (.sl 1 l[n].data), .row 2 2 0 (some (a.length + b.length)), .dat (.val (.string l[n].target)), .dat (.val (.int .i64 l[n].peer)), .dat (.sl 4 (l[n].queue.map Msg.enc)), .dat (.val (.int .i64 l[n].proc)), .dat (.val (.int .i64 l[n].links)), .dat (.val (.int .i64 l[n].up))]) k [.dat (.val (.int .i64 l[k].kind)), .dat (.sl 1 l[k].data), .dat (.sl 2 l[k].entries), .dat (.val (.string l[k].target)), .dat (.val (.int .i64 l[k].peer)), .dat (.sl 4 (l[k].queue.map Msg.enc)), .dat (.val (.int .i64 l[k].proc)), .dat (.val (.int .i64 (IntKind.i64.wrap (l[k].links - 1)))), .dat (.val (.int .i64 l[k].up))]) k [.dat (.val (.int .i64 l[k].kind)), .dat (.sl 1 l[k].data), .dat (.sl 2 l[k].entries), .dat (.val (.string l[k].target)), .dat (.val (.int .i64 l[k].peer)), .dat (.sl 4 (l[k].queue.map Msg.enc)), .dat (.val (.int .i64 l[k].proc)), .dat (.val (.int .i64 (IntKind.i64.wrap (l[k].links - 1)))), .dat (.val (.int .i64 (k : Nat)))]) = rowsG n (.row 2 2 0 (some (a.length + b.length))) (l.set k { l[k] with links := (IntKind.i64.wrap (l[k].links - 1)), up := (k : Int) }) := by
            rw [hX2]
            have := rowsG_set (p := n) (c := .row 2 2 0 (some (a.length + b.length))) (l := l.set k { l[k] with links := (IntKind.i64.wrap (l[k].links - 1)) }) (k := k) (o := { l[k] with links := (IntKind.i64.wrap (l[k].links - 1)), up := (k : Int) }) (by rw [List.length_set]; exact hkl)
            rw [List.set_set] at this
            rw [← this, rowG, if_neg hkn]
          refine ok_some (by rw [hX2]; exact hi2 _ _ k (List.length_set ..) hkl : idxZ (k : Nat) (lenOf (setN (setN (rowsG n (.row 2 2 0 none) l) n [.dat (.val (.int .i64 l[n].kind)), .dat (.sl 1 l[n].data), .row 2 2 0 (some (a.length + b.length)), .dat (.val (.string l[n].target)), .dat (.val (.int .i64 l[n].peer)), .dat (.sl 4 (l[n].queue.map Msg.enc)), .dat (.val (.int .i64 l[n].proc)), .dat (.val (.int .i64 l[n].links)), .dat (.val (.int .i64 l[n].up))]) k [.dat (.val (.int .i64 l[k].kind)), .dat (.sl 1 l[k].data), .dat (.sl 2 l[k].entries), .dat (.val (.string l[k].target)), .dat (.val (.int .i64 l[k].peer)), .dat (.sl 4 (l[k].queue.map Msg.enc)), .dat (.val (.int .i64 l[k].proc)), .dat (.val (.int .i64 (IntKind.i64.wrap (l[k].links - 1)))), .dat (.val (.int .i64 l[k].up))]).length 0 none) = some k) ?_
          refine ok_some hr2 ?_
          obtain ⟨o2, ho2, hfin⟩ := remSO_at (name := name) hn hkl hEq (q := { l[k] with links := (IntKind.i64.wrap (l[k].links - 1)), up := (k : Int) }) (by rw [if_pos hkd])
          refine ⟨_, View.of 3 [] [1, 2] rfl rfl rfl rfl rfl rfl ?_ (.nil _), hfinal _ hfin⟩
          iterate 9 refine .junk ?_
          refine .eq rfl ?_
          refine .put (.rv (.one (.frz (p := none) (frzG (Z := fun k => memN [1, 2] k = true) rfl (by show some (Bk.row 9 _) = some (Bk.row 9 _); congr 1; exact congrArg _ hX3) (hq _ rfl) ho2)))) ?_
          repeat (first | exact .nil | refine .junk ?_)
        · have hkd : l[k].kind ≠ 2 := hkd
          obtain ⟨o2, ho2, hfin⟩ := remSO_at (name := name) hn hkl hEq (q := { l[k] with links := (IntKind.i64.wrap (l[k].links - 1)) }) (by rw [if_neg hkd])
          refine ⟨_, View.of 3 [] [1, 2] rfl rfl rfl rfl rfl rfl ?_ (.nil _), hfinal _ hfin⟩
          iterate 9 refine .junk ?_
          refine .eq rfl ?_
          refine .put (.rv (.one (.frz (p := none) (frzG (Z := fun k => memN [1, 2] k = true) rfl (by show some (Bk.row 9 _) = some (Bk.row 9 _); congr 1; exact congrArg _ hX2) (hq _ rfl) ho2)))) ?_
          repeat (first | exact .nil | refine .junk ?_)
  · rw [if_neg (fun h => hkk h.1)]
    refine ownE_ok l hs.fit n ?_
    rw [heb, rowsE_G]
    refine ok_some (hi2 (.row 2 2 0 none) l n rfl hn) ?_
    refine ok_some (hrow (.row 2 2 0 none)) ?_
    refine delG_ok a b x hab2 name hx ha hb 2 0 rfl rfl rfl rfl ?_
    refine ok_some (hi2 (.row 2 2 0 none) l n rfl hn) ?_
    refine ok_some (hrow (.row 2 2 0 none)) ?_
    by_cases hkn : k = n
    · have hrk : nth (rowsG n (.row 2 2 0 (some (a.length + b.length))) l) k = some [.dat (.val (.int .i64 l[k].kind)), .dat (.sl 1 l[k].data), .row 2 2 0 (some (a.length + b.length)), .dat (.val (.string l[k].target)), .dat (.val (.int .i64 l[k].peer)), .dat (.sl 4 (l[k].queue.map Msg.enc)), .dat (.val (.int .i64 l[k].proc)), .dat (.val (.int .i64 l[k].links)), .dat (.val (.int .i64 l[k].up))] := by
        rw [nth_eq, rowsG_get, List.getElem?_eq_getElem hkl, Option.map_some, rowG, if_pos hkn]
      have hX2 : (setN (setN (rowsG n (.row 2 2 0 none) l) n [.dat (.val (.int .i64 l[n].kind)), .dat (.sl 1 l[n].data), .row 2 2 0 (some (a.length + b.length)), .dat (.val (.string l[n].target)), .dat (.val (.int .i64 l[n].peer)), .dat (.sl 4 (l[n].queue.map Msg.enc)), .dat (.val (.int .i64 l[n].proc)), .dat (.val (.int .i64 l[n].links)), .dat (.val (.int .i64 l[n].up))]) k [.dat (.val (.int .i64 l[k].kind)), .dat (.sl 1 l[k].data), .row 2 2 0 (some (a.length + b.length)), .dat (.val (.string l[k].target)), .dat (.val (.int .i64 l[k].peer)), .dat (.sl 4 (l[k].queue.map Msg.enc)), .dat (.val (.int .i64 l[k].proc)), .dat (.val (.int .i64 (IntKind.i64.wrap (l[k].links - 1)))), .dat (.val (.int .i64 l[k].up))]) = rowsG n (.row 2 2 0 (some (a.length + b.length))) (l.set k { l[k] with links := (IntKind.i64.wrap (l[k].links - 1)) }) := by
        rw [hX1]
        have := rowsG_set (p := n) (c := .row 2 2 0 (some (a.length + b.length))) (o := { l[k] with links := (IntKind.i64.wrap (l[k].links - 1)) }) hkl
        rw [← this, rowG, if_pos hkn]
      have hr2 : nth (setN (setN (rowsG n (.row 2 2 0 none) l) n [.dat (.val (.int .i64 l[n].kind)), .dat (.sl 1 l[n].data), .row 2 2 0 (some (a.length + b.length)), .dat (.val (.string l[n].target)), .dat (.val (.int .i64 l[n].peer)), .dat (.sl 4 (l[n].queue.map Msg.enc)), .dat (.val (.int .i64 l[n].proc)), .dat (.val (.int .i64 l[n].links)), .dat (.val (.int .i64 l[n].up))]) k [.dat (.val (.int .i64 l[k].kind)), .dat (.sl 1 l[k].data), .row 2 2 0 (some (a.length + b.length)), .dat (.val (.string l[k].target)), .dat (.val (.int .i64 l[k].peer)), .dat (.sl 4 (l[k].queue.map Msg.enc)), .dat (.val (.int .i64 l[k].proc)), .dat (.val (.int .i64 (IntKind.i64.wrap (l[k].links - 1)))), .dat (.val (.int .i64 l[k].up))]) k = some [.dat (.val (.int .i64 l[k].kind)), .dat (.sl 1 l[k].data), .row 2 2 0 (some (a.length + b.length)), .dat (.val (.string l[k].target)), .dat (.val (.int .i64 l[k].peer)), .dat (.sl 4 (l[k].queue.map Msg.enc)), .dat (.val (.int .i64 l[k].proc)), .dat (.val (.int .i64 (IntKind.i64.wrap (l[k].links - 1)))), .dat (.val (.int .i64 l[k].up))] := by
        rw [setN_eq, nth_eq, List.getElem?_set_self (by rw [hX1, rowsG_len]; exact hkl)]
      refine ok_some (by rw [hX1]; exact hi2 _ l k rfl hkl : idxZ (k : Nat) (lenOf (setN (rowsG n (.row 2 2 0 none) l) n [.dat (.val (.int .i64 l[n].kind)), .dat (.sl 1 l[n].data), .row 2 2 0 (some (a.length + b.length)), .dat (.val (.string l[n].target)), .dat (.val (.int .i64 l[n].peer)), .dat (.sl 4 (l[n].queue.map Msg.enc)), .dat (.val (.int .i64 l[n].proc)), .dat (.val (.int .i64 l[n].links)), .dat (.val (.int .i64 l[n].up))]).length 0 none) = some k) ?_
      refine ok_some (by rw [hX1]; exact hrk : nth (setN (rowsG n (.row 2 2 0 none) l) n [.dat (.val (.int .i64 l[n].kind)), .dat (.sl 1 l[n].data), .row 2 2 0 (some (a.length + b.length)), .dat (.val (.string l[n].target)), .dat (.val (.int .i64 l[n].peer)), .dat (.sl 4 (l[n].queue.map Msg.enc)), .dat (.val (.int .i64 l[n].proc)), .dat (.val (.int .i64 l[n].links)), .dat (.val (.int .i64 l[n].up))]) k = some [.dat (.val (.int .i64 l[k].kind)), .dat (.sl 1 l[k].data), .row 2 2 0 (some (a.length + b.length)), .dat (.val (.string l[k].target)), .dat (.val (.int .i64 l[k].peer)), .dat (.sl 4 (l[k].queue.map Msg.enc)), .dat (.val (.int .i64 l[k].proc)), .dat (.val (.int .i64 l[k].links)), .dat (.val (.int .i64 l[k].up))]) ?_
      refine ok_some (by rw [hX1]; exact hi2 _ l k rfl hkl : idxZ (k : Nat) (lenOf (setN (rowsG n (.row 2 2 0 none) l) n [.dat (.val (.int .i64 l[n].kind)), .dat (.sl 1 l[n].data), .row 2 2 0 (some (a.length + b.length)), .dat (.val (.string l[n].target)), .dat (.val (.int .i64 l[n].peer)), .dat (.sl 4 (l[n].queue.map Msg.enc)), .dat (.val (.int .i64 l[n].proc)), .dat (.val (.int .i64 l[n].links)), .dat (.val (.int .i64 l[n].up))]).length 0 none) = some k) ?_
      refine ok_some (by rw [hX1]; exact hrk : nth (setN (rowsG n (.row 2 2 0 none) l) n [.dat (.val (.int .i64 l[n].kind)), .dat (.sl 1 l[n].data), .row 2 2 0 (some (a.length + b.length)), .dat (.val (.string l[n].target)), .dat (.val (.int .i64 l[n].peer)), .dat (.sl 4 (l[n].queue.map Msg.enc)), .dat (.val (.int .i64 l[n].proc)), .dat (.val (.int .i64 l[n].links)), .dat (.val (.int .i64 l[n].up))]) k = some [.dat (.val (.int .i64 l[k].kind)), .dat (.sl 1 l[k].data), .row 2 2 0 (some (a.length + b.length)), .dat (.val (.string l[k].target)), .dat (.val (.int .i64 l[k].peer)), .dat (.sl 4 (l[k].queue.map Msg.enc)), .dat (.val (.int .i64 l[k].proc)), .dat (.val (.int .i64 l[k].links)), .dat (.val (.int .i64 l[k].up))]) ?_
      refine ok_some (by rw [hX2]; exact hi2 _ _ k (List.length_set ..) hkl : idxZ (k : Nat) (lenOf (setN (setN (rowsG n (.row 2 2 0 none) l) n [.dat (.val (.int .i64 l[n].kind)), .dat (.sl 1 l[n].data), .row 2 2 0 (some (a.length + b.length)), .dat (.val (.string l[n].target)), .dat (.val (.int .i64 l[n].peer)), .dat (.sl 4 (l[n].queue.map Msg.enc)), .dat (.val (.int .i64 l[n].proc)), .dat (.val (.int .i64 l[n].links)), .dat (.val (.int .i64 l[n].up))]) k [.dat (.val (.int .i64 l[k].kind)), .dat (.sl 1 l[k].data), .row 2 2 0 (some (a.length + b.length)), .dat (.val (.string l[k].target)), .dat (.val (.int .i64 l[k].peer)), .dat (.sl 4 (l[k].queue.map Msg.enc)), .dat (.val (.int .i64 l[k].proc)), .dat (.val (.int .i64 (IntKind.i64.wrap (l[k].links - 1)))), .dat (.val (.int .i64 l[k].up))]).length 0 none) = some k) ?_
      refine ok_some hr2 ?_
      refine bB_beq (fun hkd => ?_) (fun hkd => ?_)
      · have hkd : l[k].kind = 2 := hkd
        have hX3 : (setN (setN (setN (rowsG n (.row 2 2 0 none) l) n [.dat (.val (.int .i64 l[n].kind)), .dat (.sl 1 l[n].data), .row 2 2 0 (some (a.length + b.length)), .dat (.val (.string l[n].target)), .dat (.val (.int .i64 l[n].peer)), .dat (.sl 4 (l[n].queue.map Msg.enc)), .dat (.val (.int .i64 l[n].proc)), .dat (.val (.int .i64 l[n].links)), .dat (.val (.int .i64 l[n].up))]) k [.dat (.val (.int .i64 l[k].kind)), .dat (.sl 1 l[k].data), .row 2 2 0 (some (a.length + b.length)), .dat (.val (.string l[k].target)), .dat (.val (.int .i64 l[k].peer)), .dat (.sl 4 (l[k].queue.map Msg.enc)), .dat (.val (.int .i64 l[k].proc)), .dat (.val (.int .i64 (IntKind.i64.wrap (l[k].links - 1)))), .dat (.val (.int .i64 l[k].up))]) k [.dat (.val (.int .i64 l[k].kind)), .dat (.sl 1 l[k].data), .row 2 2 0 (some (a.length + b.length)), .dat (.val (.string l[k].target)), .dat (.val (.int .i64 l[k].peer)), .dat (.sl 4 (l[k].queue.map Msg.enc)), .dat (.val (.int .i64 l[k].proc)), .dat (.val (.int .i64 (IntKind.i64.wrap (l[k].links - 1)))), .dat (.val (.int .i64 (k : Nat)))]) = rowsG n (.row 2 2 0 (some (a.length + b.length))) (l.set k { l[k] with links := (IntKind.i64.wrap (l[k].links - 1)), up := (k : Int) }) := by
          rw [hX2]
          have := rowsG_set (p := n) (c := .row 2 2 0 (some (a.length + b.length))) (l := l.set k { l[k] with links := (IntKind.i64.wrap (l[k].links - 1)) }) (k := k) (o := { l[k] with links := (IntKind.i64.wrap (l[k].links - 1)), up := (k : Int) }) (by rw [List.length_set]; exact hkl)
          rw [List.set_set] at this
          rw [← this, rowG, if_pos hkn]
        refine ok_some (by rw [hX2]; exact hi2 _ _ k (List.length_set ..) hkl : idxZ (k : Nat) (lenOf (setN (setN (rowsG n (.row 2 2 0 none) l) n [.dat (.val (.int .i64 l[n].kind)), .dat (.sl 1 l[n].data), .row 2 2 0 (some (a.length + b.length)), .dat (.val (.string l[n].target)), .dat (.val (.int .i64 l[n].peer)), .dat (.sl 4 (l[n].queue.map Msg.enc)), .dat (.val (.int .i64 l[n].proc)), .dat (.val (.int .i64 l[n].links)), .dat (.val (.int .i64 l[n].up))]) k [.dat (.val (.int .i64 l[k].kind)), .dat (.sl 1 l[k].data), .row 2 2 0 (some (a.length + b.length)), .dat (.val (.string l[k].target)), .dat (.val (.int .i64 l[k].peer)), .dat (.sl 4 (l[k].queue.map Msg.enc)), .dat (.val (.int .i64 l[k].proc)), .dat (.val (.int .i64 (IntKind.i64.wrap (l[k].links - 1)))), .dat (.val (.int .i64 l[k].up))]).length 0 none) = some k) ?_
        refine ok_some hr2 ?_
        obtain ⟨o2, ho2, hfin⟩ := remSO_at (name := name) hn hkl hEq (q := { l[k] with links := (IntKind.i64.wrap (l[k].links - 1)), up := (k : Int) }) (by rw [if_pos hkd])
        refine ⟨_, View.of 3 [] [1, 2] rfl rfl rfl rfl rfl rfl ?_ (.nil _), hfinal _ hfin⟩
        iterate 9 refine .junk ?_
        refine .eq rfl ?_
        refine .put (.rv (.one (.frz (p := none) (frzG (Z := fun k => memN [1, 2] k = true) rfl (by show some (Bk.row 9 _) = some (Bk.row 9 _); congr 1; exact congrArg _ hX3) (hq _ rfl) ho2)))) ?_
        repeat (first | exact .nil | refine .junk ?_)
      · have hkd : l[k].kind ≠ 2 := hkd
        obtain ⟨o2, ho2, hfin⟩ := remSO_at (name := name) hn hkl hEq (q := { l[k] with links := (IntKind.i64.wrap (l[k].links - 1)) }) (by rw [if_neg hkd])
        refine ⟨_, View.of 3 [] [1, 2] rfl rfl rfl rfl rfl rfl ?_ (.nil _), hfinal _ hfin⟩
        iterate 9 refine .junk ?_
        refine .eq rfl ?_
        refine .put (.rv (.one (.frz (p := none) (frzG (Z := fun k => memN [1, 2] k = true) rfl (by show some (Bk.row 9 _) = some (Bk.row 9 _); congr 1; exact congrArg _ hX2) (hq _ rfl) ho2)))) ?_
        repeat (first | exact .nil | refine .junk ?_)
    · have hrk : nth (rowsG n (.row 2 2 0 (some (a.length + b.length))) l) k = some [.dat (.val (.int .i64 l[k].kind)), .dat (.sl 1 l[k].data), .dat (.sl 2 l[k].entries), .dat (.val (.string l[k].target)), .dat (.val (.int .i64 l[k].peer)), .dat (.sl 4 (l[k].queue.map Msg.enc)), .dat (.val (.int .i64 l[k].proc)), .dat (.val (.int .i64 l[k].links)), .dat (.val (.int .i64 l[k].up))] := by
        rw [nth_eq, rowsG_get, List.getElem?_eq_getElem hkl, Option.map_some, rowG, if_neg hkn]
      have hX2 : (setN (setN (rowsG n (.row 2 2 0 none) l) n [.dat (.val (.int .i64 l[n].kind)), .dat (.sl 1 l[n].data), .row 2 2 0 (some (a.length + b.length)), .dat (.val (.string l[n].target)), .dat (.val (.int .i64 l[n].peer)), .dat (.sl 4 (l[n].queue.map Msg.enc)), .dat (.val (.int .i64 l[n].proc)), .dat (.val (.int .i64 l[n].links)), .dat (.val (.int .i64 l[n].up))]) k [.dat (.val (.int .i64 l[k].kind)), .dat (.sl 1 l[k].data), .dat (.sl 2 l[k].entries), .dat (.val (.string l[k].target)), .dat (.val (.int .i64 l[k].peer)), .dat (.sl 4 (l[k].queue.map Msg.enc)), .dat (.val (.int .i64 l[k].proc)), .dat (.val (.int .i64 (IntKind.i64.wrap (l[k].links - 1)))), .dat (.val (.int .i64 l[k].up))]) = rowsG n (.row 2 2 0 (some (a.length + b.length))) (l.set k { l[k] with links := (IntKind.i64.wrap (l[k].links - 1)) }) := by
        rw [hX1]
        have := rowsG_set (p := n) (c := .row 2 2 0 (some (a.length + b.length))) (o := { l[k] with links := (IntKind.i64.wrap (l[k].links - 1)) }) hkl
        rw [← this, rowG, if_neg hkn]
      have hr2 : nth (setN (setN (rowsG n (.row 2 2 0 none) l) n [.dat (.val (.int .i64 l[n].kind)), .dat (.sl 1 l[n].data), .row 2 2 0 (some (a.length + b.length)), .dat (.val (.string l[n].target)), .dat (.val (.int .i64 l[n].peer)), .dat (.sl 4 (l[n].queue.map Msg.enc)), .dat (.val (.int .i64 l[n].proc)), .dat (.val (.int .i64 l[n].links)), .dat (.val (.int .i64 l[n].up))]) k [.dat (.val (.int .i64 l[k].kind)), .dat (.sl 1 l[k].data), .dat (.sl 2 l[k].entries), .dat (.val (.string l[k].target)), .dat (.val (.int .i64 l[k].peer)), .dat (.sl 4 (l[k].queue.map Msg.enc)), .dat (.val (.int .i64 l[k].proc)), .dat (.val (.int .i64 (IntKind.i64.wrap (l[k].links - 1)))), .dat (.val (.int .i64 l[k].up))]) k = some [.dat (.val (.int .i64 l[k].kind)), .dat (.sl 1 l[k].data), .dat (.sl 2 l[k].entries), .dat (.val (.string l[k].target)), .dat (.val (.int .i64 l[k].peer)), .dat (.sl 4 (l[k].queue.map Msg.enc)), .dat (.val (.int .i64 l[k].proc)), .dat (.val (.int .i64 (IntKind.i64.wrap (l[k].links - 1)))), .dat (.val (.int .i64 l[k].up))] := by
        rw [setN_eq, nth_eq, List.getElem?_set_self (by rw [hX1, rowsG_len]; exact hkl)]
      refine ok_some (by rw [hX1]; exact hi2 _ l k rfl hkl : idxZ (k : Nat) (lenOf (setN (rowsG n (.row 2 2 0 none) l) n [.dat (.val (.int .i64 l[n].kind)), .dat (.sl 1 l[n].data), .row 2 2 0 (some (a.length + b.length)), .dat (.val (.string l[n].target)), .dat (.val (.int .i64 l[n].peer)), .dat (.sl 4 (l[n].queue.map Msg.enc)), .dat (.val (.int .i64 l[n].proc)), .dat (.val (.int .i64 l[n].links)), .dat (.val (.int .i64 l[n].up))]).length 0 none) = some k) ?_
      refine ok_some (by rw [hX1]; exact hrk : nth (setN (rowsG n (.row 2 2 0 none) l) n [.dat (.val (.int .i64 l[n].kind)), .dat (.sl 1 l[n].data), .row 2 2 0 (some (a.length + b.length)), .dat (.val (.string l[n].target)), .dat (.val (.int .i64 l[n].peer)), .dat (.sl 4 (l[n].queue.map Msg.enc)), .dat (.val (.int .i64 l[n].proc)), .dat (.val (.int .i64 l[n].links)), .dat (.val (.int .i64 l[n].up))]) k = some [.dat (.val (.int .i64 l[k].kind)), .dat (.sl 1 l[k].data), .dat (.sl 2 l[k].entries), .dat (.val (.string l[k].target)), .dat (.val (.int .i64 l[k].peer)), .dat (.sl 4 (l[k].queue.map Msg.enc)), .dat (.val (.int .i64 l[k].proc)), .dat (.val (.int .i64 l[k].links)), .dat (.val (.int .i64 l[k].up))]) ?_
      refine ok_some (by rw [hX1]; exact hi2 _ l k rfl hkl : idxZ (k : Nat) (lenOf (setN (rowsG n (.row 2 2 0 none) l) n [.dat (.val (.int .i64 l[n].kind)), .dat (.sl 1 l[n].data), .row 2 2 0 (some (a.length + b.length)), .dat (.val (.string l[n].target)), .dat (.val (.int .i64 l[n].peer)), .dat (.sl 4 (l[n].queue.map Msg.enc)), .dat (.val (.int .i64 l[n].proc)), .dat (.val (.int .i64 l[n].links)), .dat (.val (.int .i64 l[n].up))]).length 0 none) = some k) ?_
      refine ok_some (by rw [hX1]; exact hrk : nth (setN (rowsG n (.row 2 2 0 none) l) n [.dat (.val (.int .i64 l[n].kind)), .dat (.sl 1 l[n].data), .row 2 2 0 (some (a.length + b.length)), .dat (.val (.string l[n].target)), .dat (.val (.int .i64 l[n].peer)), .dat (.sl 4 (l[n].queue.map Msg.enc)), .dat (.val (.int .i64 l[n].proc)), .dat (.val (.int .i64 l[n].links)), .dat (.val (.int .i64 l[n].up))]) k = some [.dat (.val (.int .i64 l[k].kind)), .dat (.sl 1 l[k].data), .dat (.sl 2 l[k].entries), .dat (.val (.string l[k].target)), .dat (.val (.int .i64 l[k].peer)), .dat (.sl 4 (l[k].queue.map Msg.enc)), .dat (.val (.int .i64 l[k].proc)), .dat (.val (.int .i64 l[k].links)), .dat (.val (.int .i64 l[k].up))]) ?_
      refine ok_some (by rw [hX2]; exact hi2 _ _ k (List.length_set ..) hkl : idxZ (k : Nat) (lenOf (setN (setN (rowsG n (.row 2 2 0 none) l) n [.dat (.val (.int .i64 l[n].kind)), .dat (.sl 1 l[n].data), .row 2 2 0 (some (a.length + b.length)), .dat (.val (.string l[n].target)), .dat (.val (.int .i64 l[n].peer)), .dat (.sl 4 (l[n].queue.map Msg.enc)), .dat (.val (.int .i64 l[n].proc)), .dat (.val (.int .i64 l[n].links)), .dat (.val (.int .i64 l[n].up))]) k [.dat (.val (.int .i64 l[k].kind)), .dat (.sl 1 l[k].data), .dat (.sl 2 l[k].entries), .dat (.val (.string l[k].target)), .dat (.val (.int .i64 l[k].peer)), .dat (.sl 4 (l[k].queue.map Msg.enc)), .dat (.val (.int .i64 l[k].proc)), .dat (.val (.int .i64 (IntKind.i64.wrap (l[k].links - 1)))), .dat (.val (.int .i64 l[k].up))]).length 0 none) = some k) ?_
      refine ok_some hr2 ?_
      refine bB_beq (fun hkd => ?_) (fun hkd => ?_)
      · have hkd : l[k].kind = 2 := hkd
        have hX3 : (setN (setN (setN (rowsG n (.row 2 2 0 none) l) n [.dat (.val (.int .i64 l[n].kind)), .dat (.sl 1 l[n].data), .row 2 2 0 (some (a.length + b.length)), .dat (.val (.string l[n].target)), .dat (.val (.int .i64 l[n].peer)), .dat (.sl 4 (l[n].queue.map Msg.enc)), .dat (.val (.int .i64 l[n].proc)), .dat (.val (.int .i64 l[n].links)), .dat (.val (.int .i64 l[n].up))]) k [.dat (.val (.int .i64 l[k].kind)), .dat (.sl 1 l[k].data), .dat (.sl 2 l[k].entries), .dat (.val (.string l[k].target)), .dat (.val (.int .i64 l[k].peer)), .dat (.sl 4 (l[k].queue.map Msg.enc)), .dat (.val (.int .i64 l[k].proc)), .dat (.val (.int .i64 (IntKind.i64.wrap (l[k].links - 1)))), .dat (.val (.int .i64 l[k].up))]) k [.dat (.val (.int .i64 l[k].kind)), .dat (.sl 1 l[k].data), .dat (.sl 2 l[k].entries), .dat (.val (.string l[k].target)), .dat (.val (.int .i64 l[k].peer)), .dat (.sl 4 (l[k].queue.map Msg.enc)), .dat (.val (.int .i64 l[k].proc)), .dat (.val (.int .i64 (IntKind.i64.wrap (l[k].links - 1)))), .dat (.val (.int .i64 (k : Nat)))]) = rowsG n (.row 2 2 0 (some (a.length + b.length))) (l.set k { l[k] with links := (IntKind.i64.wrap (l[k].links - 1)), up := (k : Int) }) := by
          rw [hX2]
          have := rowsG_set (p := n) (c := .row 2 2 0 (some (a.length + b.length))) (l := l.set k { l[k] with links := (IntKind.i64.wrap (l[k].links - 1)) }) (k := k) (o := { l[k] with links := (IntKind.i64.wrap (l[k].links - 1)), up := (k : Int) }) (by rw [List.length_set]; exact hkl)
          rw [List.set_set] at this
          rw [← this, rowG, if_neg hkn]
        refine ok_some (by rw [hX2]; exact hi2 _ _ k (List.length_set ..) hkl : idxZ (k : Nat) (lenOf (setN (setN (rowsG n (.row 2 2 0 none) l) n [.dat (.val (.int .i64 l[n].kind)), .dat (.sl 1 l[n].data), .row 2 2 0 (some (a.length + b.length)), .dat (.val (.string l[n].target)), .dat (.val (.int .i64 l[n].peer)), .dat (.sl 4 (l[n].queue.map Msg.enc)), .dat (.val (.int .i64 l[n].proc)), .dat (.val (.int .i64 l[n].links)), .dat (.val (.int .i64 l[n].up))]) k [.dat (.val (.int .i64 l[k].kind)), .dat (.sl 1 l[k].data), .dat (.sl 2 l[k].entries), .dat (.val (.string l[k].target)), .dat (.val (.int .i64 l[k].peer)), .dat (.sl 4 (l[k].queue.map Msg.enc)), .dat (.val (.int .i64 l[k].proc)), .dat (.val (.int .i64 (IntKind.i64.wrap (l[k].links - 1)))), .dat (.val (.int .i64 l[k].up))]).length 0 none) = some k) ?_
        refine ok_some hr2 ?_
        obtain ⟨o2, ho2, hfin⟩ := remSO_at (name := name) hn hkl hEq (q := { l[k] with links := (IntKind.i64.wrap (l[k].links - 1)), up := (k : Int) }) (by rw [if_pos hkd])
        refine ⟨_, View.of 3 [] [1, 2] rfl rfl rfl rfl rfl rfl ?_ (.nil _), hfinal _ hfin⟩
        iterate 9 refine .junk ?_
        refine .eq rfl ?_
        refine .put (.rv (.one (.frz (p := none) (frzG (Z := fun k => memN [1, 2] k = true) rfl (by show some (Bk.row 9 _) = some (Bk.row 9 _); congr 1; exact congrArg _ hX3) (hq _ rfl) ho2)))) ?_
        repeat (first | exact .nil | refine .junk ?_)
      · have hkd : l[k].kind ≠ 2 := hkd
        obtain ⟨o2, ho2, hfin⟩ := remSO_at (name := name) hn hkl hEq (q := { l[k] with links := (IntKind.i64.wrap (l[k].links - 1)) }) (by rw [if_neg hkd])
        refine ⟨_, View.of 3 [] [1, 2] rfl rfl rfl rfl rfl rfl ?_ (.nil _), hfinal _ hfin⟩
        iterate 9 refine .junk ?_
        refine .eq rfl ?_
        refine .put (.rv (.one (.frz (p := none) (frzG (Z := fun k => memN [1, 2] k = true) rfl (by show some (Bk.row 9 _) = some (Bk.row 9 _); congr 1; exact congrArg _ hX2) (hq _ rfl) ho2)))) ?_
        repeat (first | exact .nil | refine .junk ?_)
set_option maxRecDepth 100000 in
theorem sremove_ok (l : List Obj) (hs : SrtL l) (dir : Int) (name : ByteArray) {m : Mem} {K : CV → Mem → Prop}
    (h : K (.tup [objsR (sRemoveS l dir name).1, iRV (sRemoveS l dir name).2.1, iRV (sRemoveS l dir name).2.2]) m) : ACall Try.prog 16 [objsV l, vInt .i64 dir, vStr name] m K := by
  refine acall_frame (K0 := fun r m => r = .tup [objsR (sRemoveS l dir name).1, iRV (sRemoveS l dir name).2.1, iRV (sRemoveS l dir name).2.2] ∧ m = []) (acall_view (acall_body_g Try.func16 l16 rfl (Nat.le_of_ble_eq_true rfl) (sremove_body l hs dir name)) fun r m1 ⟨r', m', hv, h1, h2⟩ => ⟨r', m', hv, h1, h2⟩) (by simp [objsV, vInt, vStr, CV.isD, CC.isD]) fun r m1 hr => ?_
  obtain ⟨rfl, rfl⟩ := hr
  exact ⟨_, FrzV.self rfl, h⟩


end Go.Proofs.Ytmekobkcgajcjaa
