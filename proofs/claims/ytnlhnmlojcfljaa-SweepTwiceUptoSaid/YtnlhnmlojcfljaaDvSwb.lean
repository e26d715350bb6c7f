import Derived.Test.YtnlhnmlojcfljaaAmZ2
import Derived.Test.YtnlhnmlojcfljaaDvSwa
import Derived.Test.YtnlhnmlojcfljaaAmY
set_option linter.unusedVariables false
set_option linter.unusedSimpArgs false
namespace Go.Proofs.Ytnlhnmlojcfljaa
open Go.AM Go.ChangeShapes Go.WideShapes Go.ChangeAt Go.RowKit
def c35 : LF := ⟨54, [.tmp 2], (.seq (.reg [
    ⟨(some 2), .mov (.c (.rv (.one (.dat (.val (.pointer none)))))), none⟩]) (.seq (.draw [
    ⟨(some 8), .mov (.t 0), none⟩,
    ⟨(some 9), .mov (.t 0), none⟩,
    ⟨(some 10), .nilc (.t 9), none⟩,
    ⟨(some 11), .fadr 0 (.t 10), none⟩,
    ⟨(some 12), .load false 1 (.t 11), none⟩,
    ⟨(some 13), .len 1 (.t 12), none⟩,
    ⟨(some 14), .mkslice 1 1 [(.dat (.val (.bool false)))] (.t 13) (.t 13), none⟩,
    ⟨(some 15), .mov (.t 0), none⟩,
    ⟨(some 16), .nilc (.t 15), none⟩,
    ⟨(some 17), .fadr 1 (.t 16), none⟩,
    ⟨(some 18), .load false 1 (.t 17), none⟩,
    ⟨(some 19), .len 1 (.t 18), none⟩,
    ⟨(some 20), .mkslice 1 1 [(.dat (.val (.bool false)))] (.t 19) (.t 19), none⟩,
    ⟨(some 21), .build [(.dat (.val (.pointer none))), .esl, .esl] [(0, 1, (.t 8)), (1, 1, (.t 14)), (2, 1, (.t 20))], none⟩,
    ⟨(some 22), .box (.t 21), none⟩,
    ⟨(some 3), .mov (.t 22), none⟩]
    [(.cons 0 none (.cons 1 none (.cons 2 none (.cons 3 none (.cons 4 none (.cons 5 none (.cons 7 none (.cons 8 none (.cons 9 none (.cons 10 none (.cons 11 none (.alt (.cons 6 (some [11, 10]) (.cons 12 (some [5, 4]) (.cons 13 none (.cons 14 (some []) (.cons 15 none .nil))))) (.cons 12 (some [5, 4]) (.cons 6 (some [11, 10]) (.cons 13 none (.cons 14 (some []) (.cons 15 none .nil)))))))))))))))))]) (.ghost (.seq (.reg [
    ⟨(some 23), .mov (.t 3), none⟩,
    ⟨(some 24), .call (.c (.rv (.one (.fn 44 [])))) [(.t 23), (.c (.rv (.one (.dat (.val (.int .i64 (0)))))))], none⟩]) (.seq (.seq (.reg [
    ⟨(some 25), .mov (.t 0), none⟩,
    ⟨(some 26), .nilc (.t 25), none⟩,
    ⟨(some 27), .fadr 2 (.t 26), none⟩,
    ⟨(some 28), .load false 1 (.t 27), none⟩,
    ⟨(some 29), .len 1 (.t 28), none⟩,
    ⟨(some 30), .mov (.c (.rv (.one (.dat (.val (.int .i64 (0))))))), none⟩]) (.block 0 (.loop (.seq (.reg [
    ⟨(some 31), .bin .lss (.t 30) (.t 29), none⟩]) (.seq (.cond (.t 31) .skip (.exit 0)) (.seq (.block 1 (.seq (.reg [
    ⟨(some 32), .idx 4 (.t 28) (.t 30), none⟩,
    ⟨(some 33), .load true 4 (.t 32), none⟩,
    ⟨(some 5), .alloc [(.dat (.val (.bool false))), (.dat (.val (.bool false))), (.dat (.val (.int .i64 (0)))), .esl], none⟩,
    ⟨none, .store 4 (.t 5) (.t 33), none⟩]) (.seq (.reg [
    ⟨(some 34), .fadr 3 (.t 5), none⟩,
    ⟨(some 35), .load false 1 (.t 34), none⟩,
    ⟨(some 36), .len 1 (.t 35), none⟩,
    ⟨(some 37), .mov (.c (.rv (.one (.dat (.val (.int .i64 (0))))))), none⟩]) (.block 2 (.loop (.seq (.reg [
    ⟨(some 38), .bin .lss (.t 37) (.t 36), none⟩]) (.seq (.cond (.t 38) .skip (.exit 2)) (.seq (.block 3 (.seq (.reg [
    ⟨(some 39), .idx 3 (.t 35) (.t 37), none⟩,
    ⟨(some 40), .load true 3 (.t 39), none⟩,
    ⟨(some 7), .alloc [(.dat (.val (.bool false))), (.dat (.val (.int .i64 (0)))), (.dat (.val (.int .i64 (0))))], none⟩,
    ⟨none, .store 3 (.t 7) (.t 40), none⟩]) (.seq (.reg [
    ⟨(some 41), .fadr 0 (.t 5), none⟩,
    ⟨(some 42), .load false 1 (.t 41), none⟩,
    ⟨(some 43), .mov (.t 42), none⟩,
    ⟨(some 44), .fadr 0 (.t 7), (some (43, true))⟩,
    ⟨(some 45), .load false 1 (.t 44), (some (43, true))⟩,
    ⟨(some 46), .pick (.t 43) (.t 45) (.c (.rv (.one (.dat (.val (.bool false)))))), none⟩]) (.cond (.t 46) (.reg [
    ⟨(some 47), .mov (.t 3), none⟩,
    ⟨(some 48), .fadr 1 (.t 7), none⟩,
    ⟨(some 49), .load true 2 (.t 48), none⟩,
    ⟨(some 50), .call (.c (.rv (.one (.fn 45 [])))) [(.t 47), (.t 49)], none⟩]) .skip)))) (.reg [
    ⟨(some 51), .bin .add (.t 37) (.c (.rv (.one (.dat (.val (.int .i64 (1))))))), none⟩,
    ⟨(some 37), .mov (.t 51), none⟩]))))))))) (.reg [
    ⟨(some 52), .bin .add (.t 30) (.c (.rv (.one (.dat (.val (.int .i64 (1))))))), none⟩,
    ⟨(some 30), .mov (.t 52), none⟩]))))))) (.seq (.reg [
    ⟨(some 53), .mov (.t 3), none⟩,
    ⟨(some 2), .mov (.t 53), none⟩]) .ret))))))⟩
/-! sweep.mark -/
def Roots (l : List Obj) (ops : List Opn) (ps : List Prc) (RO RP : Nat → Prop) : Prop :=
  (∀ n, vO l 0 n → RO n) ∧ ∀ (p : Nat) pr, ps[p]? = some pr → pr.live = true → ∀ s, s ∈ pr.slots → s.has = true → ∀ c, vP ops s.opn c → RP c
/-- what is marked: the least that has the roots, and all that they lead to -/
structure MarkOK (l : List Obj) (ops : List Opn) (ps : List Prc) (b : Mk) : Prop where
  len : bseO l ops b
  roots : Roots l ops ps (onB b.O) (onB b.P)
  cl : Cl l ops (onB b.O) (onB b.P)
  least : ∀ RO RP, Cl l ops RO RP → Roots l ops ps RO RP → InR RO RP b
def emp (l : List Obj) (ops : List Opn) : Mk := ⟨List.replicate l.length false, List.replicate ops.length false⟩
theorem emp_on {n i : Nat} : ¬ onB (List.replicate n false) i := by
  intro h
  unfold onB at h
  rw [List.getElem?_replicate] at h
  split at h <;> cases h
structure MarkMid (l : List Obj) (ops : List Opn) (ps : List Prc) (b : Mk) (p j : Nat) : Prop where
  st : Step l ops (fun _ => False) (emp l ops) b
  r0 : ∀ n, vO l 0 n → onB b.O n
  rp : ∀ (i : Nat) pr, i < p → ps[i]? = some pr → pr.live = true → ∀ s, s ∈ pr.slots → s.has = true → ∀ c, vP ops s.opn c → onB b.P c
  rj : ∀ pr, ps[p]? = some pr → pr.live = true → ∀ (t : Nat) s, t < j → pr.slots[t]? = some s → s.has = true → ∀ c, vP ops s.opn c → onB b.P c
  least : ∀ RO RP, Cl l ops RO RP → Roots l ops ps RO RP → InR RO RP b
theorem MarkMid.start {l : List Obj} {ops : List Opn} {ps : List Prc} {b : Mk} (h : PO l ops 0 (emp l ops) b) : MarkMid l ops ps b 0 0 :=
  ⟨h.st, h.on, fun i pr h => absurd h (Nat.not_lt_zero i), fun pr _ _ t s h => absurd h (Nat.not_lt_zero t), fun RO RP hcl hr => h.sd RO RP hcl ⟨fun i hi => absurd hi emp_on, fun i hi => absurd hi emp_on⟩ hr.1⟩
theorem MarkMid.stepC {l : List Obj} {ops : List Opn} {ps : List Prc} {b c : Mk} {p j : Nat} (h : MarkMid l ops ps b p j) {pr : Prc} (hpr : ps[p]? = some pr) (hlv : pr.live = true) {s : Sl3} (hs : pr.slots[j]? = some s) (hh : s.has = true) (hc : PP l ops s.opn b c) : MarkMid l ops ps c p (j + 1) := by
  refine ⟨h.st.trans hc.st, fun n hn => hc.st.mo n (h.r0 n hn), fun i x hi hx hl y hy hyh d hd => hc.st.mp d (h.rp i x hi hx hl y hy hyh d hd), fun x hx hl t y ht hy hyh d hd => ?_, fun RO RP hcl hr => hc.sd RO RP hcl (h.least RO RP hcl hr) fun d hd => hr.2 p pr hpr hlv s (List.mem_of_getElem? hs) hh d hd⟩
  rcases Nat.lt_or_ge t j with htj | htj
  · exact hc.st.mp d (h.rj x hx hl t y htj hy hyh d hd)
  · have : t = j := by omega
    subst this
    rw [hpr] at hx
    cases hx
    rw [hs] at hy
    cases hy
    exact hc.on d hd
theorem MarkMid.skip {l : List Obj} {ops : List Opn} {ps : List Prc} {b : Mk} {p j : Nat} (h : MarkMid l ops ps b p j) {pr : Prc} (hpr : ps[p]? = some pr) {s : Sl3} (hs : pr.slots[j]? = some s) (hh : pr.live = true → s.has = false) : MarkMid l ops ps b p (j + 1) := by
  refine ⟨h.st, h.r0, h.rp, fun x hx hl t y ht hy hyh d hd => ?_, h.least⟩
  rcases Nat.lt_or_ge t j with htj | htj
  · exact h.rj x hx hl t y htj hy hyh d hd
  · have : t = j := by omega
    subst this
    rw [hpr] at hx
    cases hx
    rw [hs] at hy
    cases hy
    rw [hh hl] at hyh
    cases hyh
theorem MarkMid.next {l : List Obj} {ops : List Opn} {ps : List Prc} {b : Mk} {p : Nat} {pr : Prc} (hpr : ps[p]? = some pr) (h : MarkMid l ops ps b p pr.slots.length) : MarkMid l ops ps b (p + 1) 0 := by
  refine ⟨h.st, h.r0, fun i x hi hx hl y hy hyh d hd => ?_, fun x _ _ t y ht => absurd ht (Nat.not_lt_zero t), h.least⟩
  rcases Nat.lt_or_ge i p with hip | hip
  · exact h.rp i x hip hx hl y hy hyh d hd
  · have : i = p := by omega
    subst this
    rw [hpr] at hx
    cases hx
    obtain ⟨t, ht⟩ := List.getElem?_of_mem hy
    exact h.rj pr hpr hl t y (List.getElem?_eq_some_iff.1 ht).1 ht hyh d hd
theorem MarkMid.fin {l : List Obj} {ops : List Opn} {ps : List Prc} {b : Mk} (h : MarkMid l ops ps b ps.length 0) : MarkOK l ops ps b := by
  refine ⟨⟨by have := h.st.lo; simpa [emp] using this, by have := h.st.lp; simpa [emp] using this⟩, ⟨h.r0, fun p pr hp hl s hs hh c hc => h.rp p pr (List.getElem?_eq_some_iff.1 hp).1 hp hl s hs hh c hc⟩, ⟨fun i o hi ho z n hz hv => ?_, fun i o hi ho z c hz hv => ?_, fun c o hc ho n hv => ?_⟩, h.least⟩
  · exact (h.st.co i o hi emp_on (fun h => h) ho).1 z n hz hv
  · exact (h.st.co i o hi emp_on (fun h => h) ho).2 z c hz hv
  · exact h.st.cp c o hc emp_on ho n hv
theorem rep_rows (n : Nat) : (repl n [CC.dat (.val (.bool false))]) = dRows ((List.replicate n false).map bE) := by
  induction n with
  | zero => rfl
  | succ n ih => simp only [repl, ih]; simp [dRows, bE, List.replicate_succ]
theorem l35 : lowF Try.prog Try.f35 = some c35.er := by kernel_rfl
theorem sl3_get {l : List Sl3} {k : Nat} (h : k < l.length) : getZ (l.map Sl3.enc) (k : Nat) = some [.val (.bool l[k].has), .val (.int .i64 l[k].opn), .val (.int .i64 l[k].rts)] := by
  rw [getZ_nat, List.getElem?_map, List.getElem?_eq_getElem h]; rfl
structure StK where
  p : Nat
  b : Mk
theorem prc_get {ps : List Prc} {k : Nat} (h : k < ps.length) : getZ (ps.map Prc.enc) (k : Nat) = some [.val (.bool ps[k].live), .val (.bool ps[k].fenced), .val (.int .i64 ps[k].code), sl3D ps[k].slots] := by
  rw [getZ_nat, List.getElem?_map, List.getElem?_eq_getElem h]; rfl

theorem borrowMD {l : List Obj} {ops : List Opn} {ps : List Prc} {a : Mk} {f : Nat} {args args0 : List CV} {Q : Mk → Prop} (h : ACall Try.prog f args0 (M0 l ops ps a) (fun r m => ∃ b, Q b ∧ r = .tup [] ∧ m = M0 l ops ps b)) (X : Mem)
    (hargs : args = args0.map (CV.ren (sg [1, 0, 2, 3] (4 + X.length)))) {K : CV → Mem → Prop} (hK : ∀ b, Q b → K (.tup []) ([.var [.dat (objsD l), .dat (opnD ops), .dat (prcD ps)], .var [.ptr 0 0, .row 2 1 0 none, .row 3 1 0 none], .row 1 (dRows (b.O.map bE)), .row 1 (dRows (b.P.map bE))] ++ X)) :
    ACall Try.prog f args ([.var [.dat (objsD l), .dat (opnD ops), .dat (prcD ps)], .var [.ptr 0 0, .row 2 1 0 none, .row 3 1 0 none], .row 1 (dRows (a.O.map bE)), .row 1 (dRows (a.P.map bE))] ++ X) K := by
  refine acall_borrow [1, 0, 2, 3] (4 + X.length) (by simp; omega) rfl rfl (by simp [allLt] <;> omega) (args0 := args0) hargs (fun i b' hi => ?_) h (fun r m1 hr => ?_)
  · match i, hi with
    | 0, hi => cases hi; exact .inr ⟨fun h => h, _, rfl, .eq rfl (by simp)⟩
    | 1, hi => cases hi; exact .inr ⟨fun h => h, _, rfl, .eq rfl (by simp)⟩
    | 2, hi => cases hi; exact .inr ⟨fun h => h, _, rfl, .rowDE rfl⟩
    | 3, hi => cases hi; exact .inr ⟨fun h => h, _, rfl, .rowDE rfl⟩
    | n + 4, hi => simp [M0] at hi
  · obtain ⟨b, hb, rfl, rfl⟩ := hr
    refine ⟨Nat.le_refl _, ?_⟩
    have e : ∀ (s : Nat) (ds : List (List Dt)), (Bk.row s (dRows ds)).ren (sg [1, 0, 2, 3] (4 + X.length)) = .row s (dRows ds) := fun s ds => by simp only [Bk.ren, dRows_ren]
    have hk := hK b hb
    have hw : weave ([.var [.dat (objsD l), .dat (opnD ops), .dat (prcD ps)], .var [.ptr 0 0, .row 2 1 0 none, .row 3 1 0 none], .row 1 (dRows (a.O.map bE)), .row 1 (dRows (a.P.map bE))] ++ X) [1, 0, 2, 3] (renM (sg [1, 0, 2, 3] (4 + X.length)) (M0 l ops ps b)) = [.var [.dat (objsD l), .dat (opnD ops), .dat (prcD ps)], .var [.ptr 0 0, .row 2 1 0 none, .row 3 1 0 none], .row 1 (dRows (b.O.map bE)), .row 1 (dRows (b.P.map bE))] ++ X := by
      simp only [M0, renM, e, weave, app2_eq, List.append_nil]
      rfl
    rw [hw]
    exact hk

set_option maxRecDepth 100000 in
set_option maxHeartbeats 32000000 in
theorem mark_bodyD (l : List Obj) (ops : List Opn) (ps : List Prc) (g : ∀ o, o ∈ l → o.sm) (hl : l.length ≤ 4194304) (ho : ops.length ≤ 4194304) (hpl : ps.length ≤ 4194304) (hps : ∀ p, p ∈ ps → p.slots.length ≤ 10) :
    body Try.prog c35 [.rv (.one (.ptr 0 0))] [.var [.dat (objsD l), .dat (opnD ops), .dat (prcD ps)]] (fun r m => ∃ b, MarkOK l ops ps b ∧ r = .rv (.one (.ptr 1 0)) ∧ m = [.var [.dat (objsD l), .dat (opnD ops), .dat (prcD ps)], .var [.ptr 0 0, .row 2 1 0 none, .row 3 1 0 none], .row 1 (dRows (b.O.map bE)), .row 1 (dRows (b.P.map bE))]) := by
  refine ⟨?_, ?_⟩
  · skip
    refine bB_yes (Nat.beq_refl _) ?_
    refine ⟨(by show (l.map Obj.enc).length * 1 ≤ _; rw [List.length_map]; omega), ⟨rfl, rfl, trivial⟩, ?_⟩
    refine bB_yes (Nat.beq_refl _) ?_
    refine ⟨(by show (ops.map Opn.enc).length * 1 ≤ _; rw [List.length_map]; omega), ⟨rfl, rfl, trivial⟩, ?_⟩
    refine ⟨trivial, ?_⟩
    refine ghost_keep [0] [(3, .rv (.one (.ptr 1 0)))] ([.var [.dat (objsD l), .dat (opnD ops), .dat (prcD ps)], .var [.ptr 0 0, .row 2 1 0 none, .row 3 1 0 none], .row 1 (dRows ((emp l ops).O.map bE)), .row 1 (dRows ((emp l ops).P.map bE))]) (View.of 4 [0, 3, 1, 2] [] rfl rfl rfl rfl rfl rfl ?_ ?_) ?_
    · repeat (first | exact .nil | refine .junk ?_ | refine .eq rfl ?_)
    · exact (.put (notF rfl) rfl (.eq rfl (by simp)) (.put (notF rfl) rfl (.eq rfl (by simp)) (.put (notF rfl) rfl (.rowDE (by show repl (l.map Obj.enc).length _ = _; rw [rep_rows, List.length_map]; rfl)) (.put (notF rfl) rfl (.rowDE (by show repl (ops.map Opn.enc).length _ = _; rw [rep_rows, List.length_map]; rfl)) (.nil _)))))
    refine borrowMD ((objcapD l ops ps g ((emp l ops).mu + 1)).1 (emp l ops) 0 ⟨by simp [emp], by simp [emp]⟩ (Nat.lt_succ_self _)) [] rfl fun b0 hb0 => ?_
    refine loop_keep (fun (s : StK) => s.p ≤ ps.length ∧ MarkMid l ops ps s.b s.p 0) [3, 28, 29] (fun s => [(30, vInt .i64 (s.p : Nat))]) (fun s => [.var [.dat (objsD l), .dat (opnD ops), .dat (prcD ps)], .var [.ptr 0 0, .row 2 1 0 none, .row 3 1 0 none], .row 1 (dRows (s.b.O.map bE)), .row 1 (dRows (s.b.P.map bE))]) (fun s => ps.length - s.p) ⟨0, b0⟩ ⟨Nat.zero_le _, .start hb0⟩ ?_ (fun s hs => ?_)
    · refine View.of 4 [0, 1, 2, 3] [] rfl rfl rfl rfl rfl rfl ?_ ?_
      · repeat (first | exact .nil | refine .junk ?_ | refine .eq rfl ?_)
      · exact (.put (notF rfl) rfl (.eq rfl (by simp)) (.put (notF rfl) rfl (.eq rfl (by simp)) (.put (notF rfl) rfl (.rowDE rfl) (.put (notF rfl) rfl (.rowDE rfl) (.nil _)))))
    obtain ⟨p, b⟩ := s
    obtain ⟨hp, hM⟩ := hs
    have hp : p ≤ ps.length := hp
    have hM : MarkMid l ops ps b p 0 := hM
    refine bB_dec (fun h => ?_) (fun h => ?_)
    · have hplt : p < ps.length := by
        have h : (p : Int) < ((ps.map Prc.enc).length : Int) := h
        rw [List.length_map] at h
        omega
      refine ok_some (prc_get hplt) ?_
      have hpr := List.getElem?_eq_getElem hplt
      have hsl := hps _ (List.getElem_mem hplt)
      generalize ps[p] = pr at hpr hsl
      refine loop_keep (fun (s : StK) => s.p ≤ pr.slots.length ∧ MarkMid l ops ps s.b p s.p) [3, 5, 28, 29, 30, 35, 36] (fun s => [(37, vInt .i64 (s.p : Nat))]) (fun s => [.var [.dat (objsD l), .dat (opnD ops), .dat (prcD ps)], .var [.ptr 0 0, .row 2 1 0 none, .row 3 1 0 none], .row 1 (dRows (s.b.O.map bE)), .row 1 (dRows (s.b.P.map bE)), .var (pr.enc.map .dat)]) (fun s => pr.slots.length - s.p) ⟨0, b⟩ ⟨Nat.zero_le _, hM⟩ ?_ (fun s hs => ?_)
      · refine View.of 5 [0, 1, 2, 3, 4] [] rfl rfl rfl rfl rfl rfl ?_ ?_
        · repeat (first | exact .nil | refine .junk ?_ | refine .eq rfl ?_)
        · exact (.put (notF rfl) rfl (.eq rfl (by simp)) (.put (notF rfl) rfl (.eq rfl (by simp)) (.put (notF rfl) rfl (.rowDE rfl) (.put (notF rfl) rfl (.rowDE rfl) (.put (notF rfl) rfl (.eq rfl (by simp)) (.nil _))))))
      clear hM
      obtain ⟨j, b⟩ := s
      obtain ⟨hj, hM⟩ := hs
      have hj : j ≤ pr.slots.length := hj
      have hM : MarkMid l ops ps b p j := hM
      refine bB_dec (fun hjl => ?_) (fun hjl => ?_)
      · have hjlt : j < pr.slots.length := by
          have h : (j : Int) < ((pr.slots.map Sl3.enc).length : Int) := hjl
          rw [List.length_map] at h
          omega
        have hsj := List.getElem?_eq_getElem hjlt
        refine ok_some (sl3_get hjlt) ?_
        generalize pr.slots[j] = s at hsj
        refine bB_split (fun hlv => ?_) (fun hlv => ?_)
        · refine bB_split (fun hh => ?_) (fun hh => ?_)
          · refine borrowMD ((objcapD l ops ps g (b.mu + 1)).2 b s.opn s.rts ⟨by have := hM.st.lo; simpa [emp] using this, by have := hM.st.lp; simpa [emp] using this⟩ (Nat.lt_succ_self _)) [_, _] rfl fun c hc => ?_
            refine ⟨⟨j + 1, c⟩, ⟨hjlt, hM.stepC hpr hlv hsj hh hc⟩, (show pr.slots.length - (j + 1) < pr.slots.length - j by omega), View.of 6 [0, 1, 2, 3, 4] [] rfl rfl rfl rfl rfl rfl ?_ ?_⟩
            · repeat (first | exact .nil | refine .junk ?_ | refine .put (.ren (next_i64 (by omega)).symm) ?_ | refine .eq rfl ?_)
            · exact (.put (notF rfl) rfl (.eq rfl (by simp)) (.put (notF rfl) rfl (.eq rfl (by simp)) (.put (notF rfl) rfl (.rowDE rfl) (.put (notF rfl) rfl (.rowDE rfl) (.put (notF rfl) rfl (.eq rfl (by simp)) (.nil _))))))
          · skip
            refine ⟨⟨j + 1, b⟩, ⟨hjlt, hM.skip hpr hsj (fun _ => hh)⟩, (show pr.slots.length - (j + 1) < pr.slots.length - j by omega), View.of 6 [0, 1, 2, 3, 4] [] rfl rfl rfl rfl rfl rfl ?_ ?_⟩
            · repeat (first | exact .nil | refine .junk ?_ | refine .put (.ren (next_i64 (by omega)).symm) ?_ | refine .eq rfl ?_)
            · exact (.put (notF rfl) rfl (.eq rfl (by simp)) (.put (notF rfl) rfl (.eq rfl (by simp)) (.put (notF rfl) rfl (.rowDE rfl) (.put (notF rfl) rfl (.rowDE rfl) (.put (notF rfl) rfl (.eq rfl (by simp)) (.nil _))))))
        · skip
          refine ⟨⟨j + 1, b⟩, ⟨hjlt, hM.skip hpr hsj (fun h => absurd (h.symm.trans hlv) (by simp))⟩, (show pr.slots.length - (j + 1) < pr.slots.length - j by omega), View.of 6 [0, 1, 2, 3, 4] [] rfl rfl rfl rfl rfl rfl ?_ ?_⟩
          · repeat (first | exact .nil | refine .junk ?_ | refine .put (.ren (next_i64 (by omega)).symm) ?_ | refine .eq rfl ?_)
          · exact (.put (notF rfl) rfl (.eq rfl (by simp)) (.put (notF rfl) rfl (.eq rfl (by simp)) (.put (notF rfl) rfl (.rowDE rfl) (.put (notF rfl) rfl (.rowDE rfl) (.put (notF rfl) rfl (.eq rfl (by simp)) (.nil _))))))
      · have hje : j = pr.slots.length := by
          have h : ¬ (j : Int) < ((pr.slots.map Sl3.enc).length : Int) := hjl
          rw [List.length_map] at h
          omega
        subst hje
        refine ⟨⟨p + 1, b⟩, ⟨hplt, hM.next hpr⟩, (show ps.length - (p + 1) < ps.length - p by omega), View.of 5 [0, 1, 2, 3] [] rfl rfl rfl rfl rfl rfl ?_ ?_⟩
        · repeat (first | exact .nil | refine .junk ?_ | refine .put (.ren (next_i64 (by omega)).symm) ?_ | refine .eq rfl ?_)
        · exact (.put (notF rfl) rfl (.eq rfl (by simp)) (.put (notF rfl) rfl (.eq rfl (by simp)) (.put (notF rfl) rfl (.rowDE rfl) (.put (notF rfl) rfl (.rowDE rfl) (.nil _)))))
    · have hpe : p = ps.length := by
        have h : ¬ (p : Int) < ((ps.map Prc.enc).length : Int) := h
        rw [List.length_map] at h
        omega
      subst hpe
      exact ⟨b, hM.fin, rfl, rfl⟩
  · skip
    refine bB_yes (Nat.beq_refl _) ?_
    refine ⟨(by show (ops.map Opn.enc).length * 1 ≤ _; rw [List.length_map]; omega), ⟨rfl, rfl, trivial⟩, ?_⟩
    refine bB_yes (Nat.beq_refl _) ?_
    refine ⟨(by show (l.map Obj.enc).length * 1 ≤ _; rw [List.length_map]; omega), ⟨rfl, rfl, trivial⟩, ?_⟩
    refine ⟨trivial, ?_⟩
    refine ghost_keep [0] [(3, .rv (.one (.ptr 1 0)))] ([.var [.dat (objsD l), .dat (opnD ops), .dat (prcD ps)], .var [.ptr 0 0, .row 2 1 0 none, .row 3 1 0 none], .row 1 (dRows ((emp l ops).O.map bE)), .row 1 (dRows ((emp l ops).P.map bE))]) (View.of 4 [0, 3, 2, 1] [] rfl rfl rfl rfl rfl rfl ?_ ?_) ?_
    · repeat (first | exact .nil | refine .junk ?_ | refine .eq rfl ?_)
    · exact (.put (notF rfl) rfl (.eq rfl (by simp)) (.put (notF rfl) rfl (.eq rfl (by simp)) (.put (notF rfl) rfl (.rowDE (by show repl (l.map Obj.enc).length _ = _; rw [rep_rows, List.length_map]; rfl)) (.put (notF rfl) rfl (.rowDE (by show repl (ops.map Opn.enc).length _ = _; rw [rep_rows, List.length_map]; rfl)) (.nil _)))))
    refine borrowMD ((objcapD l ops ps g ((emp l ops).mu + 1)).1 (emp l ops) 0 ⟨by simp [emp], by simp [emp]⟩ (Nat.lt_succ_self _)) [] rfl fun b0 hb0 => ?_
    refine loop_keep (fun (s : StK) => s.p ≤ ps.length ∧ MarkMid l ops ps s.b s.p 0) [3, 28, 29] (fun s => [(30, vInt .i64 (s.p : Nat))]) (fun s => [.var [.dat (objsD l), .dat (opnD ops), .dat (prcD ps)], .var [.ptr 0 0, .row 2 1 0 none, .row 3 1 0 none], .row 1 (dRows (s.b.O.map bE)), .row 1 (dRows (s.b.P.map bE))]) (fun s => ps.length - s.p) ⟨0, b0⟩ ⟨Nat.zero_le _, .start hb0⟩ ?_ (fun s hs => ?_)
    · refine View.of 4 [0, 1, 2, 3] [] rfl rfl rfl rfl rfl rfl ?_ ?_
      · repeat (first | exact .nil | refine .junk ?_ | refine .eq rfl ?_)
      · exact (.put (notF rfl) rfl (.eq rfl (by simp)) (.put (notF rfl) rfl (.eq rfl (by simp)) (.put (notF rfl) rfl (.rowDE rfl) (.put (notF rfl) rfl (.rowDE rfl) (.nil _)))))
    obtain ⟨p, b⟩ := s
    obtain ⟨hp, hM⟩ := hs
    have hp : p ≤ ps.length := hp
    have hM : MarkMid l ops ps b p 0 := hM
    refine bB_dec (fun h => ?_) (fun h => ?_)
    · have hplt : p < ps.length := by
        have h : (p : Int) < ((ps.map Prc.enc).length : Int) := h
        rw [List.length_map] at h
        omega
      refine ok_some (prc_get hplt) ?_
      have hpr := List.getElem?_eq_getElem hplt
      have hsl := hps _ (List.getElem_mem hplt)
      generalize ps[p] = pr at hpr hsl
      refine loop_keep (fun (s : StK) => s.p ≤ pr.slots.length ∧ MarkMid l ops ps s.b p s.p) [3, 5, 28, 29, 30, 35, 36] (fun s => [(37, vInt .i64 (s.p : Nat))]) (fun s => [.var [.dat (objsD l), .dat (opnD ops), .dat (prcD ps)], .var [.ptr 0 0, .row 2 1 0 none, .row 3 1 0 none], .row 1 (dRows (s.b.O.map bE)), .row 1 (dRows (s.b.P.map bE)), .var (pr.enc.map .dat)]) (fun s => pr.slots.length - s.p) ⟨0, b⟩ ⟨Nat.zero_le _, hM⟩ ?_ (fun s hs => ?_)
      · refine View.of 5 [0, 1, 2, 3, 4] [] rfl rfl rfl rfl rfl rfl ?_ ?_
        · repeat (first | exact .nil | refine .junk ?_ | refine .eq rfl ?_)
        · exact (.put (notF rfl) rfl (.eq rfl (by simp)) (.put (notF rfl) rfl (.eq rfl (by simp)) (.put (notF rfl) rfl (.rowDE rfl) (.put (notF rfl) rfl (.rowDE rfl) (.put (notF rfl) rfl (.eq rfl (by simp)) (.nil _))))))
      clear hM
      obtain ⟨j, b⟩ := s
      obtain ⟨hj, hM⟩ := hs
      have hj : j ≤ pr.slots.length := hj
      have hM : MarkMid l ops ps b p j := hM
      refine bB_dec (fun hjl => ?_) (fun hjl => ?_)
      · have hjlt : j < pr.slots.length := by
          have h : (j : Int) < ((pr.slots.map Sl3.enc).length : Int) := hjl
          rw [List.length_map] at h
          omega
        have hsj := List.getElem?_eq_getElem hjlt
        refine ok_some (sl3_get hjlt) ?_
        generalize pr.slots[j] = s at hsj
        refine bB_split (fun hlv => ?_) (fun hlv => ?_)
        · refine bB_split (fun hh => ?_) (fun hh => ?_)
          · refine borrowMD ((objcapD l ops ps g (b.mu + 1)).2 b s.opn s.rts ⟨by have := hM.st.lo; simpa [emp] using this, by have := hM.st.lp; simpa [emp] using this⟩ (Nat.lt_succ_self _)) [_, _] rfl fun c hc => ?_
            refine ⟨⟨j + 1, c⟩, ⟨hjlt, hM.stepC hpr hlv hsj hh hc⟩, (show pr.slots.length - (j + 1) < pr.slots.length - j by omega), View.of 6 [0, 1, 2, 3, 4] [] rfl rfl rfl rfl rfl rfl ?_ ?_⟩
            · repeat (first | exact .nil | refine .junk ?_ | refine .put (.ren (next_i64 (by omega)).symm) ?_ | refine .eq rfl ?_)
            · exact (.put (notF rfl) rfl (.eq rfl (by simp)) (.put (notF rfl) rfl (.eq rfl (by simp)) (.put (notF rfl) rfl (.rowDE rfl) (.put (notF rfl) rfl (.rowDE rfl) (.put (notF rfl) rfl (.eq rfl (by simp)) (.nil _))))))
          · skip
            refine ⟨⟨j + 1, b⟩, ⟨hjlt, hM.skip hpr hsj (fun _ => hh)⟩, (show pr.slots.length - (j + 1) < pr.slots.length - j by omega), View.of 6 [0, 1, 2, 3, 4] [] rfl rfl rfl rfl rfl rfl ?_ ?_⟩
            · repeat (first | exact .nil | refine .junk ?_ | refine .put (.ren (next_i64 (by omega)).symm) ?_ | refine .eq rfl ?_)
            · exact (.put (notF rfl) rfl (.eq rfl (by simp)) (.put (notF rfl) rfl (.eq rfl (by simp)) (.put (notF rfl) rfl (.rowDE rfl) (.put (notF rfl) rfl (.rowDE rfl) (.put (notF rfl) rfl (.eq rfl (by simp)) (.nil _))))))
        · skip
          refine ⟨⟨j + 1, b⟩, ⟨hjlt, hM.skip hpr hsj (fun h => absurd (h.symm.trans hlv) (by simp))⟩, (show pr.slots.length - (j + 1) < pr.slots.length - j by omega), View.of 6 [0, 1, 2, 3, 4] [] rfl rfl rfl rfl rfl rfl ?_ ?_⟩
          · repeat (first | exact .nil | refine .junk ?_ | refine .put (.ren (next_i64 (by omega)).symm) ?_ | refine .eq rfl ?_)
          · exact (.put (notF rfl) rfl (.eq rfl (by simp)) (.put (notF rfl) rfl (.eq rfl (by simp)) (.put (notF rfl) rfl (.rowDE rfl) (.put (notF rfl) rfl (.rowDE rfl) (.put (notF rfl) rfl (.eq rfl (by simp)) (.nil _))))))
      · have hje : j = pr.slots.length := by
          have h : ¬ (j : Int) < ((pr.slots.map Sl3.enc).length : Int) := hjl
          rw [List.length_map] at h
          omega
        subst hje
        refine ⟨⟨p + 1, b⟩, ⟨hplt, hM.next hpr⟩, (show ps.length - (p + 1) < ps.length - p by omega), View.of 5 [0, 1, 2, 3] [] rfl rfl rfl rfl rfl rfl ?_ ?_⟩
        · repeat (first | exact .nil | refine .junk ?_ | refine .put (.ren (next_i64 (by omega)).symm) ?_ | refine .eq rfl ?_)
        · exact (.put (notF rfl) rfl (.eq rfl (by simp)) (.put (notF rfl) rfl (.eq rfl (by simp)) (.put (notF rfl) rfl (.rowDE rfl) (.put (notF rfl) rfl (.rowDE rfl) (.nil _)))))
    · have hpe : p = ps.length := by
        have h : ¬ (p : Int) < ((ps.map Prc.enc).length : Int) := h
        rw [List.length_map] at h
        omega
      subst hpe
      exact ⟨b, hM.fin, rfl, rfl⟩
set_option maxRecDepth 100000 in
theorem mark_okD (l : List Obj) (ops : List Opn) (ps : List Prc) (g : ∀ o, o ∈ l → o.sm) (hl : l.length ≤ 4194304) (ho : ops.length ≤ 4194304) (hpl : ps.length ≤ 4194304) (hps : ∀ p, p ∈ ps → p.slots.length ≤ 10) :
    ACall Try.prog 35 [.rv (.one (.ptr 0 0))] [.var [.dat (objsD l), .dat (opnD ops), .dat (prcD ps)]] (fun r m => ∃ b, MarkOK l ops ps b ∧ r = .rv (.one (.ptr 1 0)) ∧ m = [.var [.dat (objsD l), .dat (opnD ops), .dat (prcD ps)], .var [.ptr 0 0, .row 2 1 0 none, .row 3 1 0 none], .row 1 (dRows (b.O.map bE)), .row 1 (dRows (b.P.map bE))]) :=
  acall_body_g Try.func35 l35 rfl (Nat.le_of_ble_eq_true rfl) (mark_bodyD l ops ps g hl ho hpl hps)

theorem borrowMR {l : List Obj} {ops : List Opn} {ps : List Prc} {a : Mk} {f : Nat} {args args0 : List CV} {Q : Mk → Prop} (h : ACall Try.prog f args0 (M0R l ops ps a) (fun r m => ∃ b, Q b ∧ r = .tup [] ∧ m = M0R l ops ps b)) (X : Mem)
    (hargs : args = args0.map (CV.ren (sg [4, 0, 5, 6, 1, 2, 3] (7 + X.length)))) {K : CV → Mem → Prop} (hK : ∀ b, Q b → K (.tup []) ([.var [.row 1 9 0 none, .row 2 2 0 none, .row 3 4 0 none], .row 9 (dRows (l.map Obj.enc)), .row 2 (dRows (ops.map Opn.enc)), .row 4 (dRows (ps.map Prc.enc)), .var [.ptr 0 0, .row 5 1 0 none, .row 6 1 0 none], .row 1 (dRows (b.O.map bE)), .row 1 (dRows (b.P.map bE))] ++ X)) :
    ACall Try.prog f args ([.var [.row 1 9 0 none, .row 2 2 0 none, .row 3 4 0 none], .row 9 (dRows (l.map Obj.enc)), .row 2 (dRows (ops.map Opn.enc)), .row 4 (dRows (ps.map Prc.enc)), .var [.ptr 0 0, .row 5 1 0 none, .row 6 1 0 none], .row 1 (dRows (a.O.map bE)), .row 1 (dRows (a.P.map bE))] ++ X) K := by
  refine acall_borrow [4, 0, 5, 6, 1, 2, 3] (7 + X.length) (by simp; omega) rfl rfl (by simp [allLt] <;> omega) (args0 := args0) hargs (fun i b' hi => ?_) h (fun r m1 hr => ?_)
  · match i, hi with
    | 0, hi => cases hi; exact .inr ⟨fun h => h, _, rfl, .eq rfl (by simp)⟩
    | 1, hi => cases hi; exact .inr ⟨fun h => h, _, rfl, .eq rfl (by simp)⟩
    | 2, hi => cases hi; exact .inr ⟨fun h => h, _, rfl, .rowDE rfl⟩
    | 3, hi => cases hi; exact .inr ⟨fun h => h, _, rfl, .rowDE rfl⟩
    | 4, hi => cases hi; exact .inr ⟨fun h => h, _, rfl, .rowDE rfl⟩
    | 5, hi => cases hi; exact .inr ⟨fun h => h, _, rfl, .rowDE rfl⟩
    | 6, hi => cases hi; exact .inr ⟨fun h => h, _, rfl, .rowDE rfl⟩
    | n + 7, hi => simp [M0R] at hi
  · obtain ⟨b, hb, rfl, rfl⟩ := hr
    refine ⟨Nat.le_refl _, ?_⟩
    have e : ∀ (s : Nat) (ds : List (List Dt)), (Bk.row s (dRows ds)).ren (sg [4, 0, 5, 6, 1, 2, 3] (7 + X.length)) = .row s (dRows ds) := fun s ds => by simp only [Bk.ren, dRows_ren]
    have hk := hK b hb
    have hw : weave ([.var [.row 1 9 0 none, .row 2 2 0 none, .row 3 4 0 none], .row 9 (dRows (l.map Obj.enc)), .row 2 (dRows (ops.map Opn.enc)), .row 4 (dRows (ps.map Prc.enc)), .var [.ptr 0 0, .row 5 1 0 none, .row 6 1 0 none], .row 1 (dRows (a.O.map bE)), .row 1 (dRows (a.P.map bE))] ++ X) [4, 0, 5, 6, 1, 2, 3] (renM (sg [4, 0, 5, 6, 1, 2, 3] (7 + X.length)) (M0R l ops ps b)) = [.var [.row 1 9 0 none, .row 2 2 0 none, .row 3 4 0 none], .row 9 (dRows (l.map Obj.enc)), .row 2 (dRows (ops.map Opn.enc)), .row 4 (dRows (ps.map Prc.enc)), .var [.ptr 0 0, .row 5 1 0 none, .row 6 1 0 none], .row 1 (dRows (b.O.map bE)), .row 1 (dRows (b.P.map bE))] ++ X := by
      simp only [M0R, renM, e, weave, app2_eq, List.append_nil]
      rfl
    rw [hw]
    exact hk

set_option maxRecDepth 100000 in
set_option maxHeartbeats 32000000 in
theorem mark_bodyR (l : List Obj) (ops : List Opn) (ps : List Prc) (g : ∀ o, o ∈ l → o.sm) (hl : l.length ≤ 4194304) (ho : ops.length ≤ 4194304) (hpl : ps.length ≤ 4194304) (hps : ∀ p, p ∈ ps → p.slots.length ≤ 10) :
    body Try.prog c35 [.rv (.one (.ptr 0 0))] [.var [.row 1 9 0 none, .row 2 2 0 none, .row 3 4 0 none], .row 9 (dRows (l.map Obj.enc)), .row 2 (dRows (ops.map Opn.enc)), .row 4 (dRows (ps.map Prc.enc))] (fun r m => ∃ b, MarkOK l ops ps b ∧ r = .rv (.one (.ptr 4 0)) ∧ m = [.var [.row 1 9 0 none, .row 2 2 0 none, .row 3 4 0 none], .row 9 (dRows (l.map Obj.enc)), .row 2 (dRows (ops.map Opn.enc)), .row 4 (dRows (ps.map Prc.enc)), .var [.ptr 0 0, .row 5 1 0 none, .row 6 1 0 none], .row 1 (dRows (b.O.map bE)), .row 1 (dRows (b.P.map bE))]) := by
  refine ⟨?_, ?_⟩
  · skip
    refine bB_yes (Nat.beq_refl _) ?_
    refine ⟨(by show (dRows (l.map Obj.enc)).length * 1 ≤ _; rw [dRows_len, List.length_map]; omega), ⟨rfl, rfl, trivial⟩, ?_⟩
    refine bB_yes (Nat.beq_refl _) ?_
    refine ⟨(by show (dRows (ops.map Opn.enc)).length * 1 ≤ _; rw [dRows_len, List.length_map]; omega), ⟨rfl, rfl, trivial⟩, ?_⟩
    refine ⟨trivial, ?_⟩
    refine ghost_keep [0] [(3, .rv (.one (.ptr 4 0)))] ([.var [.row 1 9 0 none, .row 2 2 0 none, .row 3 4 0 none], .row 9 (dRows (l.map Obj.enc)), .row 2 (dRows (ops.map Opn.enc)), .row 4 (dRows (ps.map Prc.enc)), .var [.ptr 0 0, .row 5 1 0 none, .row 6 1 0 none], .row 1 (dRows ((emp l ops).O.map bE)), .row 1 (dRows ((emp l ops).P.map bE))]) (View.of 7 [0, 1, 2, 3, 6, 4, 5] [] rfl rfl rfl rfl rfl rfl ?_ ?_) ?_
    · repeat (first | exact .nil | refine .junk ?_ | refine .eq rfl ?_)
    · exact (.put (notF rfl) rfl (.eq rfl (by simp)) (.put (notF rfl) rfl (.rowDE rfl) (.put (notF rfl) rfl (.rowDE rfl) (.put (notF rfl) rfl (.rowDE rfl) (.put (notF rfl) rfl (.eq rfl (by simp)) (.put (notF rfl) rfl (.rowDE (by show repl (dRows (l.map Obj.enc)).length _ = _; rw [rep_rows, dRows_len, List.length_map]; rfl)) (.put (notF rfl) rfl (.rowDE (by show repl (dRows (ops.map Opn.enc)).length _ = _; rw [rep_rows, dRows_len, List.length_map]; rfl)) (.nil _))))))))
    refine borrowMR ((objcapDR l ops ps g ((emp l ops).mu + 1)).1 (emp l ops) 0 ⟨by simp [emp], by simp [emp]⟩ (Nat.lt_succ_self _)) [] rfl fun b0 hb0 => ?_
    refine loop_keep (fun (s : StK) => s.p ≤ ps.length ∧ MarkMid l ops ps s.b s.p 0) [3, 28, 29] (fun s => [(30, vInt .i64 (s.p : Nat))]) (fun s => [.var [.row 1 9 0 none, .row 2 2 0 none, .row 3 4 0 none], .row 9 (dRows (l.map Obj.enc)), .row 2 (dRows (ops.map Opn.enc)), .row 4 (dRows (ps.map Prc.enc)), .var [.ptr 0 0, .row 5 1 0 none, .row 6 1 0 none], .row 1 (dRows (s.b.O.map bE)), .row 1 (dRows (s.b.P.map bE))]) (fun s => ps.length - s.p) ⟨0, b0⟩ ⟨Nat.zero_le _, .start hb0⟩ ?_ (fun s hs => ?_)
    · refine View.of 7 [0, 1, 2, 3, 4, 5, 6] [] rfl rfl rfl rfl rfl rfl ?_ ?_
      · repeat (first | exact .nil | refine .junk ?_ | refine .eq rfl ?_)
      · exact (.put (notF rfl) rfl (.eq rfl (by simp)) (.put (notF rfl) rfl (.rowDE rfl) (.put (notF rfl) rfl (.rowDE rfl) (.put (notF rfl) rfl (.rowDE rfl) (.put (notF rfl) rfl (.eq rfl (by simp)) (.put (notF rfl) rfl (.rowDE rfl) (.put (notF rfl) rfl (.rowDE rfl) (.nil _))))))))
    obtain ⟨p, b⟩ := s
    obtain ⟨hp, hM⟩ := hs
    have hp : p ≤ ps.length := hp
    have hM : MarkMid l ops ps b p 0 := hM
    refine bB_dec (fun h => ?_) (fun h => ?_)
    · have hplt : p < ps.length := by
        have h : (p : Int) < ((dRows (ps.map Prc.enc)).length : Int) := h
        rw [dRows_len, List.length_map] at h
        omega
      refine ok_some (idxZ_nat (k := p) (by show p < (dRows (ps.map Prc.enc)).length; rw [dRows_len, List.length_map]; exact hplt)) ?_
      refine ok_some (dRows_nth' Prc.enc ps hplt) ?_
      have hpr := List.getElem?_eq_getElem hplt
      have hsl := hps _ (List.getElem_mem hplt)
      generalize ps[p] = pr at hpr hsl
      refine loop_keep (fun (s : StK) => s.p ≤ pr.slots.length ∧ MarkMid l ops ps s.b p s.p) [3, 5, 28, 29, 30, 35, 36] (fun s => [(37, vInt .i64 (s.p : Nat))]) (fun s => [.var [.row 1 9 0 none, .row 2 2 0 none, .row 3 4 0 none], .row 9 (dRows (l.map Obj.enc)), .row 2 (dRows (ops.map Opn.enc)), .row 4 (dRows (ps.map Prc.enc)), .var [.ptr 0 0, .row 5 1 0 none, .row 6 1 0 none], .row 1 (dRows (s.b.O.map bE)), .row 1 (dRows (s.b.P.map bE)), .var (pr.enc.map .dat)]) (fun s => pr.slots.length - s.p) ⟨0, b⟩ ⟨Nat.zero_le _, hM⟩ ?_ (fun s hs => ?_)
      · refine View.of 8 [0, 1, 2, 3, 4, 5, 6, 7] [] rfl rfl rfl rfl rfl rfl ?_ ?_
        · repeat (first | exact .nil | refine .junk ?_ | refine .eq rfl ?_)
        · exact (.put (notF rfl) rfl (.eq rfl (by simp)) (.put (notF rfl) rfl (.rowDE rfl) (.put (notF rfl) rfl (.rowDE rfl) (.put (notF rfl) rfl (.rowDE rfl) (.put (notF rfl) rfl (.eq rfl (by simp)) (.put (notF rfl) rfl (.rowDE rfl) (.put (notF rfl) rfl (.rowDE rfl) (.put (notF rfl) rfl (.eq rfl (by simp)) (.nil _)))))))))
      clear hM
      obtain ⟨j, b⟩ := s
      obtain ⟨hj, hM⟩ := hs
      have hj : j ≤ pr.slots.length := hj
      have hM : MarkMid l ops ps b p j := hM
      refine bB_dec (fun hjl => ?_) (fun hjl => ?_)
      · have hjlt : j < pr.slots.length := by
          have h : (j : Int) < ((pr.slots.map Sl3.enc).length : Int) := hjl
          rw [List.length_map] at h
          omega
        have hsj := List.getElem?_eq_getElem hjlt
        refine ok_some (sl3_get hjlt) ?_
        generalize pr.slots[j] = s at hsj
        refine bB_split (fun hlv => ?_) (fun hlv => ?_)
        · refine bB_split (fun hh => ?_) (fun hh => ?_)
          · refine borrowMR ((objcapDR l ops ps g (b.mu + 1)).2 b s.opn s.rts ⟨by have := hM.st.lo; simpa [emp] using this, by have := hM.st.lp; simpa [emp] using this⟩ (Nat.lt_succ_self _)) [_, _] rfl fun c hc => ?_
            refine ⟨⟨j + 1, c⟩, ⟨hjlt, hM.stepC hpr hlv hsj hh hc⟩, (show pr.slots.length - (j + 1) < pr.slots.length - j by omega), View.of 9 [0, 1, 2, 3, 4, 5, 6, 7] [] rfl rfl rfl rfl rfl rfl ?_ ?_⟩
            · repeat (first | exact .nil | refine .junk ?_ | refine .put (.ren (next_i64 (by omega)).symm) ?_ | refine .eq rfl ?_)
            · exact (.put (notF rfl) rfl (.eq rfl (by simp)) (.put (notF rfl) rfl (.rowDE rfl) (.put (notF rfl) rfl (.rowDE rfl) (.put (notF rfl) rfl (.rowDE rfl) (.put (notF rfl) rfl (.eq rfl (by simp)) (.put (notF rfl) rfl (.rowDE rfl) (.put (notF rfl) rfl (.rowDE rfl) (.put (notF rfl) rfl (.eq rfl (by simp)) (.nil _)))))))))
          · skip
            refine ⟨⟨j + 1, b⟩, ⟨hjlt, hM.skip hpr hsj (fun _ => hh)⟩, (show pr.slots.length - (j + 1) < pr.slots.length - j by omega), View.of 9 [0, 1, 2, 3, 4, 5, 6, 7] [] rfl rfl rfl rfl rfl rfl ?_ ?_⟩
            · repeat (first | exact .nil | refine .junk ?_ | refine .put (.ren (next_i64 (by omega)).symm) ?_ | refine .eq rfl ?_)
            · exact (.put (notF rfl) rfl (.eq rfl (by simp)) (.put (notF rfl) rfl (.rowDE rfl) (.put (notF rfl) rfl (.rowDE rfl) (.put (notF rfl) rfl (.rowDE rfl) (.put (notF rfl) rfl (.eq rfl (by simp)) (.put (notF rfl) rfl (.rowDE rfl) (.put (notF rfl) rfl (.rowDE rfl) (.put (notF rfl) rfl (.eq rfl (by simp)) (.nil _)))))))))
        · skip
          refine ⟨⟨j + 1, b⟩, ⟨hjlt, hM.skip hpr hsj (fun h => absurd (h.symm.trans hlv) (by simp))⟩, (show pr.slots.length - (j + 1) < pr.slots.length - j by omega), View.of 9 [0, 1, 2, 3, 4, 5, 6, 7] [] rfl rfl rfl rfl rfl rfl ?_ ?_⟩
          · repeat (first | exact .nil | refine .junk ?_ | refine .put (.ren (next_i64 (by omega)).symm) ?_ | refine .eq rfl ?_)
          · exact (.put (notF rfl) rfl (.eq rfl (by simp)) (.put (notF rfl) rfl (.rowDE rfl) (.put (notF rfl) rfl (.rowDE rfl) (.put (notF rfl) rfl (.rowDE rfl) (.put (notF rfl) rfl (.eq rfl (by simp)) (.put (notF rfl) rfl (.rowDE rfl) (.put (notF rfl) rfl (.rowDE rfl) (.put (notF rfl) rfl (.eq rfl (by simp)) (.nil _)))))))))
      · have hje : j = pr.slots.length := by
          have h : ¬ (j : Int) < ((pr.slots.map Sl3.enc).length : Int) := hjl
          rw [List.length_map] at h
          omega
        subst hje
        refine ⟨⟨p + 1, b⟩, ⟨hplt, hM.next hpr⟩, (show ps.length - (p + 1) < ps.length - p by omega), View.of 8 [0, 1, 2, 3, 4, 5, 6] [] rfl rfl rfl rfl rfl rfl ?_ ?_⟩
        · repeat (first | exact .nil | refine .junk ?_ | refine .put (.ren (next_i64 (by omega)).symm) ?_ | refine .eq rfl ?_)
        · exact (.put (notF rfl) rfl (.eq rfl (by simp)) (.put (notF rfl) rfl (.rowDE rfl) (.put (notF rfl) rfl (.rowDE rfl) (.put (notF rfl) rfl (.rowDE rfl) (.put (notF rfl) rfl (.eq rfl (by simp)) (.put (notF rfl) rfl (.rowDE rfl) (.put (notF rfl) rfl (.rowDE rfl) (.nil _))))))))
    · have hpe : p = ps.length := by
        have h : ¬ (p : Int) < ((dRows (ps.map Prc.enc)).length : Int) := h
        rw [dRows_len, List.length_map] at h
        omega
      subst hpe
      exact ⟨b, hM.fin, rfl, rfl⟩
  · skip
    refine bB_yes (Nat.beq_refl _) ?_
    refine ⟨(by show (dRows (ops.map Opn.enc)).length * 1 ≤ _; rw [dRows_len, List.length_map]; omega), ⟨rfl, rfl, trivial⟩, ?_⟩
    refine bB_yes (Nat.beq_refl _) ?_
    refine ⟨(by show (dRows (l.map Obj.enc)).length * 1 ≤ _; rw [dRows_len, List.length_map]; omega), ⟨rfl, rfl, trivial⟩, ?_⟩
    refine ⟨trivial, ?_⟩
    refine ghost_keep [0] [(3, .rv (.one (.ptr 4 0)))] ([.var [.row 1 9 0 none, .row 2 2 0 none, .row 3 4 0 none], .row 9 (dRows (l.map Obj.enc)), .row 2 (dRows (ops.map Opn.enc)), .row 4 (dRows (ps.map Prc.enc)), .var [.ptr 0 0, .row 5 1 0 none, .row 6 1 0 none], .row 1 (dRows ((emp l ops).O.map bE)), .row 1 (dRows ((emp l ops).P.map bE))]) (View.of 7 [0, 1, 2, 3, 6, 5, 4] [] rfl rfl rfl rfl rfl rfl ?_ ?_) ?_
    · repeat (first | exact .nil | refine .junk ?_ | refine .eq rfl ?_)
    · exact (.put (notF rfl) rfl (.eq rfl (by simp)) (.put (notF rfl) rfl (.rowDE rfl) (.put (notF rfl) rfl (.rowDE rfl) (.put (notF rfl) rfl (.rowDE rfl) (.put (notF rfl) rfl (.eq rfl (by simp)) (.put (notF rfl) rfl (.rowDE (by show repl (dRows (l.map Obj.enc)).length _ = _; rw [rep_rows, dRows_len, List.length_map]; rfl)) (.put (notF rfl) rfl (.rowDE (by show repl (dRows (ops.map Opn.enc)).length _ = _; rw [rep_rows, dRows_len, List.length_map]; rfl)) (.nil _))))))))
    refine borrowMR ((objcapDR l ops ps g ((emp l ops).mu + 1)).1 (emp l ops) 0 ⟨by simp [emp], by simp [emp]⟩ (Nat.lt_succ_self _)) [] rfl fun b0 hb0 => ?_
    refine loop_keep (fun (s : StK) => s.p ≤ ps.length ∧ MarkMid l ops ps s.b s.p 0) [3, 28, 29] (fun s => [(30, vInt .i64 (s.p : Nat))]) (fun s => [.var [.row 1 9 0 none, .row 2 2 0 none, .row 3 4 0 none], .row 9 (dRows (l.map Obj.enc)), .row 2 (dRows (ops.map Opn.enc)), .row 4 (dRows (ps.map Prc.enc)), .var [.ptr 0 0, .row 5 1 0 none, .row 6 1 0 none], .row 1 (dRows (s.b.O.map bE)), .row 1 (dRows (s.b.P.map bE))]) (fun s => ps.length - s.p) ⟨0, b0⟩ ⟨Nat.zero_le _, .start hb0⟩ ?_ (fun s hs => ?_)
    · refine View.of 7 [0, 1, 2, 3, 4, 5, 6] [] rfl rfl rfl rfl rfl rfl ?_ ?_
      · repeat (first | exact .nil | refine .junk ?_ | refine .eq rfl ?_)
      · exact (.put (notF rfl) rfl (.eq rfl (by simp)) (.put (notF rfl) rfl (.rowDE rfl) (.put (notF rfl) rfl (.rowDE rfl) (.put (notF rfl) rfl (.rowDE rfl) (.put (notF rfl) rfl (.eq rfl (by simp)) (.put (notF rfl) rfl (.rowDE rfl) (.put (notF rfl) rfl (.rowDE rfl) (.nil _))))))))
    obtain ⟨p, b⟩ := s
    obtain ⟨hp, hM⟩ := hs
    have hp : p ≤ ps.length := hp
    have hM : MarkMid l ops ps b p 0 := hM
    refine bB_dec (fun h => ?_) (fun h => ?_)
    · have hplt : p < ps.length := by
        have h : (p : Int) < ((dRows (ps.map Prc.enc)).length : Int) := h
        rw [dRows_len, List.length_map] at h
        omega
      refine ok_some (idxZ_nat (k := p) (by show p < (dRows (ps.map Prc.enc)).length; rw [dRows_len, List.length_map]; exact hplt)) ?_
      refine ok_some (dRows_nth' Prc.enc ps hplt) ?_
      have hpr := List.getElem?_eq_getElem hplt
      have hsl := hps _ (List.getElem_mem hplt)
      generalize ps[p] = pr at hpr hsl
      refine loop_keep (fun (s : StK) => s.p ≤ pr.slots.length ∧ MarkMid l ops ps s.b p s.p) [3, 5, 28, 29, 30, 35, 36] (fun s => [(37, vInt .i64 (s.p : Nat))]) (fun s => [.var [.row 1 9 0 none, .row 2 2 0 none, .row 3 4 0 none], .row 9 (dRows (l.map Obj.enc)), .row 2 (dRows (ops.map Opn.enc)), .row 4 (dRows (ps.map Prc.enc)), .var [.ptr 0 0, .row 5 1 0 none, .row 6 1 0 none], .row 1 (dRows (s.b.O.map bE)), .row 1 (dRows (s.b.P.map bE)), .var (pr.enc.map .dat)]) (fun s => pr.slots.length - s.p) ⟨0, b⟩ ⟨Nat.zero_le _, hM⟩ ?_ (fun s hs => ?_)
      · refine View.of 8 [0, 1, 2, 3, 4, 5, 6, 7] [] rfl rfl rfl rfl rfl rfl ?_ ?_
        · repeat (first | exact .nil | refine .junk ?_ | refine .eq rfl ?_)
        · exact (.put (notF rfl) rfl (.eq rfl (by simp)) (.put (notF rfl) rfl (.rowDE rfl) (.put (notF rfl) rfl (.rowDE rfl) (.put (notF rfl) rfl (.rowDE rfl) (.put (notF rfl) rfl (.eq rfl (by simp)) (.put (notF rfl) rfl (.rowDE rfl) (.put (notF rfl) rfl (.rowDE rfl) (.put (notF rfl) rfl (.eq rfl (by simp)) (.nil _)))))))))
      clear hM
      obtain ⟨j, b⟩ := s
      obtain ⟨hj, hM⟩ := hs
      have hj : j ≤ pr.slots.length := hj
      have hM : MarkMid l ops ps b p j := hM
      refine bB_dec (fun hjl => ?_) (fun hjl => ?_)
      · have hjlt : j < pr.slots.length := by
          have h : (j : Int) < ((pr.slots.map Sl3.enc).length : Int) := hjl
          rw [List.length_map] at h
          omega
        have hsj := List.getElem?_eq_getElem hjlt
        refine ok_some (sl3_get hjlt) ?_
        generalize pr.slots[j] = s at hsj
        refine bB_split (fun hlv => ?_) (fun hlv => ?_)
        · refine bB_split (fun hh => ?_) (fun hh => ?_)
          · refine borrowMR ((objcapDR l ops ps g (b.mu + 1)).2 b s.opn s.rts ⟨by have := hM.st.lo; simpa [emp] using this, by have := hM.st.lp; simpa [emp] using this⟩ (Nat.lt_succ_self _)) [_, _] rfl fun c hc => ?_
            refine ⟨⟨j + 1, c⟩, ⟨hjlt, hM.stepC hpr hlv hsj hh hc⟩, (show pr.slots.length - (j + 1) < pr.slots.length - j by omega), View.of 9 [0, 1, 2, 3, 4, 5, 6, 7] [] rfl rfl rfl rfl rfl rfl ?_ ?_⟩
            · repeat (first | exact .nil | refine .junk ?_ | refine .put (.ren (next_i64 (by omega)).symm) ?_ | refine .eq rfl ?_)
            · exact (.put (notF rfl) rfl (.eq rfl (by simp)) (.put (notF rfl) rfl (.rowDE rfl) (.put (notF rfl) rfl (.rowDE rfl) (.put (notF rfl) rfl (.rowDE rfl) (.put (notF rfl) rfl (.eq rfl (by simp)) (.put (notF rfl) rfl (.rowDE rfl) (.put (notF rfl) rfl (.rowDE rfl) (.put (notF rfl) rfl (.eq rfl (by simp)) (.nil _)))))))))
          · skip
            refine ⟨⟨j + 1, b⟩, ⟨hjlt, hM.skip hpr hsj (fun _ => hh)⟩, (show pr.slots.length - (j + 1) < pr.slots.length - j by omega), View.of 9 [0, 1, 2, 3, 4, 5, 6, 7] [] rfl rfl rfl rfl rfl rfl ?_ ?_⟩
            · repeat (first | exact .nil | refine .junk ?_ | refine .put (.ren (next_i64 (by omega)).symm) ?_ | refine .eq rfl ?_)
            · exact (.put (notF rfl) rfl (.eq rfl (by simp)) (.put (notF rfl) rfl (.rowDE rfl) (.put (notF rfl) rfl (.rowDE rfl) (.put (notF rfl) rfl (.rowDE rfl) (.put (notF rfl) rfl (.eq rfl (by simp)) (.put (notF rfl) rfl (.rowDE rfl) (.put (notF rfl) rfl (.rowDE rfl) (.put (notF rfl) rfl (.eq rfl (by simp)) (.nil _)))))))))
        · skip
          refine ⟨⟨j + 1, b⟩, ⟨hjlt, hM.skip hpr hsj (fun h => absurd (h.symm.trans hlv) (by simp))⟩, (show pr.slots.length - (j + 1) < pr.slots.length - j by omega), View.of 9 [0, 1, 2, 3, 4, 5, 6, 7] [] rfl rfl rfl rfl rfl rfl ?_ ?_⟩
          · repeat (first | exact .nil | refine .junk ?_ | refine .put (.ren (next_i64 (by omega)).symm) ?_ | refine .eq rfl ?_)
          · exact (.put (notF rfl) rfl (.eq rfl (by simp)) (.put (notF rfl) rfl (.rowDE rfl) (.put (notF rfl) rfl (.rowDE rfl) (.put (notF rfl) rfl (.rowDE rfl) (.put (notF rfl) rfl (.eq rfl (by simp)) (.put (notF rfl) rfl (.rowDE rfl) (.put (notF rfl) rfl (.rowDE rfl) (.put (notF rfl) rfl (.eq rfl (by simp)) (.nil _)))))))))
      · have hje : j = pr.slots.length := by
          have h : ¬ (j : Int) < ((pr.slots.map Sl3.enc).length : Int) := hjl
          rw [List.length_map] at h
          omega
        subst hje
        refine ⟨⟨p + 1, b⟩, ⟨hplt, hM.next hpr⟩, (show ps.length - (p + 1) < ps.length - p by omega), View.of 8 [0, 1, 2, 3, 4, 5, 6] [] rfl rfl rfl rfl rfl rfl ?_ ?_⟩
        · repeat (first | exact .nil | refine .junk ?_ | refine .put (.ren (next_i64 (by omega)).symm) ?_ | refine .eq rfl ?_)
        · exact (.put (notF rfl) rfl (.eq rfl (by simp)) (.put (notF rfl) rfl (.rowDE rfl) (.put (notF rfl) rfl (.rowDE rfl) (.put (notF rfl) rfl (.rowDE rfl) (.put (notF rfl) rfl (.eq rfl (by simp)) (.put (notF rfl) rfl (.rowDE rfl) (.put (notF rfl) rfl (.rowDE rfl) (.nil _))))))))
    · have hpe : p = ps.length := by
        have h : ¬ (p : Int) < ((dRows (ps.map Prc.enc)).length : Int) := h
        rw [dRows_len, List.length_map] at h
        omega
      subst hpe
      exact ⟨b, hM.fin, rfl, rfl⟩
set_option maxRecDepth 100000 in
theorem mark_okR (l : List Obj) (ops : List Opn) (ps : List Prc) (g : ∀ o, o ∈ l → o.sm) (hl : l.length ≤ 4194304) (ho : ops.length ≤ 4194304) (hpl : ps.length ≤ 4194304) (hps : ∀ p, p ∈ ps → p.slots.length ≤ 10) :
    ACall Try.prog 35 [.rv (.one (.ptr 0 0))] [.var [.row 1 9 0 none, .row 2 2 0 none, .row 3 4 0 none], .row 9 (dRows (l.map Obj.enc)), .row 2 (dRows (ops.map Opn.enc)), .row 4 (dRows (ps.map Prc.enc))] (fun r m => ∃ b, MarkOK l ops ps b ∧ r = .rv (.one (.ptr 4 0)) ∧ m = [.var [.row 1 9 0 none, .row 2 2 0 none, .row 3 4 0 none], .row 9 (dRows (l.map Obj.enc)), .row 2 (dRows (ops.map Opn.enc)), .row 4 (dRows (ps.map Prc.enc)), .var [.ptr 0 0, .row 5 1 0 none, .row 6 1 0 none], .row 1 (dRows (b.O.map bE)), .row 1 (dRows (b.P.map bE))]) :=
  acall_body_g Try.func35 l35 rfl (Nat.le_of_ble_eq_true rfl) (mark_bodyR l ops ps g hl ho hpl hps)


def c17 : LF := ⟨25, [.tmp 2], (.seq (.reg [
    ⟨(some 1), .box (.t 0), none⟩,
    ⟨(some 2), .mov (.c (.rv (.one .esl))), none⟩]) (.seq (.reg [
    ⟨(some 7), .call (.c (.rv (.one (.fn 35 [])))) [(.t 1)], none⟩,
    ⟨(some 3), .mov (.t 7), none⟩]) (.seq (.reg [
    ⟨(some 4), .mov (.c (.rv (.one .esl))), none⟩]) (.seq (.seq (.reg [
    ⟨(some 8), .mov (.t 3), none⟩,
    ⟨(some 9), .nilc (.t 8), none⟩,
    ⟨(some 10), .fadr 1 (.t 9), none⟩,
    ⟨(some 11), .load false 1 (.t 10), none⟩,
    ⟨(some 12), .len 1 (.t 11), none⟩,
    ⟨(some 13), .mov (.c (.rv (.one (.dat (.val (.int .i64 (0))))))), none⟩]) (.block 0 (.loop (.seq (.reg [
    ⟨(some 14), .bin .lss (.t 13) (.t 12), none⟩]) (.seq (.cond (.t 14) .skip (.exit 0)) (.seq (.block 1 (.seq (.reg [
    ⟨(some 15), .mov (.t 13), none⟩,
    ⟨(some 16), .idx 1 (.t 11) (.t 13), none⟩,
    ⟨(some 17), .load false 1 (.t 16), none⟩,
    ⟨(some 5), .mov (.t 15), none⟩,
    ⟨(some 6), .mov (.t 17), none⟩]) (.seq (.reg [
    ⟨(some 18), .mov (.t 6), none⟩]) (.cond (.t 18) (.reg [
    ⟨(some 19), .mov (.t 4), none⟩,
    ⟨(some 20), .mov (.t 5), none⟩,
    ⟨(some 21), .bsl 1 [(.dat (.val (.int .i64 (0))))] 1 [(0, (.t 20))], none⟩,
    ⟨(some 22), .app 1 8 (.t 19) (.t 21), none⟩,
    ⟨(some 4), .mov (.t 22), none⟩]) .skip)))) (.reg [
    ⟨(some 23), .bin .add (.t 13) (.c (.rv (.one (.dat (.val (.int .i64 (1))))))), none⟩,
    ⟨(some 13), .mov (.t 23), none⟩]))))))) (.seq (.reg [
    ⟨(some 24), .mov (.t 4), none⟩,
    ⟨(some 2), .mov (.t 24), none⟩]) .ret)))))⟩
/-! sweep.Reach -/
def idxsB (L : List Bool) (i : Nat) : List Nat := (List.range i).filter fun k => L[k]? == some true
theorem idxsB_succ (L : List Bool) (i : Nat) : idxsB L (i + 1) = idxsB L i ++ (if L[i]? = some true then [i] else []) := by
  unfold idxsB
  rw [List.range_succ, List.filter_append]
  by_cases h : L[i]? = some true
  · simp [h]
  · simp [h]
theorem idxsB_len (L : List Bool) (i : Nat) : (idxsB L i).length ≤ i := by
  unfold idxsB
  exact Nat.le_trans (List.length_filter_le _ _) (by simp)
def nE (k : Nat) : List Dt := [.val (.int .i64 (k : Nat))]
def natsR (l : List Nat) : RV := .one (.dat (.sl 1 (l.map nE)))
def natsV (l : List Nat) : CV := .rv (natsR l)
theorem l17 : lowF Try.prog Try.f17 = some c17 := by kernel_rfl
set_option maxRecDepth 100000 in
set_option maxHeartbeats 16000000 in
theorem sreach_body (l : List Obj) (ops : List Opn) (ps : List Prc) (g : ∀ o, o ∈ l → o.sm) (hl : l.length ≤ 4194304) (ho : ops.length ≤ 4194304) (hpl : ps.length ≤ 4194304) (hps : ∀ p, p ∈ ps → p.slots.length ≤ 10) :
    body Try.prog c17 [kernV l ops ps] [] (fun r m => ∃ b, MarkOK l ops ps b ∧ FrzV m r (natsV (idxsB b.O l.length))) := by
  refine acall_view (mark_okD l ops ps g hl ho hpl hps) fun r m1 ⟨b, hb, hr, hm⟩ => ?_
  subst hr hm
  refine ⟨_, _, View.refl (by simp), ?_⟩
  have hbO := hb.len.1
  refine loop_keep (fun i => i ≤ l.length) [3, 11, 12] (fun i => [(13, vInt .i64 (i : Nat)), (4, .rv (.one (.row 4 1 0 none)))]) (fun i => [.dead, .dead, .row 1 (dRows (b.O.map bE)), .dead, .row 1 (dRows ((idxsB b.O i).map nE))]) (fun i => l.length - i) 0 (Nat.zero_le _) ?_ (fun i hi => ?_)
  · refine View.trans (View.esl 4 1 4 rfl rfl rfl) (View.of 5 [0, 1, 2, 3, 4] [] rfl rfl rfl rfl rfl rfl ?_ ?_)
    · repeat (first | exact .nil | refine .junk ?_ | refine .eq rfl ?_)
    · exact .dead (.dead (.put (notF rfl) rfl (.rowDE rfl) (.dead (.put (notF rfl) rfl (.rowDE rfl) (.nil _)))))
  have hi : i ≤ l.length := hi
  refine bB_dec (fun h => ?_) (fun h => ?_)
  · have hlt : i < b.O.length := by
      have h : (i : Int) < ((dRows (b.O.map bE)).length : Int) := h
      rw [dRows_len, List.length_map] at h
      omega
    have hil := idxsB_len b.O i
    refine ok_some (b_idx hlt) ?_
    refine ok_some (bO_get hlt) ?_
    have hs := idxsB_succ b.O i
    rw [List.getElem?_eq_getElem hlt] at hs
    refine bB_split (fun h2 => ?_) (fun h2 => ?_)
    · rw [h2, if_pos rfl] at hs
      refine ⟨by have e := dRows_len ((idxsB b.O i).map nE); rw [List.length_map] at e; simp only [subL, List.length_cons, List.length_nil]; omega, ?_⟩
      refine ⟨i + 1, (show i + 1 ≤ l.length by omega), (show l.length - (i + 1) < l.length - i by omega), View.of 7 [0, 1, 2, 3, 6] [] rfl rfl rfl rfl rfl rfl ?_ ?_⟩
      · repeat (first | exact .nil | refine .junk ?_ | refine .put (.ren (next_i64 (by omega)).symm) ?_ | refine .eq rfl ?_)
      · exact .dead (.dead (.put (notF rfl) rfl (.rowDE rfl) (.dead (.put (notF rfl) rfl (.rowDE (by rw [hs]; simp [subL, dRows, nE])) (.nil _)))))
    · rw [h2, if_neg (by simp), List.append_nil] at hs
      refine ⟨i + 1, (show i + 1 ≤ l.length by omega), (show l.length - (i + 1) < l.length - i by omega), View.of 5 [0, 1, 2, 3, 4] [] rfl rfl rfl rfl rfl rfl ?_ ?_⟩
      · repeat (first | exact .nil | refine .junk ?_ | refine .put (.ren (next_i64 (by omega)).symm) ?_ | refine .eq rfl ?_)
      · exact .dead (.dead (.put (notF rfl) rfl (.rowDE rfl) (.dead (.put (notF rfl) rfl (.rowDE (by rw [hs])) (.nil _)))))
  · have hie : i = l.length := by
      have h : ¬ (i : Int) < ((dRows (b.O.map bE)).length : Int) := h
      rw [dRows_len, List.length_map] at h
      omega
    subst hie
    exact ⟨b, hb, .rv (.one (FrzC.rowD rfl 0 none))⟩
set_option maxRecDepth 100000 in
theorem sreach_ok (l : List Obj) (ops : List Opn) (ps : List Prc) (g : ∀ o, o ∈ l → o.sm) (hl : l.length ≤ 4194304) (ho : ops.length ≤ 4194304) (hpl : ps.length ≤ 4194304) (hps : ∀ p, p ∈ ps → p.slots.length ≤ 10) {m : Mem} {K : CV → Mem → Prop}
    (h : ∀ b, MarkOK l ops ps b → K (natsV (idxsB b.O l.length)) m) : ACall Try.prog 17 [kernV l ops ps] m K := by
  refine acall_frame (K0 := fun r m => ∃ b, MarkOK l ops ps b ∧ FrzV m r (natsV (idxsB b.O l.length))) (acall_body Try.func17 l17 rfl (Nat.le_of_ble_eq_true rfl) (sreach_body l ops ps g hl ho hpl hps)) (by simp [kernV, objsD, opnD, prcD, CV.isD, CC.isD, RV.isD]) fun r m1 hr => ?_
  obtain ⟨b, hb, hf⟩ := hr
  exact ⟨_, hf, h b hb⟩

def c30 : LF := ⟨32, [.cell true 3 2], (.seq (.reg [
    ⟨(some 1), .box (.t 0), none⟩,
    ⟨(some 2), .alloc [.esl, .esl, .esl], none⟩]) (.seq (.draw [
    ⟨(some 6), .fadr 0 (.t 1), none⟩,
    ⟨(some 7), .load false 1 (.t 6), none⟩,
    ⟨(some 8), .call (.c (.rv (.one (.fn 26 [])))) [(.t 7)], none⟩,
    ⟨(some 9), .fadr 1 (.t 1), none⟩,
    ⟨(some 10), .load false 1 (.t 9), none⟩,
    ⟨(some 11), .call (.c (.rv (.one (.fn 41 [])))) [(.t 10)], none⟩,
    ⟨(some 12), .build [.esl, .esl, .esl] [(0, 1, (.t 8)), (1, 1, (.t 11))], none⟩,
    ⟨(some 3), .alloc [.esl, .esl, .esl], none⟩,
    ⟨none, .store 3 (.t 3) (.t 12), none⟩]
    [(.cons 0 none (.cons 1 none (.cons 3 none (.cons 4 none (.alt (.cons 2 (some [4]) (.alt (.cons 5 (some []) (.cons 6 none (.cons 7 (some [4, 1]) (.cons 8 (some []) .nil)))) (.cons 7 (some [4, 1]) (.cons 5 (some []) (.cons 6 none (.cons 8 (some []) .nil)))))) (.cons 7 (some [4, 1]) (.cons 2 (some [4]) (.cons 5 (some []) (.cons 6 none (.cons 8 (some []) .nil))))))))))]) (.seq (.seq (.reg [
    ⟨(some 13), .fadr 2 (.t 1), none⟩,
    ⟨(some 14), .load false 1 (.t 13), none⟩,
    ⟨(some 15), .len 1 (.t 14), none⟩,
    ⟨(some 16), .mov (.c (.rv (.one (.dat (.val (.int .i64 (0))))))), none⟩]) (.block 0 (.loop (.seq (.reg [
    ⟨(some 17), .bin .lss (.t 16) (.t 15), none⟩]) (.seq (.cond (.t 17) .skip (.exit 0)) (.seq (.block 1 (.seq (.reg [
    ⟨(some 18), .idx 4 (.t 14) (.t 16), none⟩,
    ⟨(some 19), .load true 4 (.t 18), none⟩,
    ⟨(some 5), .alloc [(.dat (.val (.bool false))), (.dat (.val (.bool false))), (.dat (.val (.int .i64 (0)))), .esl], none⟩,
    ⟨none, .store 4 (.t 5) (.t 19), none⟩]) (.seq (.reg [
    ⟨(some 20), .fadr 3 (.t 5), none⟩,
    ⟨(some 21), .load false 1 (.t 20), none⟩,
    ⟨(some 22), .call (.c (.rv (.one (.fn 42 [])))) [(.t 21)], none⟩,
    ⟨(some 23), .fadr 3 (.t 5), none⟩,
    ⟨none, .store 1 (.t 23) (.t 22), none⟩]) (.reg [
    ⟨(some 24), .fadr 2 (.t 3), none⟩,
    ⟨(some 25), .load false 1 (.t 24), none⟩,
    ⟨(some 26), .load true 4 (.t 5), none⟩,
    ⟨(some 27), .bsl 4 [(.dat (.val (.bool false))), (.dat (.val (.bool false))), (.dat (.val (.int .i64 (0)))), .esl] 1 [(0, (.t 26))], none⟩,
    ⟨(some 28), .app 4 40 (.t 25) (.t 27), none⟩,
    ⟨(some 29), .fadr 2 (.t 3), none⟩,
    ⟨none, .store 1 (.t 29) (.t 28), none⟩])))) (.reg [
    ⟨(some 30), .bin .add (.t 16) (.c (.rv (.one (.dat (.val (.int .i64 (1))))))), none⟩,
    ⟨(some 16), .mov (.t 30), none⟩]))))))) (.seq (.reg [
    ⟨(some 31), .load true 3 (.t 3), none⟩,
    ⟨none, .store 3 (.t 2) (.t 31), none⟩]) .ret))))⟩
def c42 : LF := ⟨8, [.tmp 2], (.seq (.reg [
    ⟨(some 2), .mov (.c (.rv (.one .esl))), none⟩]) (.seq (.seq (.reg [
    ⟨(some 3), .mov (.t 0), none⟩,
    ⟨(some 4), .snil false (.t 3), none⟩]) (.cond (.t 4) (.seq (.reg [
    ⟨(some 2), .mov (.c (.rv (.one .esl))), none⟩]) .ret) .skip)) (.seq (.reg [
    ⟨(some 5), .bsl 3 [(.dat (.val (.bool false))), (.dat (.val (.int .i64 (0)))), (.dat (.val (.int .i64 (0))))] 0 [], none⟩,
    ⟨(some 6), .mov (.t 0), none⟩,
    ⟨(some 7), .app 3 24 (.t 5) (.t 6), none⟩,
    ⟨(some 2), .mov (.t 7), none⟩]) .ret)))⟩
def c41 : LF := ⟨8, [.tmp 2], (.seq (.reg [
    ⟨(some 2), .mov (.c (.rv (.one .esl))), none⟩]) (.seq (.seq (.reg [
    ⟨(some 3), .mov (.t 0), none⟩,
    ⟨(some 4), .snil false (.t 3), none⟩]) (.cond (.t 4) (.seq (.reg [
    ⟨(some 2), .mov (.c (.rv (.one .esl))), none⟩]) .ret) .skip)) (.seq (.reg [
    ⟨(some 5), .bsl 2 [(.dat (.val (.int .i64 (0)))), (.dat (.val (.int .i64 (0))))] 0 [], none⟩,
    ⟨(some 6), .mov (.t 0), none⟩,
    ⟨(some 7), .app 2 16 (.t 5) (.t 6), none⟩,
    ⟨(some 2), .mov (.t 7), none⟩]) .ret)))⟩
/-! sweep.Own -/
theorem rowsO_all : ∀ (l : List Obj) (p Q k : Nat), k + l.length ≤ p → rowsO p Q k l = dRows (l.map Obj.enc)
  | [], _, _, _, _ => rfl
  | o :: r, p, Q, k, h => by
    have ih := rowsO_all r p Q (k + 1) (by simp at h; omega)
    have hk : ¬ k = p := by simp at h; omega
    simp only [rowsO, ih, rowO, if_neg hk]
    rfl
theorem qbO_none (l : List Obj) : qbO l l.length l.length = .dead := by
  have : Nat.blt l.length l.length = false := by
    cases h : Nat.blt l.length l.length
    · rfl
    · rw [Nat.blt_eq] at h; omega
  unfold qbO
  rw [this]
theorem l41 : lowF Try.prog Try.f41 = some c41 := by kernel_rfl
theorem l42 : lowF Try.prog Try.f42 = some c42 := by kernel_rfl
theorem l30 : lowF Try.prog Try.f30 = some c30 := by kernel_rfl
set_option maxRecDepth 100000 in
theorem oclone_body (ops : List Opn) (ho : ops.length ≤ 4194304) : body Try.prog c41 [.rv (.one (.dat (opnD ops)))] [] (fun r m => ∃ r' m', View 0 ⟨[r], m⟩ ⟨[r'], m'⟩ ∧ r' = .rv (.one (.row 0 2 0 none)) ∧ m' = [.row 2 (dRows (ops.map Opn.enc))]) := by
  have big : ((([] : List (List CC)).length + ((ops.map Opn.enc).map fun ds => ds.map CC.dat).length) * 16) ≤ 140737488355328 := by simp; omega
  have fin : ∃ r' m', View 0 ⟨[CV.rv (.one (.row 1 2 0 none))], [.dead, .row 2 (subL ([] : List (List CC)) 0 none ++ (ops.map Opn.enc).map fun ds => ds.map CC.dat)]⟩ ⟨[r'], m'⟩ ∧ r' = CV.rv (.one (.row 0 2 0 none)) ∧ m' = [Bk.row 2 (dRows (ops.map Opn.enc))] :=
    ⟨_, _, View.of 2 [1] [] rfl rfl rfl rfl rfl rfl (.eq rfl .nil) (.put (notF rfl) rfl (.rowDE rfl) (.nil _)), rfl, rfl⟩
  refine bB_split (fun h => ?_) (fun h => ?_)
  · have hd : ops = [] := List.eq_nil_of_length_eq_zero (by simpa using Nat.eq_of_beq_eq_true h)
    refine ⟨?_, big, fin⟩
    subst hd
    exact ⟨_, _, View.esl 0 2 0 rfl rfl rfl, rfl, rfl⟩
  · exact ⟨big, fin⟩
set_option maxRecDepth 100000 in
theorem oclone_ok (ops : List Opn) (ho : ops.length ≤ 4194304) {m : Mem} {K : CV → Mem → Prop} (h : K (.rv (.one (.row m.length 2 0 none))) (m ++ [.row 2 (dRows (ops.map Opn.enc))])) : ACall Try.prog 41 [.rv (.one (.dat (opnD ops)))] m K := by
  refine acall_borrow [] m.length rfl rfl rfl rfl (args0 := [.rv (.one (.dat (opnD ops)))]) rfl (fun i b' hi => by simp at hi) (K0 := fun r m => r = .rv (.one (.row 0 2 0 none)) ∧ m = [.row 2 (dRows (ops.map Opn.enc))]) (acall_view (acall_body Try.func41 l41 rfl (Nat.le_of_ble_eq_true rfl) (oclone_body ops ho)) fun r m1 h => h) (fun r m1 hr => ?_)
  obtain ⟨rfl, rfl⟩ := hr
  refine ⟨Nat.zero_le _, ?_⟩
  show K (.rv (.one (.row (m.length + (0 - 0)) 2 0 none))) (app2 m [.row 2 ((dRows (ops.map Opn.enc)).map (fun cs => cs.map (CC.ren (sg [] m.length))))])
  rw [dRows_ren, app2_eq]
  exact h
set_option maxRecDepth 100000 in
theorem sclone_body (d : List Sl3) (hb : d.length ≤ 4194304) : body Try.prog c42 [sl3V d] [] (fun r m => FrzV m r (sl3V d)) := by
  have big : ((([] : List (List CC)).length + ((d.map Sl3.enc).map fun ds => ds.map CC.dat).length) * 24) ≤ 140737488355328 := by simp; omega
  refine bB_split (fun h => ?_) (fun h => ?_)
  · have hd : d = [] := List.eq_nil_of_length_eq_zero (by simpa using Nat.eq_of_beq_eq_true h)
    subst hd
    exact ⟨.rv (.one (.esl 3)), big, .rv (.one (FrzC.rowD rfl 0 none))⟩
  · exact ⟨big, .rv (.one (FrzC.rowD rfl 0 none))⟩
set_option maxRecDepth 100000 in
theorem sclone_ok (d : List Sl3) (hb : d.length ≤ 4194304) {m : Mem} {K : CV → Mem → Prop} (h : K (sl3V d) m) : ACall Try.prog 42 [sl3V d] m K :=
  acall_frame (acall_body Try.func42 l42 rfl (Nat.le_of_ble_eq_true rfl) (sclone_body d hb)) (by simp [sl3V, sl3D, CV.isD, CC.isD]) fun r m1 hf => ⟨_, hf, h⟩
structure StOw where
  k : Nat
  qs : List Prc
set_option maxRecDepth 100000 in
set_option maxHeartbeats 32000000 in
theorem sown_body (l : List Obj) (ops : List Opn) (ps : List Prc) (hf : fitL l) (ho : ops.length ≤ 4194304) (hpl : ps.length ≤ 4194304) (hps : ∀ p, p ∈ ps → p.slots.length ≤ 10) (hne : ps ≠ []) :
    body Try.prog c30 [kernV l ops ps] [] (fun r m => ∃ r' m', View 0 ⟨[r], m⟩ ⟨[r'], m'⟩ ∧ r' = .rv (.agg [.row 0 9 0 none, .row 1 2 0 none, .row 2 4 0 none]) ∧ m' = [.row 9 (dRows (l.map Obj.enc)), .row 2 (dRows (ops.map Opn.enc)), .row 4 (dRows (ps.map Prc.enc))]) := by
  refine ⟨?_, ?_⟩
  · skip
    refine own_ok l hf l.length ?_
    rw [qbO_none]
    refine ⟨⟨rfl, trivial⟩, ?_⟩
    refine ⟨?_, ?_⟩
    · refine oclone_ok ops ho ?_
      refine ⟨trivial, ⟨rfl, rfl, trivial⟩, trivial, ?_⟩
      refine loop_keep (fun (a : StOw) => a.k ≤ ps.length ∧ a.qs = ps.take a.k) [1, 2, 14, 15] (fun a => [(16, vInt .i64 (a.k : Nat)), (3, .rv (.one (.ptr 2 0)))]) (fun a => match a.qs with
          | [] => [.var [.dat (objsD l), .dat (opnD ops), .dat (prcD ps)], .var z3, .var [.row 3 9 0 none, .row 4 2 0 none, .esl], .row 9 (dRows (l.map Obj.enc)), .row 2 (dRows (ops.map Opn.enc))]
          | x :: r => [.var [.dat (objsD l), .dat (opnD ops), .dat (prcD ps)], .var z3, .var [.row 3 9 0 none, .row 4 2 0 none, .row 5 4 0 none], .row 9 (dRows (l.map Obj.enc)), .row 2 (dRows (ops.map Opn.enc)), .row 4 (dRows ((x :: r).map Prc.enc))]) (fun a => ps.length - a.k) ⟨0, []⟩ ⟨Nat.zero_le _, rfl⟩ ?_ (fun a ha => ?_)
      · refine View.of 6 [0, 1, 5, 2, 4] [] rfl rfl rfl rfl rfl rfl ?_ ?_
        · repeat (first | exact .nil | refine .junk ?_ | refine .eq rfl ?_)
        · exact (.put (notF rfl) rfl (.eq rfl (by simp)) (.put (notF rfl) rfl (.eq rfl (by simp)) (.put (notF rfl) rfl (.eq rfl (by simp)) (.put (notF rfl) rfl (.rowDE (rowsO_all l _ _ _ (by omega))) (.put (notF rfl) rfl (.rowDE rfl) (.nil _))))))
      obtain ⟨k, qs⟩ := a
      obtain ⟨hk, hq⟩ := ha
      have hk : k ≤ ps.length := hk
      have hq : qs = ps.take k := hq
      cases qs with
      | nil =>
        refine bB_dec (fun h => ?_) (fun h => ?_)
        · have hlt : k < ps.length := by
            have h : (k : Int) < ((ps.map Prc.enc).length : Int) := h
            rw [List.length_map] at h
            omega
          refine ok_some (prc_get hlt) ?_
          refine sclone_ok ps[k].slots (by have := hps _ (List.getElem_mem hlt); omega) ?_
          refine ⟨by simp [subL], ?_⟩
          refine ⟨⟨k + 1, [ps[k]]⟩, ⟨hlt, (show [ps[k]] = ps.take (k + 1) by rw [List.take_add_one, List.getElem?_eq_getElem hlt, ← hq]; rfl)⟩, (show ps.length - (k + 1) < ps.length - k by omega), View.of 8 [0, 1, 2, 3, 4, 7] [] rfl rfl rfl rfl rfl rfl ?_ ?_⟩
          · repeat (first | exact .nil | refine .junk ?_ | refine .put (.ren (next_i64 (by omega)).symm) ?_ | refine .eq rfl ?_)
          · exact (.put (notF rfl) rfl (.eq rfl (by simp)) (.put (notF rfl) rfl (.eq rfl (by simp)) (.put (notF rfl) rfl (.eq rfl (by simp)) (.put (notF rfl) rfl (.rowDE rfl) (.put (notF rfl) rfl (.rowDE rfl) (.put (notF rfl) rfl (.rowDE (by simp [subL, dRows, Prc.enc])) (.nil _)))))))
        · have hke : k = ps.length := by
            have h : ¬ (k : Int) < ((ps.map Prc.enc).length : Int) := h
            rw [List.length_map] at h
            omega
          subst hke
          rw [List.take_length] at hq
          exact absurd hq.symm hne
      | cons x r =>
        refine bB_dec (fun h => ?_) (fun h => ?_)
        · have hlt : k < ps.length := by
            have h : (k : Int) < ((ps.map Prc.enc).length : Int) := h
            rw [List.length_map] at h
            omega
          refine ok_some (prc_get hlt) ?_
          refine sclone_ok ps[k].slots (by have := hps _ (List.getElem_mem hlt); omega) ?_
          refine ⟨by have e := dRows_len ((x :: r).map Prc.enc); have e2 := congrArg List.length hq; simp only [List.length_map, List.length_cons, List.length_take] at e e2; simp only [subL, List.length_cons, List.length_nil]; omega, ?_⟩
          refine ⟨⟨k + 1, ((x :: r) ++ [ps[k]])⟩, ⟨hlt, (show ((x :: r) ++ [ps[k]]) = ps.take (k + 1) by rw [List.take_add_one, List.getElem?_eq_getElem hlt, ← hq]; rfl)⟩, (show ps.length - (k + 1) < ps.length - k by omega), View.of 9 [0, 1, 2, 3, 4, 8] [] rfl rfl rfl rfl rfl rfl ?_ ?_⟩
          · repeat (first | exact .nil | refine .junk ?_ | refine .put (.ren (next_i64 (by omega)).symm) ?_ | refine .eq rfl ?_)
          · exact (.put (notF rfl) rfl (.eq rfl (by simp)) (.put (notF rfl) rfl (.eq rfl (by simp)) (.put (notF rfl) rfl (.eq rfl (by simp)) (.put (notF rfl) rfl (.rowDE rfl) (.put (notF rfl) rfl (.rowDE rfl) (.put (notF rfl) rfl (.rowDE (by simp [subL, dRows, Prc.enc])) (.nil _)))))))
        · have hke : k = ps.length := by
            have h : ¬ (k : Int) < ((ps.map Prc.enc).length : Int) := h
            rw [List.length_map] at h
            omega
          subst hke
          rw [List.take_length] at hq
          refine ⟨.rv (.agg [.row 0 9 0 none, .row 1 2 0 none, .row 2 4 0 none]), _, View.of 6 [3, 4, 5] [] rfl rfl rfl rfl rfl rfl (.eq rfl .nil) (.put (notF rfl) rfl (.rowDE rfl) (.put (notF rfl) rfl (.rowDE rfl) (.put (notF rfl) rfl (.rowDE rfl) (.nil _)))), rfl, ?_⟩
          rw [hq]
    · refine ⟨⟨rfl, rfl, trivial⟩, ?_⟩
      refine oclone_ok ops ho ?_
      refine ⟨trivial, trivial, ?_⟩
      refine loop_keep (fun (a : StOw) => a.k ≤ ps.length ∧ a.qs = ps.take a.k) [1, 2, 14, 15] (fun a => [(16, vInt .i64 (a.k : Nat)), (3, .rv (.one (.ptr 2 0)))]) (fun a => match a.qs with
          | [] => [.var [.dat (objsD l), .dat (opnD ops), .dat (prcD ps)], .var z3, .var [.row 3 9 0 none, .row 4 2 0 none, .esl], .row 9 (dRows (l.map Obj.enc)), .row 2 (dRows (ops.map Opn.enc))]
          | x :: r => [.var [.dat (objsD l), .dat (opnD ops), .dat (prcD ps)], .var z3, .var [.row 3 9 0 none, .row 4 2 0 none, .row 5 4 0 none], .row 9 (dRows (l.map Obj.enc)), .row 2 (dRows (ops.map Opn.enc)), .row 4 (dRows ((x :: r).map Prc.enc))]) (fun a => ps.length - a.k) ⟨0, []⟩ ⟨Nat.zero_le _, rfl⟩ ?_ (fun a ha => ?_)
      · refine View.of 6 [0, 1, 4, 2, 5] [] rfl rfl rfl rfl rfl rfl ?_ ?_
        · repeat (first | exact .nil | refine .junk ?_ | refine .eq rfl ?_)
        · exact (.put (notF rfl) rfl (.eq rfl (by simp)) (.put (notF rfl) rfl (.eq rfl (by simp)) (.put (notF rfl) rfl (.eq rfl (by simp)) (.put (notF rfl) rfl (.rowDE (rowsO_all l _ _ _ (by omega))) (.put (notF rfl) rfl (.rowDE rfl) (.nil _))))))
      obtain ⟨k, qs⟩ := a
      obtain ⟨hk, hq⟩ := ha
      have hk : k ≤ ps.length := hk
      have hq : qs = ps.take k := hq
      cases qs with
      | nil =>
        refine bB_dec (fun h => ?_) (fun h => ?_)
        · have hlt : k < ps.length := by
            have h : (k : Int) < ((ps.map Prc.enc).length : Int) := h
            rw [List.length_map] at h
            omega
          refine ok_some (prc_get hlt) ?_
          refine sclone_ok ps[k].slots (by have := hps _ (List.getElem_mem hlt); omega) ?_
          refine ⟨by simp [subL], ?_⟩
          refine ⟨⟨k + 1, [ps[k]]⟩, ⟨hlt, (show [ps[k]] = ps.take (k + 1) by rw [List.take_add_one, List.getElem?_eq_getElem hlt, ← hq]; rfl)⟩, (show ps.length - (k + 1) < ps.length - k by omega), View.of 8 [0, 1, 2, 3, 4, 7] [] rfl rfl rfl rfl rfl rfl ?_ ?_⟩
          · repeat (first | exact .nil | refine .junk ?_ | refine .put (.ren (next_i64 (by omega)).symm) ?_ | refine .eq rfl ?_)
          · exact (.put (notF rfl) rfl (.eq rfl (by simp)) (.put (notF rfl) rfl (.eq rfl (by simp)) (.put (notF rfl) rfl (.eq rfl (by simp)) (.put (notF rfl) rfl (.rowDE rfl) (.put (notF rfl) rfl (.rowDE rfl) (.put (notF rfl) rfl (.rowDE (by simp [subL, dRows, Prc.enc])) (.nil _)))))))
        · have hke : k = ps.length := by
            have h : ¬ (k : Int) < ((ps.map Prc.enc).length : Int) := h
            rw [List.length_map] at h
            omega
          subst hke
          rw [List.take_length] at hq
          exact absurd hq.symm hne
      | cons x r =>
        refine bB_dec (fun h => ?_) (fun h => ?_)
        · have hlt : k < ps.length := by
            have h : (k : Int) < ((ps.map Prc.enc).length : Int) := h
            rw [List.length_map] at h
            omega
          refine ok_some (prc_get hlt) ?_
          refine sclone_ok ps[k].slots (by have := hps _ (List.getElem_mem hlt); omega) ?_
          refine ⟨by have e := dRows_len ((x :: r).map Prc.enc); have e2 := congrArg List.length hq; simp only [List.length_map, List.length_cons, List.length_take] at e e2; simp only [subL, List.length_cons, List.length_nil]; omega, ?_⟩
          refine ⟨⟨k + 1, ((x :: r) ++ [ps[k]])⟩, ⟨hlt, (show ((x :: r) ++ [ps[k]]) = ps.take (k + 1) by rw [List.take_add_one, List.getElem?_eq_getElem hlt, ← hq]; rfl)⟩, (show ps.length - (k + 1) < ps.length - k by omega), View.of 9 [0, 1, 2, 3, 4, 8] [] rfl rfl rfl rfl rfl rfl ?_ ?_⟩
          · repeat (first | exact .nil | refine .junk ?_ | refine .put (.ren (next_i64 (by omega)).symm) ?_ | refine .eq rfl ?_)
          · exact (.put (notF rfl) rfl (.eq rfl (by simp)) (.put (notF rfl) rfl (.eq rfl (by simp)) (.put (notF rfl) rfl (.eq rfl (by simp)) (.put (notF rfl) rfl (.rowDE rfl) (.put (notF rfl) rfl (.rowDE rfl) (.put (notF rfl) rfl (.rowDE (by simp [subL, dRows, Prc.enc])) (.nil _)))))))
        · have hke : k = ps.length := by
            have h : ¬ (k : Int) < ((ps.map Prc.enc).length : Int) := h
            rw [List.length_map] at h
            omega
          subst hke
          rw [List.take_length] at hq
          refine ⟨.rv (.agg [.row 0 9 0 none, .row 1 2 0 none, .row 2 4 0 none]), _, View.of 6 [3, 4, 5] [] rfl rfl rfl rfl rfl rfl (.eq rfl .nil) (.put (notF rfl) rfl (.rowDE rfl) (.put (notF rfl) rfl (.rowDE rfl) (.put (notF rfl) rfl (.rowDE rfl) (.nil _)))), rfl, ?_⟩
          rw [hq]
  · refine ⟨⟨rfl, rfl, trivial⟩, ?_⟩
    refine own_ok l hf l.length ?_
    rw [qbO_none]
    refine ⟨⟨rfl, trivial⟩, ?_⟩
    refine oclone_ok ops ho ?_
    refine ⟨trivial, trivial, ?_⟩
    refine loop_keep (fun (a : StOw) => a.k ≤ ps.length ∧ a.qs = ps.take a.k) [1, 2, 14, 15] (fun a => [(16, vInt .i64 (a.k : Nat)), (3, .rv (.one (.ptr 2 0)))]) (fun a => match a.qs with
        | [] => [.var [.dat (objsD l), .dat (opnD ops), .dat (prcD ps)], .var z3, .var [.row 3 9 0 none, .row 4 2 0 none, .esl], .row 9 (dRows (l.map Obj.enc)), .row 2 (dRows (ops.map Opn.enc))]
        | x :: r => [.var [.dat (objsD l), .dat (opnD ops), .dat (prcD ps)], .var z3, .var [.row 3 9 0 none, .row 4 2 0 none, .row 5 4 0 none], .row 9 (dRows (l.map Obj.enc)), .row 2 (dRows (ops.map Opn.enc)), .row 4 (dRows ((x :: r).map Prc.enc))]) (fun a => ps.length - a.k) ⟨0, []⟩ ⟨Nat.zero_le _, rfl⟩ ?_ (fun a ha => ?_)
    · refine View.of 6 [0, 1, 2, 3, 5] [] rfl rfl rfl rfl rfl rfl ?_ ?_
      · repeat (first | exact .nil | refine .junk ?_ | refine .eq rfl ?_)
      · exact (.put (notF rfl) rfl (.eq rfl (by simp)) (.put (notF rfl) rfl (.eq rfl (by simp)) (.put (notF rfl) rfl (.eq rfl (by simp)) (.put (notF rfl) rfl (.rowDE (rowsO_all l _ _ _ (by omega))) (.put (notF rfl) rfl (.rowDE rfl) (.nil _))))))
    obtain ⟨k, qs⟩ := a
    obtain ⟨hk, hq⟩ := ha
    have hk : k ≤ ps.length := hk
    have hq : qs = ps.take k := hq
    cases qs with
    | nil =>
      refine bB_dec (fun h => ?_) (fun h => ?_)
      · have hlt : k < ps.length := by
          have h : (k : Int) < ((ps.map Prc.enc).length : Int) := h
          rw [List.length_map] at h
          omega
        refine ok_some (prc_get hlt) ?_
        refine sclone_ok ps[k].slots (by have := hps _ (List.getElem_mem hlt); omega) ?_
        refine ⟨by simp [subL], ?_⟩
        refine ⟨⟨k + 1, [ps[k]]⟩, ⟨hlt, (show [ps[k]] = ps.take (k + 1) by rw [List.take_add_one, List.getElem?_eq_getElem hlt, ← hq]; rfl)⟩, (show ps.length - (k + 1) < ps.length - k by omega), View.of 8 [0, 1, 2, 3, 4, 7] [] rfl rfl rfl rfl rfl rfl ?_ ?_⟩
        · repeat (first | exact .nil | refine .junk ?_ | refine .put (.ren (next_i64 (by omega)).symm) ?_ | refine .eq rfl ?_)
        · exact (.put (notF rfl) rfl (.eq rfl (by simp)) (.put (notF rfl) rfl (.eq rfl (by simp)) (.put (notF rfl) rfl (.eq rfl (by simp)) (.put (notF rfl) rfl (.rowDE rfl) (.put (notF rfl) rfl (.rowDE rfl) (.put (notF rfl) rfl (.rowDE (by simp [subL, dRows, Prc.enc])) (.nil _)))))))
      · have hke : k = ps.length := by
          have h : ¬ (k : Int) < ((ps.map Prc.enc).length : Int) := h
          rw [List.length_map] at h
          omega
        subst hke
        rw [List.take_length] at hq
        exact absurd hq.symm hne
    | cons x r =>
      refine bB_dec (fun h => ?_) (fun h => ?_)
      · have hlt : k < ps.length := by
          have h : (k : Int) < ((ps.map Prc.enc).length : Int) := h
          rw [List.length_map] at h
          omega
        refine ok_some (prc_get hlt) ?_
        refine sclone_ok ps[k].slots (by have := hps _ (List.getElem_mem hlt); omega) ?_
        refine ⟨by have e := dRows_len ((x :: r).map Prc.enc); have e2 := congrArg List.length hq; simp only [List.length_map, List.length_cons, List.length_take] at e e2; simp only [subL, List.length_cons, List.length_nil]; omega, ?_⟩
        refine ⟨⟨k + 1, ((x :: r) ++ [ps[k]])⟩, ⟨hlt, (show ((x :: r) ++ [ps[k]]) = ps.take (k + 1) by rw [List.take_add_one, List.getElem?_eq_getElem hlt, ← hq]; rfl)⟩, (show ps.length - (k + 1) < ps.length - k by omega), View.of 9 [0, 1, 2, 3, 4, 8] [] rfl rfl rfl rfl rfl rfl ?_ ?_⟩
        · repeat (first | exact .nil | refine .junk ?_ | refine .put (.ren (next_i64 (by omega)).symm) ?_ | refine .eq rfl ?_)
        · exact (.put (notF rfl) rfl (.eq rfl (by simp)) (.put (notF rfl) rfl (.eq rfl (by simp)) (.put (notF rfl) rfl (.eq rfl (by simp)) (.put (notF rfl) rfl (.rowDE rfl) (.put (notF rfl) rfl (.rowDE rfl) (.put (notF rfl) rfl (.rowDE (by simp [subL, dRows, Prc.enc])) (.nil _)))))))
      · have hke : k = ps.length := by
          have h : ¬ (k : Int) < ((ps.map Prc.enc).length : Int) := h
          rw [List.length_map] at h
          omega
        subst hke
        rw [List.take_length] at hq
        refine ⟨.rv (.agg [.row 0 9 0 none, .row 1 2 0 none, .row 2 4 0 none]), _, View.of 6 [3, 4, 5] [] rfl rfl rfl rfl rfl rfl (.eq rfl .nil) (.put (notF rfl) rfl (.rowDE rfl) (.put (notF rfl) rfl (.rowDE rfl) (.put (notF rfl) rfl (.rowDE rfl) (.nil _)))), rfl, ?_⟩
        rw [hq]
set_option maxRecDepth 100000 in
theorem sown_ok (l : List Obj) (ops : List Opn) (ps : List Prc) (hf : fitL l) (ho : ops.length ≤ 4194304) (hpl : ps.length ≤ 4194304) (hps : ∀ p, p ∈ ps → p.slots.length ≤ 10) (hne : ps ≠ []) {m : Mem} {K : CV → Mem → Prop}
    (h : K (.rv (.agg [.row m.length 9 0 none, .row (m.length + 1) 2 0 none, .row (m.length + 2) 4 0 none])) (m ++ [.row 9 (dRows (l.map Obj.enc)), .row 2 (dRows (ops.map Opn.enc)), .row 4 (dRows (ps.map Prc.enc))])) : ACall Try.prog 30 [kernV l ops ps] m K := by
  refine acall_borrow [] m.length rfl rfl rfl rfl (args0 := [kernV l ops ps]) rfl (fun i b' hi => by simp at hi) (K0 := fun r m => r = .rv (.agg [.row 0 9 0 none, .row 1 2 0 none, .row 2 4 0 none]) ∧ m = [.row 9 (dRows (l.map Obj.enc)), .row 2 (dRows (ops.map Opn.enc)), .row 4 (dRows (ps.map Prc.enc))])
    (acall_view (acall_body Try.func30 l30 rfl (Nat.le_of_ble_eq_true rfl) (sown_body l ops ps hf ho hpl hps hne)) fun r m1 h => h) (fun r m1 hr => ?_)
  obtain ⟨rfl, rfl⟩ := hr
  refine ⟨Nat.zero_le _, ?_⟩
  show K (.rv (.agg [.row (m.length + (0 - 0)) 9 0 none, .row (m.length + (1 - 0)) 2 0 none, .row (m.length + (2 - 0)) 4 0 none])) (app2 m [.row 9 ((dRows (l.map Obj.enc)).map (fun cs => cs.map (CC.ren (sg [] m.length)))), .row 2 ((dRows (ops.map Opn.enc)).map (fun cs => cs.map (CC.ren (sg [] m.length)))), .row 4 ((dRows (ps.map Prc.enc)).map (fun cs => cs.map (CC.ren (sg [] m.length))))])
  rw [dRows_ren, dRows_ren, dRows_ren, app2_eq]
  exact h

end Go.Proofs.Ytnlhnmlojcfljaa
