import Derived.Test.YtjofmgkcllffnaaAmZ2
import Derived.Test.YtjofmgkcllffnaaDvGd
import Derived.Test.YtjofmgkcllffnaaAmY
set_option linter.unusedVariables false
set_option linter.unusedSimpArgs false
namespace Go.Proofs.Ytjofmgkcllffnaa
open Go.AM Go.ChangeShapes Go.WideShapes Go.ChangeAt Go.RowKit
def c23 : LF := ⟨120, [.cell true 3 2], (.seq (.reg [
    ⟨(some 1), .box (.t 0), none⟩,
    ⟨(some 2), .alloc [.esl, .esl, .esl], none⟩]) (.seq (.reg [
    ⟨(some 6), .load true 3 (.t 1), none⟩,
    ⟨(some 7), .call (.c (.rv (.one (.fn 22 [])))) [(.t 6)], none⟩,
    ⟨(some 3), .alloc [.esl, .esl, .esl], none⟩,
    ⟨none, .store 3 (.t 3) (.t 7), none⟩]) (.seq (.block 0 (.loop (.seq (.seq (.reg [
    ⟨(some 8), .call (.c (.rv (.one (.fn 45 [])))) [(.t 3)], none⟩]) (.cond (.t 8) .skip (.exit 0))) (.block 1 .skip)))) (.seq (.block 2 (.loop (.seq (.seq (.reg [
    ⟨(some 9), .fadr 0 (.t 3), none⟩,
    ⟨(some 10), .load false 1 (.t 9), none⟩,
    ⟨(some 11), .len 1 (.t 10), none⟩,
    ⟨(some 12), .bin .gtr (.t 11) (.c (.rv (.one (.dat (.val (.int .i64 (1))))))), none⟩,
    ⟨(some 13), .mov (.t 12), none⟩,
    ⟨(some 14), .fadr 0 (.t 3), (some (13, true))⟩,
    ⟨(some 15), .load false 1 (.t 14), (some (13, true))⟩,
    ⟨(some 16), .fadr 0 (.t 3), (some (13, true))⟩,
    ⟨(some 17), .load false 1 (.t 16), (some (13, true))⟩,
    ⟨(some 18), .len 1 (.t 17), (some (13, true))⟩,
    ⟨(some 19), .bin .sub (.t 18) (.c (.rv (.one (.dat (.val (.int .i64 (1))))))), (some (13, true))⟩,
    ⟨(some 20), .idx 9 (.t 15) (.t 19), (some (13, true))⟩,
    ⟨(some 21), .fadr 0 (.t 20), (some (13, true))⟩,
    ⟨(some 22), .load false 1 (.t 21), (some (13, true))⟩,
    ⟨(some 23), .bin .eql (.t 22) (.c (.rv (.one (.dat (.val (.int .i64 (0))))))), (some (13, true))⟩,
    ⟨(some 24), .pick (.t 13) (.t 23) (.c (.rv (.one (.dat (.val (.bool false)))))), none⟩]) (.cond (.t 24) .skip (.exit 2))) (.block 3 (.reg [
    ⟨(some 25), .fadr 0 (.t 3), none⟩,
    ⟨(some 26), .load false 1 (.t 25), none⟩,
    ⟨(some 27), .fadr 0 (.t 3), none⟩,
    ⟨(some 28), .load false 1 (.t 27), none⟩,
    ⟨(some 29), .len 1 (.t 28), none⟩,
    ⟨(some 30), .bin .sub (.t 29) (.c (.rv (.one (.dat (.val (.int .i64 (1))))))), none⟩,
    ⟨(some 31), .slc 9 (.t 26) none (some (.t 30)) none, none⟩,
    ⟨(some 32), .fadr 0 (.t 3), none⟩,
    ⟨none, .store 1 (.t 32) (.t 31), none⟩]))))) (.ghost (.seq (.block 4 (.loop (.seq (.seq (.reg [
    ⟨(some 33), .fadr 1 (.t 3), none⟩,
    ⟨(some 34), .load false 1 (.t 33), none⟩,
    ⟨(some 35), .len 1 (.t 34), none⟩,
    ⟨(some 36), .bin .gtr (.t 35) (.c (.rv (.one (.dat (.val (.int .i64 (0))))))), none⟩,
    ⟨(some 37), .mov (.t 36), none⟩,
    ⟨(some 38), .fadr 1 (.t 3), (some (37, true))⟩,
    ⟨(some 39), .load false 1 (.t 38), (some (37, true))⟩,
    ⟨(some 40), .fadr 1 (.t 3), (some (37, true))⟩,
    ⟨(some 41), .load false 1 (.t 40), (some (37, true))⟩,
    ⟨(some 42), .len 1 (.t 41), (some (37, true))⟩,
    ⟨(some 43), .bin .sub (.t 42) (.c (.rv (.one (.dat (.val (.int .i64 (1))))))), (some (37, true))⟩,
    ⟨(some 44), .idx 2 (.t 39) (.t 43), (some (37, true))⟩,
    ⟨(some 45), .fadr 0 (.t 44), (some (37, true))⟩,
    ⟨(some 46), .load false 1 (.t 45), (some (37, true))⟩,
    ⟨(some 47), .bin .lss (.t 46) (.c (.rv (.one (.dat (.val (.int .i64 (0))))))), (some (37, true))⟩,
    ⟨(some 48), .pick (.t 37) (.t 47) (.c (.rv (.one (.dat (.val (.bool false)))))), none⟩]) (.cond (.t 48) .skip (.exit 4))) (.block 5 (.reg [
    ⟨(some 49), .fadr 1 (.t 3), none⟩,
    ⟨(some 50), .load false 1 (.t 49), none⟩,
    ⟨(some 51), .fadr 1 (.t 3), none⟩,
    ⟨(some 52), .load false 1 (.t 51), none⟩,
    ⟨(some 53), .len 1 (.t 52), none⟩,
    ⟨(some 54), .bin .sub (.t 53) (.c (.rv (.one (.dat (.val (.int .i64 (1))))))), none⟩,
    ⟨(some 55), .slc 2 (.t 50) none (some (.t 54)) none, none⟩,
    ⟨(some 56), .fadr 1 (.t 3), none⟩,
    ⟨none, .store 1 (.t 56) (.t 55), none⟩]))))) (.seq (.ghost (.seq (.reg [
    ⟨(some 57), .fadr 2 (.t 3), none⟩,
    ⟨(some 58), .load false 1 (.t 57), none⟩,
    ⟨(some 59), .len 1 (.t 58), none⟩,
    ⟨(some 60), .mov (.c (.rv (.one (.dat (.val (.int .i64 (0))))))), none⟩]) (.block 6 (.loop (.seq (.reg [
    ⟨(some 61), .bin .lss (.t 60) (.t 59), none⟩]) (.seq (.cond (.t 61) .skip (.exit 6)) (.seq (.block 7 (.seq (.reg [
    ⟨(some 62), .mov (.t 60), none⟩,
    ⟨(some 4), .alloc [(.dat (.val (.int .i64 (0))))], none⟩,
    ⟨none, .store 1 (.t 4) (.t 62), none⟩]) (.seq (.reg [
    ⟨(some 63), .fadr 0 (.t 3), none⟩,
    ⟨(some 64), .load false 1 (.t 63), none⟩,
    ⟨(some 65), .fn 47 [(.t 4)], none⟩,
    ⟨(some 66), .call (.c (.rv (.one (.fn 46 [])))) [(.t 64), (.t 65)], none⟩,
    ⟨(some 5), .mov (.t 66), none⟩]) (.seq (.reg [
    ⟨(some 67), .load false 1 (.t 4), none⟩,
    ⟨(some 68), .bin .gtr (.t 67) (.c (.rv (.one (.dat (.val (.int .i64 (0))))))), none⟩,
    ⟨(some 69), .mov (.t 68), none⟩,
    ⟨(some 70), .fadr 2 (.t 3), (some (69, true))⟩,
    ⟨(some 71), .load false 1 (.t 70), (some (69, true))⟩,
    ⟨(some 72), .load false 1 (.t 4), (some (69, true))⟩,
    ⟨(some 73), .idx 4 (.t 71) (.t 72), (some (69, true))⟩,
    ⟨(some 74), .fadr 0 (.t 73), (some (69, true))⟩,
    ⟨(some 75), .load false 1 (.t 74), (some (69, true))⟩,
    ⟨(some 76), .un .not (.t 75), (some (69, true))⟩,
    ⟨(some 77), .pick (.t 69) (.t 76) (.c (.rv (.one (.dat (.val (.bool false)))))), none⟩,
    ⟨(some 78), .mov (.t 77), none⟩,
    ⟨(some 79), .mov (.t 5), (some (78, true))⟩,
    ⟨(some 80), .un .not (.t 79), (some (78, true))⟩,
    ⟨(some 81), .pick (.t 78) (.t 80) (.c (.rv (.one (.dat (.val (.bool false)))))), none⟩]) (.cond (.t 81) (.reg [
    ⟨(some 82), .fadr 2 (.t 3), none⟩,
    ⟨(some 83), .load false 1 (.t 82), none⟩,
    ⟨(some 84), .load false 1 (.t 4), none⟩,
    ⟨(some 85), .build [(.dat (.val (.bool false))), (.dat (.val (.bool false))), (.dat (.val (.int .i64 (0)))), .esl] [], none⟩,
    ⟨(some 86), .idx 4 (.t 83) (.t 84), none⟩,
    ⟨none, .store 4 (.t 86) (.t 85), none⟩]) .skip))))) (.reg [
    ⟨(some 87), .bin .add (.t 60) (.c (.rv (.one (.dat (.val (.int .i64 (1))))))), none⟩,
    ⟨(some 60), .mov (.t 87), none⟩])))))))) (.ghost (.seq (.block 8 (.loop (.seq (.seq (.reg [
    ⟨(some 88), .fadr 2 (.t 3), none⟩,
    ⟨(some 89), .load false 1 (.t 88), none⟩,
    ⟨(some 90), .len 1 (.t 89), none⟩,
    ⟨(some 91), .bin .gtr (.t 90) (.c (.rv (.one (.dat (.val (.int .i64 (1))))))), none⟩,
    ⟨(some 92), .mov (.t 91), none⟩,
    ⟨(some 93), .fadr 2 (.t 3), (some (92, true))⟩,
    ⟨(some 94), .load false 1 (.t 93), (some (92, true))⟩,
    ⟨(some 95), .fadr 2 (.t 3), (some (92, true))⟩,
    ⟨(some 96), .load false 1 (.t 95), (some (92, true))⟩,
    ⟨(some 97), .len 1 (.t 96), (some (92, true))⟩,
    ⟨(some 98), .bin .sub (.t 97) (.c (.rv (.one (.dat (.val (.int .i64 (1))))))), (some (92, true))⟩,
    ⟨(some 99), .idx 4 (.t 94) (.t 98), (some (92, true))⟩,
    ⟨(some 100), .fadr 0 (.t 99), (some (92, true))⟩,
    ⟨(some 101), .load false 1 (.t 100), (some (92, true))⟩,
    ⟨(some 102), .un .not (.t 101), (some (92, true))⟩,
    ⟨(some 103), .pick (.t 92) (.t 102) (.c (.rv (.one (.dat (.val (.bool false)))))), none⟩,
    ⟨(some 104), .mov (.t 103), none⟩,
    ⟨(some 105), .fadr 0 (.t 3), (some (104, true))⟩,
    ⟨(some 106), .load false 1 (.t 105), (some (104, true))⟩,
    ⟨(some 107), .fn 48 [(.t 3)], (some (104, true))⟩,
    ⟨(some 108), .call (.c (.rv (.one (.fn 46 [])))) [(.t 106), (.t 107)], (some (104, true))⟩,
    ⟨(some 109), .un .not (.t 108), (some (104, true))⟩,
    ⟨(some 110), .pick (.t 104) (.t 109) (.c (.rv (.one (.dat (.val (.bool false)))))), none⟩]) (.cond (.t 110) .skip (.exit 8))) (.block 9 (.reg [
    ⟨(some 111), .fadr 2 (.t 3), none⟩,
    ⟨(some 112), .load false 1 (.t 111), none⟩,
    ⟨(some 113), .fadr 2 (.t 3), none⟩,
    ⟨(some 114), .load false 1 (.t 113), none⟩,
    ⟨(some 115), .len 1 (.t 114), none⟩,
    ⟨(some 116), .bin .sub (.t 115) (.c (.rv (.one (.dat (.val (.int .i64 (1))))))), none⟩,
    ⟨(some 117), .slc 4 (.t 112) none (some (.t 116)) none, none⟩,
    ⟨(some 118), .fadr 2 (.t 3), none⟩,
    ⟨none, .store 1 (.t 118) (.t 117), none⟩]))))) (.seq (.reg [
    ⟨(some 119), .load true 3 (.t 3), none⟩,
    ⟨none, .store 3 (.t 2) (.t 119), none⟩]) .ret))))))))))⟩
/-! sweep.Sweep: the walk -/
theorem l23 : lowF Try.prog Try.f23 = some c23.er := by kernel_rfl
set_option maxRecDepth 100000 in
theorem clo103_body (o : Obj) (a c : Dt) (ps : List Prc) : body Try.prog c48 [o.cv, .rv (.one (.ptr 0 0))] [.var ([a, c, prcD ps].map .dat)] (fun r m => r = vBool (heldB (IntKind.i64.wrap (((ps.map Prc.enc).length : Int) - 1)) o) ∧ ∃ ex, m = .var ([a, c, prcD ps].map .dat) :: ex) := by
  refine bB_split (fun h => ?_) (fun h => ?_)
  · refine ⟨?_, _, rfl⟩
    show vBool _ = vBool _
    rw [heldB, h]; rfl
  · refine ⟨?_, _, rfl⟩
    show vBool _ = vBool _
    rw [heldB, h]; rfl
set_option maxRecDepth 100000 in
theorem clo103 (o : Obj) (a c : Dt) (ps : List Prc) (K : CV → Mem → Prop) (h : K (vBool (heldB (IntKind.i64.wrap (((ps.map Prc.enc).length : Int) - 1)) o)) [.var ([a, c, prcD ps].map .dat)]) : ACall Try.prog 48 [o.cv, .rv (.one (.ptr 0 0))] [.var ([a, c, prcD ps].map .dat)] K :=
  acall_trim rfl (acall_body Try.func48 l48 rfl (Nat.le_of_ble_eq_true rfl) (clo103_body o a c ps)) h
/-- cut at its end, as long as what is last is of no use -/
structure Tru {α : Type} (q : Nat → α → Bool) (mn : Nat) (L : List α) (n : Nat) : Prop where
  le : n ≤ L.length
  mn : min mn L.length ≤ n
  dr : ∀ (t : Nat) o, n ≤ t → L[t]? = some o → q t o = true
structure TruE {α : Type} (q : Nat → α → Bool) (mn : Nat) (L : List α) (n : Nat) : Prop where
  t : Tru q mn L n
  e : n ≤ mn ∨ ∃ o, L[n - 1]? = some o ∧ q (n - 1) o = false
theorem Tru.start {α : Type} (q : Nat → α → Bool) (mn : Nat) (L : List α) : Tru q mn L L.length :=
  ⟨Nat.le_refl _, Nat.min_le_right _ _, fun t o h ho => by have := (List.getElem?_eq_some_iff.1 ho).1; omega⟩
theorem Tru.step {α : Type} {q : Nat → α → Bool} {mn : Nat} {L : List α} {n : Nat} (h : Tru q mn L n) (hn : mn < n) (hl : n - 1 < L.length) (hq : q (n - 1) L[n - 1] = true) : Tru q mn L (n - 1) :=
  ⟨by omega, by omega, fun t o ht ho => by
    rcases Nat.lt_or_ge t n with h1 | h1
    · have : t = n - 1 := by omega
      subst this
      rw [List.getElem?_eq_getElem hl] at ho
      cases ho
      exact hq
    · exact h.dr t o h1 ho⟩
theorem take_len {α : Type} {L : List α} {n : Nat} (h : n ≤ L.length) : (L.take n).length = n := by rw [List.length_take]; omega
theorem take_map {α : Type} (f : α → List Dt) (L : List α) {n : Nat} (h : n ≤ L.length) : (((L.take n).map f).take (n - 1)).drop 0 = (L.take (n - 1)).map f := by
  rw [List.drop_zero, ← List.map_take, List.take_take, Nat.min_eq_left (by omega)]
theorem last_get {α : Type} (f : α → List Dt) (L : List α) {n : Nat} (h1 : 0 < n) (h : n ≤ L.length) : getZ ((L.take n).map f) ((n - 1 : Nat) : Int) = some (f (L[n - 1]'(by omega))) := by
  rw [getZ_nat, List.getElem?_map, List.getElem?_take_of_lt (by omega), List.getElem?_eq_getElem (by omega)]; rfl
def qO (_ : Nat) (o : Obj) : Bool := o.kind == 0
def qP (_ : Nat) (o : Opn) : Bool := decide (o.obj < 0)
def qZ (O : List Obj) (t : Nat) (o : Prc) : Bool := decide (0 < t) && (!o.live && !(O.any (heldB (t : Int))))
def prZ (O : List Obj) (k : Nat) (t : Nat) (o : Prc) : Prc := if (decide (t < k) && qZ O t o) = true then zeroP else o
def qR (O : List Obj) (t : Nat) (o : Prc) : Bool := !o.live && !(O.any (heldB (t : Int)))
/-- what Sweep answers, of what once has left -/
structure SwFin (c : Kr) (d : Kr) : Prop where
  ex : ∃ (n1 n2 n3 : Nat) (P : List Prc), TruE qO 1 c.l n1 ∧ TruE qP 0 c.ops n2 ∧ Pt c.ps P (prZ (c.l.take n1) c.ps.length) ∧ TruE (qR (c.l.take n1)) 1 P n3 ∧ d = ⟨c.l.take n1, c.ops.take n2, P.take n3⟩
def KS (k : Kr) (r : CV) (m : Mem) : Prop := ∃ a c d, SwTo k a ∧ OnceOK a.l a.ops a.ps c.l c.ops c.ps false ∧ SwFin c d ∧ FrzV m r (kernV d.l d.ops d.ps)
def EKs (k : Kr) : Ex → St → Prop := endK Try.prog c23.res (KS k)
def T4 : LC := unG (sndS (sndS (sndS (sndS c23.code))))
def T57 : LC := unG (fstS (sndS T4))
def R8 : LC := sndS (sndS T4)
def E60 : List CV := mkE 120 [(2, .rv (.one (.ptr 1 0))), (3, .rv (.one (.ptr 2 0)))]

theorem frzK (m : Mem) (d : Kr) : FrzV m (.rv (.agg [.dat (objsD d.l), .dat (opnD d.ops), .dat (prcD d.ps)])) (kernV d.l d.ops d.ps) := FrzV.self rfl
set_option maxRecDepth 100000 in
set_option maxHeartbeats 32000000 in
theorem seg8 (k a c : Kr) (ha : SwTo k a) (hc : OnceOK a.l a.ops a.ps c.l c.ops c.ps false) (hk : KrOK c.l c.ops c.ps) (n1 n2 : Nat) (h1 : TruE qO 1 c.l n1) (h2 : TruE qP 0 c.ops n2) (P : List Prc) (O : List Obj) (hO : O = c.l.take n1)
    (hP : Pt c.ps P (prZ (c.l.take n1) c.ps.length)) : aw Try.prog 0 (unG R8) (EKs k) ⟨E60, [.dead, .var z3, .var [.dat (objsD O), .dat (opnD (c.ops.take n2)), .dat (prcD P)]]⟩ := by
  have hPl : P.length ≤ 4194304 := by rw [hP.1]; exact hk.lp
  have hOl : O.length ≤ 4194304 := by rw [hO, List.length_take]; have := hk.ll; omega
  have end8 : ∀ (n : Nat) (m : Mem), Tru (qR O) 1 P n → (n ≤ 1 ∨ ∃ o, P[n - 1]? = some o ∧ qR O (n - 1) o = false) → KS k (.rv (.agg [.dat (objsD O), .dat (opnD (c.ops.take n2)), .dat (prcD (P.take n))])) m := fun n m hn he =>
    ⟨a, c, ⟨O, c.ops.take n2, P.take n⟩, ha, hc, ⟨n1, n2, n, P, h1, h2, hP, by rw [← hO]; exact ⟨hn, he⟩, by rw [hO]⟩, frzK m ⟨O, c.ops.take n2, P.take n⟩⟩
  refine loop_keep (fun n => Tru (qR O) 1 P n) [2, 3] (fun _ => []) (fun n => [.dead, .var z3, .var [.dat (objsD O), .dat (opnD (c.ops.take n2)), .dat (prcD (P.take n))]]) (fun n => n) P.length (.start _ _ _) ?_ (fun n hn => ?_)
  · refine View.of 3 [0, 1, 2] [] rfl rfl rfl rfl rfl rfl ?_ ?_
    · repeat (first | exact .nil | refine .junk ?_ | refine .eq rfl ?_)
    · exact (.dead (.put (notF rfl) rfl (.eq rfl (by simp)) (.put (notF rfl) rfl (CcsVp.var (.cons (.ren (.dat _)) (.cons (.ren (.dat _)) (.cons (vwEq (by rw [List.take_length])) .nil)))) (.nil _))))
  have hn : Tru (qR O) 1 P n := hn
  have hnl := hn.le
  refine bB_dec (fun h => ?_) (fun h => ?_)
  · have hn1 : 1 < n := by
      have h : (((P.take n).map Prc.enc).length : Int) > 1 := h
      rw [List.length_map, take_len hnl] at h
      omega
    have hz : IntKind.i64.wrap ((((P.take n).map Prc.enc).length : Int) - 1) = ((n - 1 : Nat) : Int) := by
      rw [List.length_map, take_len hnl, wrapI (by omega) (by omega)]; omega
    have hlt : n - 1 < P.length := by omega
    have hg := last_get Prc.enc P (by omega) hnl
    rw [← hz] at hg
    have hlast := List.getElem?_eq_getElem hlt
    have hstep := hn.step (by omega) hlt
    generalize P[n - 1] = x at hg hlast hstep
    have hg : getZ ((P.take n).map Prc.enc) (IntKind.i64.wrap ((((P.take n).map Prc.enc).length : Int) - 1)) = some [.val (.bool x.live), .val (.bool x.fenced), .val (.int .i64 x.code), sl3D x.slots] := hg
    refine ok_some hg ?_
    refine bB_split (fun hlv => ?_) (fun hlv => ?_)
    · refine acall_look (args0 := [objsV O, .rv (.one (.fn 48 [0]))]) (cs := [objsD O, opnD (c.ops.take n2), prcD (P.take n)]) 2 rfl rfl (r0 := vBool (O.any (heldB (IntKind.i64.wrap ((((P.take n).map Prc.enc).length : Int) - 1))))) rfl (fun K hK => contDc_ok O hOl 48 _ _ (fun s K hK => clo103 s _ _ _ K hK) K hK) ?_
      rw [hz]
      refine bB_split (fun han => ?_) (fun han => ?_)
      · have hq : qR O (n - 1) x = true := by unfold qR; rw [hlv, han]; rfl
        refine ok_some (x := n - 1) (by show natX (vInt .i64 (IntKind.i64.wrap ((((P.take n).map Prc.enc).length : Int) - 1))) = _; rw [hz]; rfl) ?_
        refine bB_yes (by simp [Nat.ble_eq]; omega) ?_
        refine ⟨n - 1, hstep hq, (show n - 1 < n by omega), View.of 3 [0, 1, 2] [] rfl rfl rfl rfl rfl rfl ?_ ?_⟩
        · repeat (first | exact .nil | refine .junk ?_ | refine .eq rfl ?_)
        · exact (.dead (.put (notF rfl) rfl (.eq rfl (by simp)) (.put (notF rfl) rfl (CcsVp.var (.cons (.ren (.dat _)) (.cons (.ren (.dat _)) (.cons (vwEq (congrArg (Dt.sl 4) (take_map Prc.enc P hnl))) .nil)))) (.nil _))))
      · have hq : qR O (n - 1) x = false := by unfold qR; rw [hlv, han]; rfl
        exact end8 n _ hn (.inr ⟨x, hlast, hq⟩)
    · have hq : qR O (n - 1) x = false := by unfold qR; rw [hlv]; rfl
      exact end8 n _ hn (.inr ⟨x, hlast, hq⟩)
  · have hn1 : n ≤ 1 := by
      have h : ¬ (((P.take n).map Prc.enc).length : Int) > 1 := h
      rw [List.length_map, take_len hnl] at h
      omega
    exact end8 n _ hn (.inl hn1)

/-! sweep.Sweep: the other loops -/
structure StZ where
  p : Nat
  P : List Prc
theorem KrOK.olen {l : List Obj} {ops : List Opn} {ps : List Prc} (h : KrOK l ops ps) (n : Nat) : (l.take n).length ≤ 4194304 := by rw [List.length_take]; have := h.ll; omega
set_option maxRecDepth 100000 in
set_option maxHeartbeats 32000000 in
theorem seg57 (k a c : Kr) (ha : SwTo k a) (hc : OnceOK a.l a.ops a.ps c.l c.ops c.ps false) (hk : KrOK c.l c.ops c.ps) (n1 n2 : Nat) (h1 : TruE qO 1 c.l n1) (h2 : TruE qP 0 c.ops n2) :
    aw Try.prog 0 T57 (seqK (aw Try.prog 0 R8) (EKs k)) ⟨E60, [.dead, .var z3, .var [.dat (objsD (c.l.take n1)), .dat (opnD (c.ops.take n2)), .row 3 4 0 none], .row 4 (dRows (c.ps.map Prc.enc))]⟩ := by
  have hpl := hk.lp
  have hOl := hk.olen n1
  generalize hO : c.l.take n1 = O at hOl
  refine loop_keep (fun (s : StZ) => s.p ≤ c.ps.length ∧ Pt c.ps s.P (prZ O s.p)) [2, 3, 59] (fun s => [(60, vInt .i64 (s.p : Nat))]) (fun s => [.dead, .var z3, .var [.dat (objsD O), .dat (opnD (c.ops.take n2)), .row 3 4 0 none], .row 4 (dRows (s.P.map Prc.enc))]) (fun s => c.ps.length - s.p) ⟨0, c.ps⟩ ⟨Nat.zero_le _, (Pt.refl c.ps).congr fun t o _ => by simp [prZ]⟩ ?_ (fun s hs => ?_)
  · refine View.of 4 [0, 1, 2, 3] [] rfl rfl rfl rfl rfl rfl ?_ ?_
    · repeat (first | exact .nil | refine .junk ?_ | refine .eq rfl ?_)
    · exact (.dead (.put (notF rfl) rfl (.eq rfl (by simp)) (.put (notF rfl) rfl (CcsVp.var (.cons (.ren (.dat _)) (.cons (.ren (.dat _)) (.cons (.ren (.row 3 4 0 none)) .nil)))) (.put (notF rfl) rfl (.rowDE rfl) (.nil _)))))
  obtain ⟨p, P⟩ := s
  obtain ⟨hp, hP⟩ := hs
  have hp : p ≤ c.ps.length := hp
  have hP : Pt c.ps P (prZ O p) := hP
  have hPl := hP.1
  refine bB_dec (fun h => ?_) (fun h => ?_)
  · have hplt : p < c.ps.length := len_lt h
    obtain ⟨hpP, hPp⟩ := hP.at hplt
    have hPp : P[p] = c.ps[p] := by rw [hPp]; simp [prZ]
    have hno : ∀ t, t ≠ p → decide (t < p + 1) = decide (t < p) := fun t ht => decide_eq_decide.2 (by omega)
    have hskip : qZ O p c.ps[p] = false → Pt c.ps P (prZ O (p + 1)) := fun hf => hP.congr fun t o hto => by
      by_cases htp : t = p
      · subst htp
        rw [List.getElem?_eq_getElem hplt] at hto
        cases hto
        simp [prZ, hf]
      · unfold prZ; rw [hno t htp]
    refine acall_look (args0 := [objsV O, .rv (.one (.fn 47 [0]))]) (cs := [.val (.int .i64 (p : Nat))]) 4 rfl rfl (r0 := vBool (O.any (heldB (p : Int)))) rfl (fun K hK => contDc_ok O hOl 47 _ _ (fun s K hK => clo102 s _ K hK) K hK) ?_
    refine bB_dec (fun hp0 => ?_) (fun hp0 => ?_)
    · have hp0 : 0 < p := by
        have h : (p : Int) > 0 := hp0
        omega
      refine ok_some (pr_idx hpP) ?_
      refine ok_some (dRows_nth' Prc.enc P hpP) ?_
      refine bB_split (fun hlv => ?_) (fun hlv => ?_)
      · rw [hPp] at hlv
        refine bB_split (fun han => ?_) (fun han => ?_)
        · refine ok_some (pr_idx hpP) ?_
          refine ok_some (dRows_nth' Prc.enc P hpP) ?_
          have he : qZ O p c.ps[p] = true := by
            unfold qZ
            rw [hlv, han]
            simp [hp0]
          have hs := hP.set (j := p) (x := zeroP) (g := prZ O (p + 1)) (fun o hto => by
            rw [List.getElem?_eq_getElem hplt] at hto
            cases hto
            simp [prZ, he]) (fun t o htp _ => by unfold prZ; rw [hno t htp])
          refine ⟨⟨p + 1, P.set p zeroP⟩, ⟨hplt, hs⟩, (show c.ps.length - (p + 1) < c.ps.length - p by omega), View.of 5 [0, 1, 2, 3] [] rfl rfl rfl rfl rfl rfl ?_ ?_⟩
          · repeat (first | exact .nil | refine .junk ?_ | refine .put (.ren (next_i64 (by omega)).symm) ?_ | refine .eq rfl ?_)
          · exact (.dead (.put (notF rfl) rfl (.eq rfl (by simp)) (.put (notF rfl) rfl (CcsVp.var (.cons (.ren (.dat _)) (.cons (.ren (.dat _)) (.cons (.ren (.row 3 4 0 none)) .nil)))) (.put (notF rfl) rfl (rowZP P p) (.nil _)))))
        · skip
          refine ⟨⟨p + 1, P⟩, ⟨hplt, hskip (by unfold qZ; rw [han]; simp)⟩, (show c.ps.length - (p + 1) < c.ps.length - p by omega), View.of 5 [0, 1, 2, 3] [] rfl rfl rfl rfl rfl rfl ?_ ?_⟩
          · repeat (first | exact .nil | refine .junk ?_ | refine .put (.ren (next_i64 (by omega)).symm) ?_ | refine .eq rfl ?_)
          · exact (.dead (.put (notF rfl) rfl (.eq rfl (by simp)) (.put (notF rfl) rfl (CcsVp.var (.cons (.ren (.dat _)) (.cons (.ren (.dat _)) (.cons (.ren (.row 3 4 0 none)) .nil)))) (.put (notF rfl) rfl (.rowDE rfl) (.nil _)))))
      · rw [hPp] at hlv
        refine ⟨⟨p + 1, P⟩, ⟨hplt, hskip (by unfold qZ; rw [hlv]; simp)⟩, (show c.ps.length - (p + 1) < c.ps.length - p by omega), View.of 5 [0, 1, 2, 3] [] rfl rfl rfl rfl rfl rfl ?_ ?_⟩
        · repeat (first | exact .nil | refine .junk ?_ | refine .put (.ren (next_i64 (by omega)).symm) ?_ | refine .eq rfl ?_)
        · exact (.dead (.put (notF rfl) rfl (.eq rfl (by simp)) (.put (notF rfl) rfl (CcsVp.var (.cons (.ren (.dat _)) (.cons (.ren (.dat _)) (.cons (.ren (.row 3 4 0 none)) .nil)))) (.put (notF rfl) rfl (.rowDE rfl) (.nil _)))))
    · have hp0 : p = 0 := by
        have h : ¬ (p : Int) > 0 := hp0
        omega
      refine ⟨⟨p + 1, P⟩, ⟨hplt, hskip (by simp [qZ, hp0])⟩, (show c.ps.length - (p + 1) < c.ps.length - p by omega), View.of 5 [0, 1, 2, 3] [] rfl rfl rfl rfl rfl rfl ?_ ?_⟩
      · repeat (first | exact .nil | refine .junk ?_ | refine .put (.ren (next_i64 (by omega)).symm) ?_ | refine .eq rfl ?_)
      · exact (.dead (.put (notF rfl) rfl (.eq rfl (by simp)) (.put (notF rfl) rfl (CcsVp.var (.cons (.ren (.dat _)) (.cons (.ren (.dat _)) (.cons (.ren (.row 3 4 0 none)) .nil)))) (.put (notF rfl) rfl (.rowDE rfl) (.nil _)))))
  · have h9 : c.ps.length ≤ p := len_ge h
    have hpe : p = c.ps.length := by omega
    subst hpe
    rw [← hO] at hP
    refine ghost_keep [2, 3] [] ([.dead, .var z3, .var [.dat (objsD O), .dat (opnD (c.ops.take n2)), .dat (prcD P)]]) (View.of 4 [0, 1, 2] [3] rfl rfl rfl rfl rfl rfl ?_ ?_) ?_
    · repeat (first | exact .nil | refine .junk ?_ | refine .eq rfl ?_)
    · exact (.dead (.put (notF rfl) rfl (.eq rfl (by simp)) (.put (notF rfl) rfl (CcsVp.var (.cons (.ren (.dat _)) (.cons (.ren (.dat _)) (.cons (.frz (FrzD.rowD (Z := fun k => memN [3] k = true) rfl rfl 0 none)) .nil)))) (.nil _))))
    exact seg8 k a c ha hc hk n1 n2 h1 h2 P O hO.symm hP


/-! sweep.Sweep -/
set_option maxRecDepth 100000 in
set_option maxHeartbeats 32000000 in
theorem segB4 (k a c : Kr) (ha : SwTo k a) (hc : OnceOK a.l a.ops a.ps c.l c.ops c.ps false) (hk : KrOK c.l c.ops c.ps) (n1 : Nat) (h1 : TruE qO 1 c.l n1) :
    aw Try.prog 0 T4 (EKs k) ⟨E60, [.dead, .var z3, .var [.dat (objsD (c.l.take n1)), .dat (opnD c.ops), .row 3 4 0 none], .row 4 (dRows (c.ps.map Prc.enc))]⟩ := by
  have hlo := hk.lo
  refine loop_keep (fun n => Tru qP 0 c.ops n) [2, 3] (fun _ => []) (fun n => [.dead, .var z3, .var [.dat (objsD (c.l.take n1)), .dat (opnD (c.ops.take n)), .row 3 4 0 none], .row 4 (dRows (c.ps.map Prc.enc))]) (fun n => n) c.ops.length (.start _ _ _) ?_ (fun n hn => ?_)
  · refine View.of 4 [0, 1, 2, 3] [] rfl rfl rfl rfl rfl rfl ?_ ?_
    · repeat (first | exact .nil | refine .junk ?_ | refine .eq rfl ?_)
    · exact (.dead (.put (notF rfl) rfl (.eq rfl (by simp)) (.put (notF rfl) rfl (CcsVp.var (.cons (.ren (.dat _)) (.cons (vwEq (by rw [List.take_length])) (.cons (.ren (.row 3 4 0 none)) .nil)))) (.put (notF rfl) rfl (.rowDE rfl) (.nil _)))))
  have hn : Tru qP 0 c.ops n := hn
  have hnl := hn.le
  refine bB_dec (fun h => ?_) (fun h => ?_)
  · have hn1 : 0 < n := by
      have h : (((c.ops.take n).map Opn.enc).length : Int) > 0 := h
      rw [List.length_map, take_len hnl] at h
      omega
    have hz : IntKind.i64.wrap ((((c.ops.take n).map Opn.enc).length : Int) - 1) = ((n - 1 : Nat) : Int) := by
      rw [List.length_map, take_len hnl, wrapI (by omega) (by omega)]; omega
    have hlt : n - 1 < c.ops.length := by omega
    have hg := last_get Opn.enc c.ops (by omega) hnl
    rw [← hz] at hg
    have hlast := List.getElem?_eq_getElem hlt
    have hstep := hn.step (by omega) hlt
    generalize c.ops[n - 1] = x at hg hlast hstep
    have hg : getZ ((c.ops.take n).map Opn.enc) (IntKind.i64.wrap ((((c.ops.take n).map Opn.enc).length : Int) - 1)) = some [.val (.int .i64 x.obj), .val (.int .i64 x.at')] := hg
    refine ok_some hg ?_
    refine bB_dec (fun hx => ?_) (fun hx => ?_)
    · have hq : qP (n - 1) x = true := decide_eq_true hx
      refine ok_some (x := n - 1) (by show natX (vInt .i64 (IntKind.i64.wrap ((((c.ops.take n).map Opn.enc).length : Int) - 1))) = _; rw [hz]; rfl) ?_
      refine bB_yes (by simp [Nat.ble_eq]; omega) ?_
      refine ⟨n - 1, hstep hq, (show n - 1 < n by omega), View.of 4 [0, 1, 2, 3] [] rfl rfl rfl rfl rfl rfl ?_ ?_⟩
      · repeat (first | exact .nil | refine .junk ?_ | refine .eq rfl ?_)
      · exact (.dead (.put (notF rfl) rfl (.eq rfl (by simp)) (.put (notF rfl) rfl (CcsVp.var (.cons (.ren (.dat _)) (.cons (vwEq (congrArg (Dt.sl 2) (take_map Opn.enc c.ops hnl))) (.cons (.ren (.row 3 4 0 none)) .nil)))) (.put (notF rfl) rfl (.rowDE rfl) (.nil _)))))
    · have hq : qP (n - 1) x = false := decide_eq_false hx
      refine ghost_keep [2, 3] [] ([.dead, .var z3, .var [.dat (objsD (c.l.take n1)), .dat (opnD (c.ops.take n)), .row 3 4 0 none], .row 4 (dRows (c.ps.map Prc.enc))]) (View.of 4 [0, 1, 2, 3] [] rfl rfl rfl rfl rfl rfl ?_ ?_) ?_
      · repeat (first | exact .nil | refine .junk ?_ | refine .eq rfl ?_)
      · exact (.dead (.put (notF rfl) rfl (.eq rfl (by simp)) (.put (notF rfl) rfl (CcsVp.var (.cons (.ren (.dat _)) (.cons (.ren (.dat _)) (.cons (.ren (.row 3 4 0 none)) .nil)))) (.put (notF rfl) rfl (.rowDE rfl) (.nil _)))))
      exact seg57 k a c ha hc hk n1 n h1 ⟨hn, (.inr ⟨x, hlast, hq⟩)⟩
  · have hn1 : n ≤ 0 := by
      have h : ¬ (((c.ops.take n).map Opn.enc).length : Int) > 0 := h
      rw [List.length_map, take_len hnl] at h
      omega
    refine ghost_keep [2, 3] [] ([.dead, .var z3, .var [.dat (objsD (c.l.take n1)), .dat (opnD (c.ops.take n)), .row 3 4 0 none], .row 4 (dRows (c.ps.map Prc.enc))]) (View.of 4 [0, 1, 2, 3] [] rfl rfl rfl rfl rfl rfl ?_ ?_) ?_
    · repeat (first | exact .nil | refine .junk ?_ | refine .eq rfl ?_)
    · exact (.dead (.put (notF rfl) rfl (.eq rfl (by simp)) (.put (notF rfl) rfl (CcsVp.var (.cons (.ren (.dat _)) (.cons (.ren (.dat _)) (.cons (.ren (.row 3 4 0 none)) .nil)))) (.put (notF rfl) rfl (.rowDE rfl) (.nil _)))))
    exact seg57 k a c ha hc hk n1 n h1 ⟨hn, (.inl hn1)⟩
set_option maxRecDepth 100000 in
set_option maxHeartbeats 32000000 in
theorem sweep_body (k : Kr) (hk : KrOK k.l k.ops k.ps) : body Try.prog c23 [kernV k.l k.ops k.ps] [] (KS k) := by
  refine sown_ok k.l k.ops k.ps ⟨hk.ll, fun o ho => (hk.sm o ho).fit⟩ hk.lo hk.lp hk.sl hk.ne ?_
  refine loop_keep (fun (a : Kr) => SwTo k a ∧ KrOK a.l a.ops a.ps) [2] (fun _ => [(3, .rv (.one (.ptr 2 0)))]) (fun a => [.dead, .var z3, .var [.row 3 9 0 none, .row 4 2 0 none, .row 5 4 0 none], .row 9 (dRows (a.l.map Obj.enc)), .row 2 (dRows (a.ops.map Opn.enc)), .row 4 (dRows (a.ps.map Prc.enc))]) (fun a => lives a.ps) k ⟨.refl, hk⟩ ?_ (fun a ha => ?_)
  · refine View.of 6 [0, 1, 5, 2, 3, 4] [] rfl rfl rfl rfl rfl rfl ?_ ?_
    · repeat (first | exact .nil | refine .junk ?_ | refine .eq rfl ?_)
    · exact (.dead (.put (notF rfl) rfl (.eq rfl (by simp)) (.put (notF rfl) rfl (.eq rfl (by simp)) (.put (notF rfl) rfl (.rowDE rfl) (.put (notF rfl) rfl (.rowDE rfl) (.put (notF rfl) rfl (.rowDE rfl) (.nil _)))))))
  obtain ⟨ha, hka⟩ := ha
  refine onceBorrow a hka .dead fun c en ho => ?_
  refine bB_split (fun he => ?_) (fun he => ?_)
  · subst he
    refine ⟨c, ⟨.step ha ho, ho.kr hka⟩, ho.lives, View.of 6 [0, 1, 2, 3, 4, 5] [] rfl rfl rfl rfl rfl rfl ?_ ?_⟩
    · repeat (first | exact .nil | refine .junk ?_ | refine .eq rfl ?_)
    · exact (.dead (.put (notF rfl) rfl (.eq rfl (by simp)) (.put (notF rfl) rfl (.eq rfl (by simp)) (.put (notF rfl) rfl (.rowDE rfl) (.put (notF rfl) rfl (.rowDE rfl) (.put (notF rfl) rfl (.rowDE rfl) (.nil _)))))))
  · subst he
    have hc := ho
    have hkc := ho.kr hka
    have hll := hkc.ll
    refine loop_keep (fun n => Tru qO 1 c.l n) [2, 3] (fun _ => []) (fun n => [.dead, .var z3, .var [.dat (objsD (c.l.take n)), .dat (opnD c.ops), .row 3 4 0 none], .row 4 (dRows (c.ps.map Prc.enc))]) (fun n => n) c.l.length (.start _ _ _) ?_ (fun n hn => ?_)
    · refine View.of 6 [0, 1, 2, 5] [3, 4] rfl rfl rfl rfl rfl rfl ?_ ?_
      · repeat (first | exact .nil | refine .junk ?_ | refine .eq rfl ?_)
      · exact (.dead (.put (notF rfl) rfl (.eq rfl (by simp)) (.put (notF rfl) rfl (CcsVp.var (.cons (by rw [List.take_length]; exact .frz (FrzD.rowD (Z := fun k => memN [3, 4] k = true) rfl rfl 0 none)) (.cons (.frz (FrzD.rowD (Z := fun k => memN [3, 4] k = true) rfl rfl 0 none)) (.cons (.ren (.row 3 4 0 none)) .nil)))) (.put (notF rfl) rfl (.rowDE rfl) (.nil _)))))
    have hn : Tru qO 1 c.l n := hn
    have hnl := hn.le
    refine bB_dec (fun h => ?_) (fun h => ?_)
    · have hn1 : 1 < n := by
        have h : (((c.l.take n).map Obj.enc).length : Int) > 1 := h
        rw [List.length_map, take_len hnl] at h
        omega
      have hz : IntKind.i64.wrap ((((c.l.take n).map Obj.enc).length : Int) - 1) = ((n - 1 : Nat) : Int) := by
        rw [List.length_map, take_len hnl, wrapI (by omega) (by omega)]; omega
      have hlt : n - 1 < c.l.length := by omega
      have hg := last_get Obj.enc c.l (by omega) hnl
      rw [← hz] at hg
      have hlast := List.getElem?_eq_getElem hlt
      have hstep := hn.step (by omega) hlt
      generalize c.l[n - 1] = x at hg hlast hstep
      have hg : getZ ((c.l.take n).map Obj.enc) (IntKind.i64.wrap ((((c.l.take n).map Obj.enc).length : Int) - 1)) = some [.val (.int .i64 x.kind), .sl 1 x.data, .sl 2 x.entries, .val (.string x.target), .val (.int .i64 x.peer), .sl 4 (x.queue.map Msg.enc), .val (.int .i64 x.proc), .val (.int .i64 x.links), .val (.int .i64 x.up)] := hg
      refine ok_some hg ?_
      refine bB_beq (fun hx => ?_) (fun hx => ?_)
      · have hq : qO (n - 1) x = true := (by unfold qO; simpa using hx)
        refine ok_some (x := n - 1) (by show natX (vInt .i64 (IntKind.i64.wrap ((((c.l.take n).map Obj.enc).length : Int) - 1))) = _; rw [hz]; rfl) ?_
        refine bB_yes (by simp [Nat.ble_eq]; omega) ?_
        refine ⟨n - 1, hstep hq, (show n - 1 < n by omega), View.of 4 [0, 1, 2, 3] [] rfl rfl rfl rfl rfl rfl ?_ ?_⟩
        · repeat (first | exact .nil | refine .junk ?_ | refine .eq rfl ?_)
        · exact (.dead (.put (notF rfl) rfl (.eq rfl (by simp)) (.put (notF rfl) rfl (CcsVp.var (.cons (vwEq (congrArg (Dt.sl 9) (take_map Obj.enc c.l hnl))) (.cons (.ren (.dat _)) (.cons (.ren (.row 3 4 0 none)) .nil)))) (.put (notF rfl) rfl (.rowDE rfl) (.nil _)))))
      · have hq : qO (n - 1) x = false := (by unfold qO; simpa using hx)
        refine ghost_keep [2, 3] [] ([.dead, .var z3, .var [.dat (objsD (c.l.take n)), .dat (opnD c.ops), .row 3 4 0 none], .row 4 (dRows (c.ps.map Prc.enc))]) (View.of 4 [0, 1, 2, 3] [] rfl rfl rfl rfl rfl rfl ?_ ?_) ?_
        · repeat (first | exact .nil | refine .junk ?_ | refine .eq rfl ?_)
        · exact (.dead (.put (notF rfl) rfl (.eq rfl (by simp)) (.put (notF rfl) rfl (CcsVp.var (.cons (.ren (.dat _)) (.cons (.ren (.dat _)) (.cons (.ren (.row 3 4 0 none)) .nil)))) (.put (notF rfl) rfl (.rowDE rfl) (.nil _)))))
        exact segB4 k a c ha hc hkc n ⟨hn, (.inr ⟨x, hlast, hq⟩)⟩
    · have hn1 : n ≤ 1 := by
        have h : ¬ (((c.l.take n).map Obj.enc).length : Int) > 1 := h
        rw [List.length_map, take_len hnl] at h
        omega
      refine ghost_keep [2, 3] [] ([.dead, .var z3, .var [.dat (objsD (c.l.take n)), .dat (opnD c.ops), .row 3 4 0 none], .row 4 (dRows (c.ps.map Prc.enc))]) (View.of 4 [0, 1, 2, 3] [] rfl rfl rfl rfl rfl rfl ?_ ?_) ?_
      · repeat (first | exact .nil | refine .junk ?_ | refine .eq rfl ?_)
      · exact (.dead (.put (notF rfl) rfl (.eq rfl (by simp)) (.put (notF rfl) rfl (CcsVp.var (.cons (.ren (.dat _)) (.cons (.ren (.dat _)) (.cons (.ren (.row 3 4 0 none)) .nil)))) (.put (notF rfl) rfl (.rowDE rfl) (.nil _)))))
      exact segB4 k a c ha hc hkc n ⟨hn, (.inl hn1)⟩
set_option maxRecDepth 100000 in
/-- Sweep: what once leaves, done so often that no process ends by it, and cut -/
theorem sweep_ok (k : Kr) (hk : KrOK k.l k.ops k.ps) {m : Mem} {K : CV → Mem → Prop} (h : ∀ a c d, SwTo k a → OnceOK a.l a.ops a.ps c.l c.ops c.ps false → SwFin c d → K (kernV d.l d.ops d.ps) m) : ACall Try.prog 23 [kernV k.l k.ops k.ps] m K := by
  refine acall_frame (K0 := KS k) (acall_body_g Try.func23 l23 rfl (Nat.le_of_ble_eq_true rfl) (sweep_body k hk)) (by simp [kernV, objsD, opnD, prcD, CV.isD, CC.isD, RV.isD]) fun r m1 hr => ?_
  obtain ⟨a, c, d, h1, h2, h3, hf⟩ := hr
  exact ⟨_, hf, h a c d h1 h2 h3⟩

/-! what Sweep keeps: plain -/
def ObjKeep (l L : List Obj) : Prop := L.length ≤ l.length ∧ ∀ (i : Nat) o, L[i]? = some o → o.kind ≠ 0 → ∃ o' : Obj, l[i]? = some o' ∧ o = { o' with peer := o.peer }
def PrcKeep (p P : List Prc) : Prop := P.length ≤ p.length ∧ ∀ (i : Nat) x, P[i]? = some x → x.live = true → p[i]? = some x
theorem ObjKeep.refl (l : List Obj) : ObjKeep l l := ⟨Nat.le_refl _, fun i o h _ => ⟨o, h, rfl⟩⟩
theorem ObjKeep.trans {a b c : List Obj} (h1 : ObjKeep a b) (h2 : ObjKeep b c) : ObjKeep a c := by
  refine ⟨Nat.le_trans h2.1 h1.1, fun i o ho hk => ?_⟩
  obtain ⟨o', ho', e⟩ := h2.2 i o ho hk
  have hk' : o'.kind ≠ 0 := by rw [e] at hk; exact hk
  obtain ⟨o2, ho2, e2⟩ := h1.2 i o' ho' hk'
  refine ⟨o2, ho2, ?_⟩
  rw [e, e2]
theorem PrcKeep.refl (l : List Prc) : PrcKeep l l := ⟨Nat.le_refl _, fun i o h _ => h⟩
theorem PrcKeep.trans {a b c : List Prc} (h1 : PrcKeep a b) (h2 : PrcKeep b c) : PrcKeep a c :=
  ⟨Nat.le_trans h2.1 h1.1, fun i x hx hl => h1.2 i x (h2.2 i x hx hl) hl⟩
theorem Pt.get {α : Type} {l L : List α} {f : Nat → α → α} (h : Pt l L f) {i : Nat} {x : α} (hx : L[i]? = some x) : ∃ o, l[i]? = some o ∧ x = f i o := by
  have hlt : i < l.length := by have := (List.getElem?_eq_some_iff.1 hx).1; rw [h.1] at this; exact this
  have := h.2 i l[i] (List.getElem?_eq_getElem hlt)
  rw [hx] at this
  cases this
  exact ⟨_, List.getElem?_eq_getElem hlt, rfl⟩
theorem OnceOK.keep {l : List Obj} {ops : List Opn} {ps : List Prc} {L : List Obj} {L2 : List Opn} {L3 : List Prc} {en : Bool} (h : OnceOK l ops ps L L2 L3 en) : ObjKeep l L ∧ PrcKeep ps L3 := by
  obtain ⟨b, hb, hP, hP2⟩ := h.ex
  refine ⟨⟨by rw [hP.1]; exact Nat.le_refl _, fun i o ho hk => ?_⟩, by rw [h.pr.1]; exact Nat.le_refl _, fun i x hx hl => ?_⟩
  · obtain ⟨o', ho', e⟩ := hP.get ho
    refine ⟨o', ho', ?_⟩
    unfold onceAt at e
    split at e
    · rw [e] at hk; exact absurd rfl hk
    · split at e
      · rw [e]
      · rw [e]
  · obtain ⟨y, hy, e⟩ := h.pr.get hx
    unfold prS at e
    split at e
    · rw [e] at hl; simp [zeroP] at hl
    · rw [e]; exact hy
theorem SwTo.keep {k a : Kr} (h : SwTo k a) : ObjKeep k.l a.l ∧ PrcKeep k.ps a.ps := by
  induction h with
  | refl => exact ⟨.refl _, .refl _⟩
  | step h ho ih => exact ⟨ih.1.trans ho.keep.1, ih.2.trans ho.keep.2⟩
theorem SwTo.kr {k a : Kr} (h : SwTo k a) (hk : KrOK k.l k.ops k.ps) : KrOK a.l a.ops a.ps := by
  induction h with
  | refl => exact hk
  | step h ho ih => exact ho.kr ih
theorem SwFin.keep {c d : Kr} (h : SwFin c d) : ObjKeep c.l d.l ∧ PrcKeep c.ps d.ps := by
  obtain ⟨n1, n2, n3, P, h1, h2, hP, h3, rfl⟩ := h.ex
  refine ⟨⟨by simp [List.length_take]; omega, fun i o ho _ => ?_⟩, by simp [List.length_take]; have := hP.1; omega, fun i x hx hl => ?_⟩
  · have ho : (c.l.take n1)[i]? = some o := ho
    rw [List.getElem?_take] at ho
    split at ho
    · exact ⟨o, ho, rfl⟩
    · cases ho
  · have hx : (P.take n3)[i]? = some x := hx
    rw [List.getElem?_take] at hx
    split at hx
    · obtain ⟨y, hy, e⟩ := hP.get hx
      unfold prZ at e
      split at e
      · rw [e] at hl; simp [zeroP] at hl
      · rw [e]; exact hy
    · cases hx
theorem SwFin.one {c d : Kr} (h : SwFin c d) (hc : c.ps ≠ []) : 1 ≤ d.ps.length := by
  obtain ⟨n1, n2, n3, P, h1, h2, hP, h3, rfl⟩ := h.ex
  have hl : 0 < c.ps.length := List.length_pos_iff.2 hc
  have := h3.t.mn
  rw [hP.1] at this
  have h4 := h3.t.le
  show 1 ≤ (P.take n3).length
  rw [List.length_take]; omega
/-- of a whole sweep -/
theorem sweep_keep {k a c d : Kr} (hk : KrOK k.l k.ops k.ps) (h1 : SwTo k a) (h2 : OnceOK a.l a.ops a.ps c.l c.ops c.ps false) (h3 : SwFin c d) : ObjKeep k.l d.l ∧ PrcKeep k.ps d.ps ∧ 1 ≤ d.ps.length :=
  ⟨(h1.keep.1.trans h2.keep.1).trans h3.keep.1, (h1.keep.2.trans h2.keep.2).trans h3.keep.2, h3.one (h2.kr (h1.kr hk)).ne⟩
/-- what is marked is of a kind -/
theorem MarkOK.kind {l : List Obj} {ops : List Opn} {ps : List Prc} {b : Mk} (h : MarkOK l ops ps b) {i : Nat} (hi : onB b.O i) : ∃ o, l[i]? = some o ∧ o.kind ≠ 0 := by
  refine (h.least (fun i => ∃ o, l[i]? = some o ∧ o.kind ≠ 0) (fun c => c < ops.length) ⟨fun i o _ _ z n _ hv => hv.2, fun i o _ _ z c _ hv => hv.2, fun c o _ _ n hv => hv.2⟩ ⟨fun n hv => hv.2, fun p pr _ _ s _ _ c hv => hv.2⟩).1 i hi
theorem SwFin.kr {c d : Kr} (h : SwFin c d) (k : KrOK c.l c.ops c.ps) : KrOK d.l d.ops d.ps := by
  have h1 := h.one k.ne
  obtain ⟨n1, n2, n3, P, t1, t2, hP, t3, rfl⟩ := h.ex
  refine ⟨fun o ho => k.sm o (List.mem_of_mem_take ho), ?_, ?_, ?_, fun p hp => ?_, fun e => ?_⟩
  · show (c.l.take n1).length ≤ _; rw [List.length_take]; have := k.ll; omega
  · show (c.ops.take n2).length ≤ _; rw [List.length_take]; have := k.lo; omega
  · show (P.take n3).length ≤ _; rw [List.length_take, hP.1]; have := k.lp; omega
  · refine hP.all (Q := fun p => p.slots.length ≤ 10) (fun t o ho => ?_) p (List.mem_of_mem_take hp)
    unfold prZ
    split
    · simp [zeroP]
    · exact k.sl o (List.mem_of_getElem? ho)
  · have h1 : 1 ≤ (P.take n3).length := h1
    have e : P.take n3 = [] := e
    rw [e] at h1
    simp at h1


end Go.Proofs.Ytjofmgkcllffnaa
