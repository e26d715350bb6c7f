import Derived.Test.YtnlhnmlojcfljaaAmZ2
import Derived.Test.YtnlhnmlojcfljaaDvOb4
import Derived.Test.YtnlhnmlojcfljaaAmY
set_option linter.unusedVariables false
set_option linter.unusedSimpArgs false
namespace Go.Proofs.Ytnlhnmlojcfljaa
open Go.AM Go.ChangeShapes Go.WideShapes Go.ChangeAt Go.RowKit
/-! Build: open files, descriptors, channels -/
structure StOp where
  i : Nat
  b : List Int
  ops : List Opn
set_option maxRecDepth 100000 in
set_option maxHeartbeats 32000000 in
theorem seg163 (b : List Int) (hb : BYb b) (l : List Ob) (g : GoodN l) (n : Nat) (hn1 : 1 ≤ n) (hn3 : n ≤ 3) :
    aw Try.prog 0 (unG (fstS R163)) (seqK (aw Try.prog 0 R184) EK) ⟨mkE 299 [(2, .rv (.one (.ptr 0 0))), (3, .rv (.one (.ptr 1 0))), (19, .rv (.one (.ptr 2 0))), (20, vInt .i64 (n : Nat))], [.var z3, mk3 b, .var [.dat (obsD l), .esl, .esl]]⟩ := by
  have hl40 := g.len
  refine loop_keep (fun (a : StOp) => a.i ≤ l.length ∧ BYb a.b ∧ a.ops.length ≤ 2 * a.i ∧ ∀ o, o ∈ a.ops → 0 ≤ o.obj ∧ o.obj < l.length) [2, 3, 19, 20, 165] (fun a => [(166, vInt .i64 (a.i : Nat))])
    (fun a => match a.ops with
      | [] => [.var z3, mk3 a.b, .var [.dat (obsD l), .esl, .esl]]
      | x :: r => [.var z3, mk3 a.b, .var [.dat (obsD l), .row 3 2 0 none, .esl], .row 2 (dRows ((x :: r).map Opn.enc))]) (fun a => l.length - a.i) ⟨0, b, []⟩ ⟨Nat.zero_le _, hb, by simp, by simp⟩ ?_ (fun a ha => ?_)
  · refine View.of 3 [0, 1, 2] [] rfl rfl rfl rfl rfl rfl ?_ ?_
    · repeat (first | exact .nil | refine .junk ?_ | refine .eq rfl ?_)
    · exact .put (notF rfl) rfl (.eq rfl (by simp)) (.put (notF rfl) rfl (.eq rfl (mk3_ne _)) (.put (notF rfl) rfl (.eq rfl (by simp)) (.nil _)))
  obtain ⟨i, b1, ops⟩ := a
  obtain ⟨hi, hb1, hol, hor⟩ := ha
  have hi : i ≤ l.length := hi
  have hb1 : BYb b1 := hb1
  have hol : ops.length ≤ 2 * i := hol
  have hor : ∀ o, o ∈ ops → 0 ≤ o.obj ∧ o.obj < l.length := hor
  cases ops with
  | nil =>
    refine bB_dec (fun h => ?_) (fun h => ?_)
    · have hlt : i < l.length := by
        have h : (i : Int) < ((l.map Ob.enc).length : Int) := h
        rw [List.length_map] at h
        omega
      have hrng : ∀ (z : Int) {os : List Opn}, (∀ o, o ∈ os → 0 ≤ o.obj ∧ o.obj < (l.length : Int)) → ∀ o, o ∈ os ++ [⟨(i : Nat), z⟩] → 0 ≤ o.obj ∧ o.obj < (l.length : Int) := fun z os h o ho => by
        rcases List.mem_append.1 ho with ho | ho
        · exact h o ho
        · simp at ho; subst ho; exact ⟨by simp, by simpa using hlt⟩
      refine pick_any b1 hb1 3 1 rfl fun q b2 hb2 hq _ _ => ?_
      have hq := hq (by omega)
      refine loop_keep (fun (a : StOp) => a.i ≤ q ∧ BYb a.b ∧ a.ops.length ≤ 2 * i + a.i ∧ ∀ o, o ∈ a.ops → 0 ≤ o.obj ∧ o.obj < l.length) [2, 3, 19, 20, 25, 165, 166, 170] (fun a => [(171, vInt .i64 (a.i : Nat))]) (fun a => match a.ops with
            | [] => [.var z3, mk3 a.b, .var [.dat (obsD l), .esl, .esl]]
            | x :: r => [.var z3, mk3 a.b, .var [.dat (obsD l), .row 3 2 0 none, .esl], .row 2 (dRows ((x :: r).map Opn.enc))]) (fun a => q - a.i) ⟨0, b2, []⟩ ⟨Nat.zero_le _, hb2, by simp at hol ⊢ <;> omega, hor⟩ ?_ (fun a ha => ?_)
      · refine View.of 3 [0, 1, 2] [] rfl rfl rfl rfl rfl rfl ?_ ?_
        · repeat (first | exact .nil | refine .junk ?_ | refine .eq rfl ?_)
        · exact .put (notF rfl) rfl (.eq rfl (by simp)) (.put (notF rfl) rfl (.eq rfl (mk3_ne _)) (.put (notF rfl) rfl (.eq rfl (by simp)) (.nil _)))
      clear hol hor
      obtain ⟨j, bj, ops⟩ := a
      obtain ⟨hj, hbj, hol, hor⟩ := ha
      have hj : j ≤ q := hj
      have hbj : BYb bj := hbj
      have hol : ops.length ≤ 2 * i + j := hol
      have hor : ∀ o, o ∈ ops → 0 ≤ o.obj ∧ o.obj < l.length := hor
      cases ops with
      | nil =>
        refine bB_dec (fun hjl => ?_) (fun hjl => ?_)
        · have hjlt : j < q := by
            have h : (j : Int) < (q : Int) := hjl
            omega
          refine pick_any bj hbj 4 1 rfl fun z bz hbz _ _ _ => ?_
          refine ⟨⟨rfl, trivial⟩, ⟨rfl, trivial⟩, ?_⟩
          refine ⟨by simp [subL] <;> omega, trivial, trivial, ?_⟩
          refine ⟨⟨j + 1, bz, [⟨(i : Nat), (z : Nat)⟩]⟩, ⟨hjlt, hbz, by simp at hol ⊢ <;> omega, hrng _ hor⟩, (show q - (j + 1) < q - j by omega), View.of 5 [0, 1, 2, 4] [] rfl rfl rfl rfl rfl rfl ?_ ?_⟩
          · repeat (first | exact .nil | refine .junk ?_ | refine .put (.ren (next_i64 (by omega)).symm) ?_ | refine .eq rfl ?_)
          · exact .put (notF rfl) rfl (.eq rfl (by simp)) (.put (notF rfl) rfl (.eq rfl (mk3_ne _)) (.put (notF rfl) rfl (.eq rfl (by simp)) (.put (notF rfl) rfl (.rowDE (by simp [subL, dRows, Opn.enc])) (.nil _))))
        · have hje : j = q := by
            have h : ¬ (j : Int) < (q : Int) := hjl
            omega
          refine ⟨⟨i + 1, bj, []⟩, ⟨hlt, hbj, by simp at hol ⊢ <;> omega, hor⟩, (show l.length - (i + 1) < l.length - i by omega), View.of 3 [0, 1, 2] [] rfl rfl rfl rfl rfl rfl ?_ ?_⟩
          · repeat (first | exact .nil | refine .junk ?_ | refine .put (.ren (next_i64 (by omega)).symm) ?_ | refine .eq rfl ?_)
          · exact .put (notF rfl) rfl (.eq rfl (by simp)) (.put (notF rfl) rfl (.eq rfl (mk3_ne _)) (.put (notF rfl) rfl (.eq rfl (by simp)) (.nil _)))
      | cons y t =>
        have htl : t.length ≤ 100 := by simp at hol; omega
        refine bB_dec (fun hjl => ?_) (fun hjl => ?_)
        · have hjlt : j < q := by
            have h : (j : Int) < (q : Int) := hjl
            omega
          refine pick_any bj hbj 4 1 rfl fun z bz hbz _ _ _ => ?_
          refine ⟨⟨rfl, trivial⟩, ⟨rfl, trivial⟩, ?_⟩
          refine ⟨by simp [subL, dRows_len] at hol ⊢ <;> omega, trivial, trivial, ?_⟩
          refine ⟨⟨j + 1, bz, (y :: t) ++ [⟨(i : Nat), (z : Nat)⟩]⟩, ⟨hjlt, hbz, by simp at hol ⊢ <;> omega, hrng _ hor⟩, (show q - (j + 1) < q - j by omega), View.of 6 [0, 1, 2, 5] [] rfl rfl rfl rfl rfl rfl ?_ ?_⟩
          · repeat (first | exact .nil | refine .junk ?_ | refine .put (.ren (next_i64 (by omega)).symm) ?_ | refine .eq rfl ?_)
          · exact .put (notF rfl) rfl (.eq rfl (by simp)) (.put (notF rfl) rfl (.eq rfl (mk3_ne _)) (.put (notF rfl) rfl (.eq rfl (by simp)) (.put (notF rfl) rfl (.rowDE (by simp [subL, dRows, Opn.enc])) (.nil _))))
        · have hje : j = q := by
            have h : ¬ (j : Int) < (q : Int) := hjl
            omega
          refine ⟨⟨i + 1, bj, (y :: t)⟩, ⟨hlt, hbj, by simp at hol ⊢ <;> omega, hor⟩, (show l.length - (i + 1) < l.length - i by omega), View.of 4 [0, 1, 2, 3] [] rfl rfl rfl rfl rfl rfl ?_ ?_⟩
          · repeat (first | exact .nil | refine .junk ?_ | refine .put (.ren (next_i64 (by omega)).symm) ?_ | refine .eq rfl ?_)
          · exact .put (notF rfl) rfl (.eq rfl (by simp)) (.put (notF rfl) rfl (.eq rfl (mk3_ne _)) (.put (notF rfl) rfl (.eq rfl (by simp)) (.put (notF rfl) rfl (.rowDE rfl) (.nil _))))
    · refine ghost_keep [2, 3, 19, 20] [] [.var z3, mk3 b1, .var [.dat (obsD l), .dat (opnD []), .esl]] (View.of 3 [0, 1, 2] [] rfl rfl rfl rfl rfl rfl ?_ ?_) ?_
      · repeat (first | exact .nil | refine .junk ?_ | refine .eq rfl ?_)
      · exact .put (notF rfl) rfl (.eq rfl (by simp)) (.put (notF rfl) rfl (.eq rfl (mk3_ne _)) (.put (notF rfl) rfl (CcsVp.var (.cons (.ren (.dat _)) (.cons (.frz (.esl 2)) (.cons (.ren .esl) .nil)))) (.nil _)))
      exact seg184 b1 hb1 l g [] ⟨by simp at hol ⊢ <;> omega, hor⟩ n hn1 hn3
  | cons x r =>
    have hrl : r.length ≤ 100 := by simp at hol; omega
    refine bB_dec (fun h => ?_) (fun h => ?_)
    · have hlt : i < l.length := by
        have h : (i : Int) < ((l.map Ob.enc).length : Int) := h
        rw [List.length_map] at h
        omega
      have hrng : ∀ (z : Int) {os : List Opn}, (∀ o, o ∈ os → 0 ≤ o.obj ∧ o.obj < (l.length : Int)) → ∀ o, o ∈ os ++ [⟨(i : Nat), z⟩] → 0 ≤ o.obj ∧ o.obj < (l.length : Int) := fun z os h o ho => by
        rcases List.mem_append.1 ho with ho | ho
        · exact h o ho
        · simp at ho; subst ho; exact ⟨by simp, by simpa using hlt⟩
      refine pick_any b1 hb1 3 1 rfl fun q b2 hb2 hq _ _ => ?_
      have hq := hq (by omega)
      refine loop_keep (fun (a : StOp) => a.i ≤ q ∧ BYb a.b ∧ a.ops.length ≤ 2 * i + a.i ∧ ∀ o, o ∈ a.ops → 0 ≤ o.obj ∧ o.obj < l.length) [2, 3, 19, 20, 25, 165, 166, 170] (fun a => [(171, vInt .i64 (a.i : Nat))]) (fun a => match a.ops with
            | [] => [.var z3, mk3 a.b, .var [.dat (obsD l), .esl, .esl]]
            | x :: r => [.var z3, mk3 a.b, .var [.dat (obsD l), .row 3 2 0 none, .esl], .row 2 (dRows ((x :: r).map Opn.enc))]) (fun a => q - a.i) ⟨0, b2, (x :: r)⟩ ⟨Nat.zero_le _, hb2, by simp at hol ⊢ <;> omega, hor⟩ ?_ (fun a ha => ?_)
      · refine View.of 4 [0, 1, 2, 3] [] rfl rfl rfl rfl rfl rfl ?_ ?_
        · repeat (first | exact .nil | refine .junk ?_ | refine .eq rfl ?_)
        · exact .put (notF rfl) rfl (.eq rfl (by simp)) (.put (notF rfl) rfl (.eq rfl (mk3_ne _)) (.put (notF rfl) rfl (.eq rfl (by simp)) (.put (notF rfl) rfl (.rowDE rfl) (.nil _))))
      clear hol hor
      obtain ⟨j, bj, ops⟩ := a
      obtain ⟨hj, hbj, hol, hor⟩ := ha
      have hj : j ≤ q := hj
      have hbj : BYb bj := hbj
      have hol : ops.length ≤ 2 * i + j := hol
      have hor : ∀ o, o ∈ ops → 0 ≤ o.obj ∧ o.obj < l.length := hor
      cases ops with
      | nil =>
        refine bB_dec (fun hjl => ?_) (fun hjl => ?_)
        · have hjlt : j < q := by
            have h : (j : Int) < (q : Int) := hjl
            omega
          refine pick_any bj hbj 4 1 rfl fun z bz hbz _ _ _ => ?_
          refine ⟨⟨rfl, trivial⟩, ⟨rfl, trivial⟩, ?_⟩
          refine ⟨by simp [subL] <;> omega, trivial, trivial, ?_⟩
          refine ⟨⟨j + 1, bz, [⟨(i : Nat), (z : Nat)⟩]⟩, ⟨hjlt, hbz, by simp at hol ⊢ <;> omega, hrng _ hor⟩, (show q - (j + 1) < q - j by omega), View.of 5 [0, 1, 2, 4] [] rfl rfl rfl rfl rfl rfl ?_ ?_⟩
          · repeat (first | exact .nil | refine .junk ?_ | refine .put (.ren (next_i64 (by omega)).symm) ?_ | refine .eq rfl ?_)
          · exact .put (notF rfl) rfl (.eq rfl (by simp)) (.put (notF rfl) rfl (.eq rfl (mk3_ne _)) (.put (notF rfl) rfl (.eq rfl (by simp)) (.put (notF rfl) rfl (.rowDE (by simp [subL, dRows, Opn.enc])) (.nil _))))
        · have hje : j = q := by
            have h : ¬ (j : Int) < (q : Int) := hjl
            omega
          refine ⟨⟨i + 1, bj, []⟩, ⟨hlt, hbj, by simp at hol ⊢ <;> omega, hor⟩, (show l.length - (i + 1) < l.length - i by omega), View.of 3 [0, 1, 2] [] rfl rfl rfl rfl rfl rfl ?_ ?_⟩
          · repeat (first | exact .nil | refine .junk ?_ | refine .put (.ren (next_i64 (by omega)).symm) ?_ | refine .eq rfl ?_)
          · exact .put (notF rfl) rfl (.eq rfl (by simp)) (.put (notF rfl) rfl (.eq rfl (mk3_ne _)) (.put (notF rfl) rfl (.eq rfl (by simp)) (.nil _)))
      | cons y t =>
        have htl : t.length ≤ 100 := by simp at hol; omega
        refine bB_dec (fun hjl => ?_) (fun hjl => ?_)
        · have hjlt : j < q := by
            have h : (j : Int) < (q : Int) := hjl
            omega
          refine pick_any bj hbj 4 1 rfl fun z bz hbz _ _ _ => ?_
          refine ⟨⟨rfl, trivial⟩, ⟨rfl, trivial⟩, ?_⟩
          refine ⟨by simp [subL, dRows_len] at hol ⊢ <;> omega, trivial, trivial, ?_⟩
          refine ⟨⟨j + 1, bz, (y :: t) ++ [⟨(i : Nat), (z : Nat)⟩]⟩, ⟨hjlt, hbz, by simp at hol ⊢ <;> omega, hrng _ hor⟩, (show q - (j + 1) < q - j by omega), View.of 6 [0, 1, 2, 5] [] rfl rfl rfl rfl rfl rfl ?_ ?_⟩
          · repeat (first | exact .nil | refine .junk ?_ | refine .put (.ren (next_i64 (by omega)).symm) ?_ | refine .eq rfl ?_)
          · exact .put (notF rfl) rfl (.eq rfl (by simp)) (.put (notF rfl) rfl (.eq rfl (mk3_ne _)) (.put (notF rfl) rfl (.eq rfl (by simp)) (.put (notF rfl) rfl (.rowDE (by simp [subL, dRows, Opn.enc])) (.nil _))))
        · have hje : j = q := by
            have h : ¬ (j : Int) < (q : Int) := hjl
            omega
          refine ⟨⟨i + 1, bj, (y :: t)⟩, ⟨hlt, hbj, by simp at hol ⊢ <;> omega, hor⟩, (show l.length - (i + 1) < l.length - i by omega), View.of 4 [0, 1, 2, 3] [] rfl rfl rfl rfl rfl rfl ?_ ?_⟩
          · repeat (first | exact .nil | refine .junk ?_ | refine .put (.ren (next_i64 (by omega)).symm) ?_ | refine .eq rfl ?_)
          · exact .put (notF rfl) rfl (.eq rfl (by simp)) (.put (notF rfl) rfl (.eq rfl (mk3_ne _)) (.put (notF rfl) rfl (.eq rfl (by simp)) (.put (notF rfl) rfl (.rowDE rfl) (.nil _))))
    · refine ghost_keep [2, 3, 19, 20] [] [.var z3, mk3 b1, .var [.dat (obsD l), .dat (opnD (x :: r)), .esl]] (View.of 4 [0, 1, 2] [3] rfl rfl rfl rfl rfl rfl ?_ ?_) ?_
      · repeat (first | exact .nil | refine .junk ?_ | refine .eq rfl ?_)
      · exact .put (notF rfl) rfl (.eq rfl (by simp)) (.put (notF rfl) rfl (.eq rfl (mk3_ne _)) (.put (notF rfl) rfl (CcsVp.var (.cons (.ren (.dat _)) (.cons (.frz (FrzD.rowD (Z := fun k => memN [3] k = true) rfl rfl 0 none)) (.cons (.ren .esl) .nil)))) (.nil _)))
      exact seg184 b1 hb1 l g (x :: r) ⟨by simp at hol ⊢ <;> omega, hor⟩ n hn1 hn3
structure StMk where
  i : Nat
  l : List Ob
set_option maxRecDepth 100000 in
set_option maxHeartbeats 32000000 in
theorem seg142 (b : List Int) (hb : BYb b) (l : List Ob) (g : GoodN l) (h12 : l.length ≤ 12) :
    aw Try.prog 0 L142 EK ⟨mkE 299 [(2, .rv (.one (.ptr 0 0))), (3, .rv (.one (.ptr 1 0))), (19, .rv (.one (.ptr 2 0)))], [.var z3, mk3 b, .var [.dat (obsD l), .esl, .esl]]⟩ := by
  refine pick_any b hb 3 1 rfl fun x b1 hb1 hx _ _ => ?_
  have hx := hx (by omega)
  have hw : IntKind.i64.wrap (1 + (x : Int)) = ((1 + x : Nat) : Int) := by
    rw [show (1 + (x : Int)) = ((1 + x : Nat) : Int) by omega, wrapN (by omega)]
  refine loop_keep (fun (a : StMk) => a.i ≤ 1 + x ∧ GoodN a.l ∧ a.l.length ≤ 12 + a.i) [2, 3, 19] (fun a => [(146, vInt .i64 (a.i : Nat)), (145, vInt .i64 (1 + x : Nat)), (20, vInt .i64 (1 + x : Nat))]) (fun a => [.var z3, mk3 b1, .var [.dat (obsD a.l), .esl, .esl]]) (fun a => 1 + x - a.i) ⟨0, l⟩ ⟨Nat.zero_le _, g, by simpa using h12⟩ ?_ (fun a ha => ?_)
  · refine View.of 3 [0, 1, 2] [] rfl rfl rfl rfl rfl rfl ?_ ?_
    · repeat (first | exact .nil | refine .junk ?_ | refine .eq (congrArg (fun x => vInt .i64 x) hw.symm) ?_ | refine .eq rfl ?_)
    · exact .put (notF rfl) rfl (.eq rfl (by simp)) (.put (notF rfl) rfl (.eq rfl (mk3_ne _)) (.put (notF rfl) rfl (.eq rfl (by simp)) (.nil _)))
  obtain ⟨p, l1⟩ := a
  obtain ⟨hp, g1, hl1⟩ := ha
  have hp : p ≤ 1 + x := hp
  have g1 : GoodN l1 := g1
  have hl1 : l1.length ≤ 12 + p := hl1
  refine bB_dec (fun h => ?_) (fun h => ?_)
  · have hlt : p < 1 + x := by
      have h : (p : Int) < ((1 + x : Nat) : Int) := h
      omega
    refine bB_dec (fun h => ?_) (fun h => ?_)
    · refine acall_le (endArgsB _ _ _ _) (mk_ok l1 g1 (by omega) _ (endB_sm _ _ _) fun l2 k g2 hl2 _ _ => ?_)
      refine ⟨⟨p + 1, l2⟩, ⟨hlt, g2, (show l2.length ≤ 12 + (p + 1) by omega)⟩, (show 1 + x - (p + 1) < 1 + x - p by omega), View.of 3 [0, 1, 2] [] rfl rfl rfl rfl rfl rfl ?_ ?_⟩
      · repeat (first | exact .nil | refine .junk ?_ | refine .put (.ren (next_i64 (by omega)).symm) ?_ | refine .eq rfl ?_)
      · exact .put (notF rfl) rfl (.eq rfl (by simp)) (.put (notF rfl) rfl (.eq rfl (mk3_ne _)) (.put (notF rfl) rfl (.eq rfl (by simp)) (.nil _)))
    · refine ⟨⟨p + 1, l1⟩, ⟨hlt, g1, (show l1.length ≤ 12 + (p + 1) by omega)⟩, (show 1 + x - (p + 1) < 1 + x - p by omega), View.of 3 [0, 1, 2] [] rfl rfl rfl rfl rfl rfl ?_ ?_⟩
      · repeat (first | exact .nil | refine .junk ?_ | refine .put (.ren (next_i64 (by omega)).symm) ?_ | refine .eq rfl ?_)
      · exact .put (notF rfl) rfl (.eq rfl (by simp)) (.put (notF rfl) rfl (.eq rfl (mk3_ne _)) (.put (notF rfl) rfl (.eq rfl (by simp)) (.nil _)))
  · refine ghost_keep [2, 3, 19, 20] [] [.var z3, mk3 b1, .var [.dat (obsD l1), .esl, .esl]] (View.of 3 [0, 1, 2] [] rfl rfl rfl rfl rfl rfl ?_ ?_) ?_
    · repeat (first | exact .nil | refine .junk ?_ | refine .eq rfl ?_)
    · exact .put (notF rfl) rfl (.eq rfl (by simp)) (.put (notF rfl) rfl (.eq rfl (mk3_ne _)) (.put (notF rfl) rfl (.eq rfl (by simp)) (.nil _)))
    exact seg163 b1 hb1 l1 g1 (1 + x) (by omega) (by omega)
set_option maxRecDepth 100000 in
set_option maxHeartbeats 32000000 in
theorem seg126 (b : List Int) (hb : BYb b) (l : List Ob) (g : GoodN l) (h8 : l.length ≤ 8) :
    aw Try.prog 0 (unG (fstS R126)) (seqK (aw Try.prog 0 (sndS R126)) EK) ⟨mkE 299 [(2, .rv (.one (.ptr 0 0))), (3, .rv (.one (.ptr 1 0))), (4, obsV l)], [.var z3, mk3 b]⟩ := by
  refine pick_any b hb 3 1 rfl fun x b1 hb1 hx _ _ => ?_
  have hx := hx (by omega)
  refine loop_keep (fun (a : StMk) => a.i ≤ x ∧ GoodN a.l ∧ a.l.length ≤ 8 + 2 * a.i) [2, 3, 127] (fun a => [(128, vInt .i64 (a.i : Nat)), (4, obsV a.l)]) (fun a => [.var z3, mk3 b1]) (fun a => x - a.i) ⟨0, l⟩ ⟨Nat.zero_le _, g, by simpa using h8⟩ ?_ (fun a ha => ?_)
  · refine View.of 2 [0, 1] [] rfl rfl rfl rfl rfl rfl ?_ ?_
    · repeat (first | exact .nil | refine .junk ?_ | refine .eq rfl ?_)
    · exact .put (notF rfl) rfl (.eq rfl (by simp)) (.put (notF rfl) rfl (.eq rfl (mk3_ne _)) (.nil _))
  obtain ⟨i, l1⟩ := a
  obtain ⟨hi, g1, hl1⟩ := ha
  have hi : i ≤ x := hi
  have g1 : GoodN l1 := g1
  have hl1 : l1.length ≤ 8 + 2 * i := hl1
  refine bB_dec (fun h => ?_) (fun h => ?_)
  · have hlt : i < x := by
      have h : (i : Int) < (x : Int) := h
      omega
    refine pair_okB l1 g1 (by omega) fun l2 u v g2 hl2 => ?_
    refine ⟨⟨i + 1, l2⟩, ⟨hlt, g2, (show l2.length ≤ 8 + 2 * (i + 1) by omega)⟩, (show x - (i + 1) < x - i by omega), View.of 3 [0, 1] [] rfl rfl rfl rfl rfl rfl ?_ ?_⟩
    · repeat (first | exact .nil | refine .junk ?_ | refine .put (.ren (next_i64 (by omega)).symm) ?_ | refine .eq rfl ?_)
    · exact .put (notF rfl) rfl (.eq rfl (by simp)) (.put (notF rfl) rfl (.eq rfl (mk3_ne _)) (.nil _))
  · refine ghost_keep [2, 3, 19] [] [.var z3, mk3 b1, .var [.dat (obsD l1), .esl, .esl]] (View.of 3 [0, 1, 2] [] rfl rfl rfl rfl rfl rfl ?_ ?_) ?_
    · repeat (first | exact .nil | refine .junk ?_ | refine .eq rfl ?_)
    · exact .put (notF rfl) rfl (.eq rfl (by simp)) (.put (notF rfl) rfl (.eq rfl (mk3_ne _)) (.put (notF rfl) rfl (.eq rfl (by simp)) (.nil _)))
    exact seg142 b1 hb1 l1 g1 (by omega)

end Go.Proofs.Ytnlhnmlojcfljaa
