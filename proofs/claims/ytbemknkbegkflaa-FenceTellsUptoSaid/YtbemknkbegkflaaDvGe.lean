import Derived.Test.YtbemknkbegkflaaAmZ2
import Derived.Test.YtbemknkbegkflaaDvGd
import Derived.Test.YtbemknkbegkflaaAmY
set_option linter.unusedVariables false
set_option linter.unusedSimpArgs false
namespace Go.Proofs.Ytbemknkbegkflaa
open Go.AM Go.ChangeShapes Go.WideShapes Go.ChangeAt Go.RowKit
/-! Build: open files, descriptors, channels -/
structure StOp where
  i : Nat
  b : List Int
  ops : List Opn
set_option maxRecDepth 100000 in
set_option maxHeartbeats 32000000 in
theorem seg163 (b : List Int) (hb : BYb b) (l : List Ob) (g : GoodN l) (n : Nat) (hn1 : 1 ≤ n) (hn3 : n ≤ 3) :
    aw Try.prog 0 (unG (fstS R163)) (seqK (aw Try.prog 0 R184) EK) ⟨mkE 299 [(2, .rv (.one (.ptr 0 0))), (3, .rv (.one (.ptr 1 0))), (19, .rv (.one (.ptr 2 0))), (20, vInt .i64 (n : Nat))], [.var z3, mk3 b, .var [.dat (obsD l), .esl, .esl]]⟩ := by
  have hl40 := g.len
  refine loop_keep (fun (a : StOp) => a.i ≤ l.length ∧ BYb a.b ∧ a.ops.length ≤ 2 * a.i ∧ ∀ o, o ∈ a.ops → 0 ≤ o.obj ∧ o.obj < l.length) [2, 3, 19, 20, 165] (fun a => [(166, vInt .i64 (a.i : Nat))])
    (fun a => match a.ops with
      | [] => [.var z3, mk3 a.b, .var [.dat (obsD l), .esl, .esl]]
      | x :: r => [.var z3, mk3 a.b, .var [.dat (obsD l), .row 3 2 0 none, .esl], .row 2 (dRows ((x :: r).map Opn.enc))]) (fun a => l.length - a.i) ⟨0, b, []⟩ ⟨Nat.zero_le _, hb, by simp, by simp⟩ ?_ (fun a ha => ?_)
  · refine View.of 3 [0, 1, 2] [] rfl rfl rfl rfl rfl rfl ?_ ?_
    · repeat (first | exact .nil | refine .junk ?_ | refine .eq rfl ?_)
    · exact .put (notF rfl) rfl (.eq rfl (by simp)) (.put (notF rfl) rfl (.eq rfl (mk3_ne _)) (.put (notF rfl) rfl (.eq rfl (by simp)) (.nil _)))
  obtain ⟨i, b1, ops⟩ := a
  obtain ⟨hi, hb1, hol, hor⟩ := ha
  have hi : i ≤ l.length := hi
  have hb1 : BYb b1 := hb1
  have hol : ops.length ≤ 2 * i := hol
  have hor : ∀ o, o ∈ ops → 0 ≤ o.obj ∧ o.obj < l.length := hor
  cases ops with
  | nil =>
    refine bB_dec (fun h => ?_) (fun h => ?_)
    · have hlt : i < l.length := by
        have h : (i : Int) < ((l.map Ob.enc).length : Int) := h
        rw [List.length_map] at h
        omega
      have hrng : ∀ (z : Int) {os : List Opn}, (∀ o, o ∈ os → 0 ≤ o.obj ∧ o.obj < (l.length : Int)) → ∀ o, o ∈ os ++ [⟨(i : Nat), z⟩] → 0 ≤ o.obj ∧ o.obj < (l.length : Int) := fun z os h o ho => by
        rcases List.mem_append.1 ho with ho | ho
        · exact h o ho
        · simp at ho; subst ho; exact ⟨by simp, by simpa using hlt⟩
      refine pick_any b1 hb1 3 1 rfl fun q b2 hb2 hq _ _ => ?_
      have hq := hq (by omega)
      refine loop_keep (fun (a : StOp) => a.i ≤ q ∧ BYb a.b ∧ a.ops.length ≤ 2 * i + a.i ∧ ∀ o, o ∈ a.ops → 0 ≤ o.obj ∧ o.obj < l.length) [2, 3, 19, 20, 25, 165, 166, 170] (fun a => [(171, vInt .i64 (a.i : Nat))]) (fun a => match a.ops with
            | [] => [.var z3, mk3 a.b, .var [.dat (obsD l), .esl, .esl]]
            | x :: r => [.var z3, mk3 a.b, .var [.dat (obsD l), .row 3 2 0 none, .esl], .row 2 (dRows ((x :: r).map Opn.enc))]) (fun a => q - a.i) ⟨0, b2, []⟩ ⟨Nat.zero_le _, hb2, by simp at hol ⊢ <;> omega, hor⟩ ?_ (fun a ha => ?_)
      · refine View.of 3 [0, 1, 2] [] rfl rfl rfl rfl rfl rfl ?_ ?_
        · repeat (first | exact .nil | refine .junk ?_ | refine .eq rfl ?_)
        · exact .put (notF rfl) rfl (.eq rfl (by simp)) (.put (notF rfl) rfl (.eq rfl (mk3_ne _)) (.put (notF rfl) rfl (.eq rfl (by simp)) (.nil _)))
      clear hol hor
      obtain ⟨j, bj, ops⟩ := a
      obtain ⟨hj, hbj, hol, hor⟩ := ha
      have hj : j ≤ q := hj
      have hbj : BYb bj := hbj
      have hol : ops.length ≤ 2 * i + j := hol
      have hor : ∀ o, o ∈ ops → 0 ≤ o.obj ∧ o.obj < l.length := hor
      cases ops with
      | nil =>
        refine bB_dec (fun hjl => ?_) (fun hjl => ?_)
        · have hjlt : j < q := by
            have h : (j : Int) < (q : Int) := hjl
            omega
          refine pick_any bj hbj 4 1 rfl fun z bz hbz _ _ _ => ?_
          refine ⟨⟨rfl, trivial⟩, ⟨rfl, trivial⟩, ?_⟩
          refine ⟨by simp [subL] <;> omega, trivial, trivial, ?_⟩
          refine ⟨⟨j + 1, bz, [⟨(i : Nat), (z : Nat)⟩]⟩, ⟨hjlt, hbz, by simp at hol ⊢ <;> omega, hrng _ hor⟩, (show q - (j + 1) < q - j by omega), View.of 5 [0, 1, 2, 4] [] rfl rfl rfl rfl rfl rfl ?_ ?_⟩
          · repeat (first | exact .nil | refine .junk ?_ | refine .put (.ren (next_i64 (by omega)).symm) ?_ | refine .eq rfl ?_)
          · exact .put (notF rfl) rfl (.eq rfl (by simp)) (.put (notF rfl) rfl (.eq rfl (mk3_ne _)) (.put (notF rfl) rfl (.eq rfl (by simp)) (.put (notF rfl) rfl (.rowDE (by simp [subL, dRows, Opn.enc])) (.nil _))))
        · have hje : j = q := by
            have h : ¬ (j : Int) < (q : Int) := hjl
            omega
          refine ⟨⟨i + 1, bj, []⟩, ⟨hlt, hbj, by simp at hol ⊢ <;> omega, hor⟩, (show l.length - (i + 1) < l.length - i by omega), View.of 3 [0, 1, 2] [] rfl rfl rfl rfl rfl rfl ?_ ?_⟩
          · repeat (first | exact .nil | refine .junk ?_ | refine .put (.ren (next_i64 (by omega)).symm) ?_ | refine .eq rfl ?_)
          · exact .put (notF rfl) rfl (.eq rfl (by simp)) (.put (notF rfl) rfl (.eq rfl (mk3_ne _)) (.put (notF rfl) rfl (.eq rfl (by simp)) (.nil _)))
      | cons y t =>
        have htl : t.length ≤ 100 := by simp at hol; omega
        refine bB_dec (fun hjl => ?_) (fun hjl => ?_)
        · have hjlt : j < q := by
            have h : (j : Int) < (q : Int) := hjl
            omega
          refine pick_any bj hbj 4 1 rfl fun z bz hbz _ _ _ => ?_
          refine ⟨⟨rfl, trivial⟩, ⟨rfl, trivial⟩, ?_⟩
          refine ⟨by simp [subL, dRows_len] at hol ⊢ <;> omega, trivial, trivial, ?_⟩
          refine ⟨⟨j + 1, bz, (y :: t) ++ [⟨(i : Nat), (z : Nat)⟩]⟩, ⟨hjlt, hbz, by simp at hol ⊢ <;> omega, hrng _ hor⟩, (show q - (j + 1) < q - j by omega), View.of 6 [0, 1, 2, 5] [] rfl rfl rfl rfl rfl rfl ?_ ?_⟩
          · repeat (first | exact .nil | refine .junk ?_ | refine .put (.ren (next_i64 (by omega)).symm) ?_ | refine .eq rfl ?_)
          · exact .put (notF rfl) rfl (.eq rfl (by simp)) (.put (notF rfl) rfl (.eq rfl (mk3_ne _)) (.put (notF rfl) rfl (.eq rfl (by simp)) (.put (notF rfl) rfl (.rowDE (by simp [subL, dRows, Opn.enc])) (.nil _))))
        · have hje : j = q := by
            have h : ¬ (j : Int) < (q : Int) := hjl
            omega
          refine ⟨⟨i + 1, bj, (y :: t)⟩, ⟨hlt, hbj, by simp at hol ⊢ <;> omega, hor⟩, (show l.length - (i + 1) < l.length - i by omega), View.of 4 [0, 1, 2, 3] [] rfl rfl rfl rfl rfl rfl ?_ ?_⟩
          · repeat (first | exact .nil | refine .junk ?_ | refine .put (.ren (next_i64 (by omega)).symm) ?_ | refine .eq rfl ?_)
          · exact .put (notF rfl) rfl (.eq rfl (by simp)) (.put (notF rfl) rfl (.eq rfl (mk3_ne _)) (.put (notF rfl) rfl (.eq rfl (by simp)) (.put (notF rfl) rfl (.rowDE rfl) (.nil _))))
    · refine ghost_keep [2, 3, 19, 20] [] [.var z3, mk3 b1, .var [.dat (obsD l), .dat (opnD []), .esl]] (View.of 3 [0, 1, 2] [] rfl rfl rfl rfl rfl rfl ?_ ?_) ?_
      · repeat (first | exact .nil | refine .junk ?_ | refine .eq rfl ?_)
      · exact .put (notF rfl) rfl (.eq rfl (by simp)) (.put (notF rfl) rfl (.eq rfl (mk3_ne _)) (.put (notF rfl) rfl (CcsVp.var (.cons (.ren (.dat _)) (.cons (.frz (.esl 2)) (.cons (.ren .esl) .nil)))) (.nil _)))
      exact seg184 b1 hb1 l g [] ⟨by simp at hol ⊢ <;> omega, hor⟩ n hn1 hn3
  | cons x r =>
    have hrl : r.length ≤ 100 := by simp at hol; omega
    refine bB_dec (fun h => ?_) (fun h => ?_)
    · have hlt : i < l.length := by
        have h : (i : Int) < ((l.map Ob.enc).length : Int) := h
        rw [List.length_map] at h
        omega
      have hrng : ∀ (z : Int) {os : List Opn}, (∀ o, o ∈ os → 0 ≤ o.obj ∧ o.obj < (l.length : Int)) → ∀ o, o ∈ os ++ [⟨(i : Nat), z⟩] → 0 ≤ o.obj ∧ o.obj < (l.length : Int) := fun z os h o ho => by
        rcases List.mem_append.1 ho with ho | ho
        · exact h o ho
        · simp at ho; subst ho; exact ⟨by simp, by simpa using hlt⟩
      refine pick_any b1 hb1 3 1 rfl fun q b2 hb2 hq _ _ => ?_
      have hq := hq (by omega)
      refine loop_keep (fun (a : StOp) => a.i ≤ q ∧ BYb a.b ∧ a.ops.length ≤ 2 * i + a.i ∧ ∀ o, o ∈ a.ops → 0 ≤ o.obj ∧ o.obj < l.length) [2, 3, 19, 20, 25, 165, 166, 170] (fun a => [(171, vInt .i64 (a.i : Nat))]) (fun a => match a.ops with
            | [] => [.var z3, mk3 a.b, .var [.dat (obsD l), .esl, .esl]]
            | x :: r => [.var z3, mk3 a.b, .var [.dat (obsD l), .row 3 2 0 none, .esl], .row 2 (dRows ((x :: r).map Opn.enc))]) (fun a => q - a.i) ⟨0, b2, (x :: r)⟩ ⟨Nat.zero_le _, hb2, by simp at hol ⊢ <;> omega, hor⟩ ?_ (fun a ha => ?_)
      · refine View.of 4 [0, 1, 2, 3] [] rfl rfl rfl rfl rfl rfl ?_ ?_
        · repeat (first | exact .nil | refine .junk ?_ | refine .eq rfl ?_)
        · exact .put (notF rfl) rfl (.eq rfl (by simp)) (.put (notF rfl) rfl (.eq rfl (mk3_ne _)) (.put (notF rfl) rfl (.eq rfl (by simp)) (.put (notF rfl) rfl (.rowDE rfl) (.nil _))))
      clear hol hor
      obtain ⟨j, bj, ops⟩ := a
      obtain ⟨hj, hbj, hol, hor⟩ := ha
      have hj : j ≤ q := hj
      have hbj : BYb bj := hbj
      have hol : ops.length ≤ 2 * i + j := hol
      have hor : ∀ o, o ∈ ops → 0 ≤ o.obj ∧ o.obj < l.length := hor
      cases ops with
      | nil =>
        refine bB_dec (fun hjl => ?_) (fun hjl => ?_)
        · have hjlt : j < q := by
            have h : (j : Int) < (q : Int) := hjl
            omega
          refine pick_any bj hbj 4 1 rfl fun z bz hbz _ _ _ => ?_
          refine ⟨⟨rfl, trivial⟩, ⟨rfl, trivial⟩, ?_⟩
          refine ⟨by simp [subL] <;> omega, trivial, trivial, ?_⟩
          refine ⟨⟨j + 1, bz, [⟨(i : Nat), (z : Nat)⟩]⟩, ⟨hjlt, hbz, by simp at hol ⊢ <;> omega, hrng _ hor⟩, (show q - (j + 1) < q - j by omega), View.of 5 [0, 1, 2, 4] [] rfl rfl rfl rfl rfl rfl ?_ ?_⟩
          · repeat (first | exact .nil | refine .junk ?_ | refine .put (.ren (next_i64 (by omega)).symm) ?_ | refine .eq rfl ?_)
          · exact .put (notF rfl) rfl (.eq rfl (by simp)) (.put (notF rfl) rfl (.eq rfl (mk3_ne _)) (.put (notF rfl) rfl (.eq rfl (by simp)) (.put (notF rfl) rfl (.rowDE (by simp [subL, dRows, Opn.enc])) (.nil _))))
        · have hje : j = q := by
            have h : ¬ (j : Int) < (q : Int) := hjl
            omega
          refine ⟨⟨i + 1, bj, []⟩, ⟨hlt, hbj, by simp at hol ⊢ <;> omega, hor⟩, (show l.length - (i + 1) < l.length - i by omega), View.of 3 [0, 1, 2] [] rfl rfl rfl rfl rfl rfl ?_ ?_⟩
          · repeat (first | exact .nil | refine .junk ?_ | refine .put (.ren (next_i64 (by omega)).symm) ?_ | refine .eq rfl ?_)
          · exact .put (notF rfl) rfl (.eq rfl (by simp)) (.put (notF rfl) rfl (.eq rfl (mk3_ne _)) (.put (notF rfl) rfl (.eq rfl (by simp)) (.nil _)))
      | cons y t =>
        have htl : t.length ≤ 100 := by simp at hol; omega
        refine bB_dec (fun hjl => ?_) (fun hjl => ?_)
        · have hjlt : j < q := by
            have h : (j : Int) < (q : Int) := hjl
            omega
          refine pick_any bj hbj 4 1 rfl fun z bz hbz _ _ _ => ?_
          refine ⟨⟨rfl, trivial⟩, ⟨rfl, trivial⟩, ?_⟩
          refine ⟨by simp [subL, dRows_len] at hol ⊢ <;> omega, trivial, trivial, ?_⟩
          refine ⟨⟨j + 1, bz, (y :: t) ++ [⟨(i : Nat), (z : Nat)⟩]⟩, ⟨hjlt, hbz, by simp at hol ⊢ <;> omega, hrng _ hor⟩, (show q - (j + 1) < q - j by omega), View.of 6 [0, 1, 2, 5] [] rfl rfl rfl rfl rfl rfl ?_ ?_⟩
          · repeat (first | exact .nil | refine .junk ?_ | refine .put (.ren (next_i64 (by omega)).symm) ?_ | refine .eq rfl ?_)
          · exact .put (notF rfl) rfl (.eq rfl (by simp)) (.put (notF rfl) rfl (.eq rfl (mk3_ne _)) (.put (notF rfl) rfl (.eq rfl (by simp)) (.put (notF rfl) rfl (.rowDE (by simp [subL, dRows, Opn.enc])) (.nil _))))
        · have hje : j = q := by
            have h : ¬ (j : Int) < (q : Int) := hjl
            omega
          refine ⟨⟨i + 1, bj, (y :: t)⟩, ⟨hlt, hbj, by simp at hol ⊢ <;> omega, hor⟩, (show l.length - (i + 1) < l.length - i by omega), View.of 4 [0, 1, 2, 3] [] rfl rfl rfl rfl rfl rfl ?_ ?_⟩
          · repeat (first | exact .nil | refine .junk ?_ | refine .put (.ren (next_i64 (by omega)).symm) ?_ | refine .eq rfl ?_)
          · exact .put (notF rfl) rfl (.eq rfl (by simp)) (.put (notF rfl) rfl (.eq rfl (mk3_ne _)) (.put (notF rfl) rfl (.eq rfl (by simp)) (.put (notF rfl) rfl (.rowDE rfl) (.nil _))))
    · refine ghost_keep [2, 3, 19, 20] [] [.var z3, mk3 b1, .var [.dat (obsD l), .dat (opnD (x :: r)), .esl]] (View.of 4 [0, 1, 2] [3] rfl rfl rfl rfl rfl rfl ?_ ?_) ?_
      · repeat (first | exact .nil | refine .junk ?_ | refine .eq rfl ?_)
      · exact .put (notF rfl) rfl (.eq rfl (by simp)) (.put (notF rfl) rfl (.eq rfl (mk3_ne _)) (.put (notF rfl) rfl (CcsVp.var (.cons (.ren (.dat _)) (.cons (.frz (FrzD.rowD (Z := fun k => memN [3] k = true) rfl rfl 0 none)) (.cons (.ren .esl) .nil)))) (.nil _)))
      exact seg184 b1 hb1 l g (x :: r) ⟨by simp at hol ⊢ <;> omega, hor⟩ n hn1 hn3
structure StMk where
  i : Nat
  l : List Ob
set_option maxRecDepth 100000 in
set_option maxHeartbeats 32000000 in
theorem seg142 (b : List Int) (hb : BYb b) (l : List Ob) (g : GoodN l) (h12 : l.length ≤ 12) :
    aw Try.prog 0 L142 EK ⟨mkE 299 [(2, .rv (.one (.ptr 0 0))), (3, .rv (.one (.ptr 1 0))), (19, .rv (.one (.ptr 2 0)))], [.var z3, mk3 b, .var [.dat (obsD l), .esl, .esl]]⟩ := by
  refine pick_any b hb 3 1 rfl fun x b1 hb1 hx _ _ => ?_
  have hx := hx (by omega)
  have hw : IntKind.i64.wrap (1 + (x : Int)) = ((1 + x : Nat) : Int) := by
    rw [show (1 + (x : Int)) = ((1 + x : Nat) : Int) by omega, wrapN (by omega)]
  refine loop_keep (fun (a : StMk) => a.i ≤ 1 + x ∧ GoodN a.l ∧ a.l.length ≤ 12 + a.i) [2, 3, 19] (fun a => [(146, vInt .i64 (a.i : Nat)), (145, vInt .i64 (1 + x : Nat)), (20, vInt .i64 (1 + x : Nat))]) (fun a => [.var z3, mk3 b1, .var [.dat (obsD a.l), .esl, .esl]]) (fun a => 1 + x - a.i) ⟨0, l⟩ ⟨Nat.zero_le _, g, by simpa using h12⟩ ?_ (fun a ha => ?_)
  · refine View.of 3 [0, 1, 2] [] rfl rfl rfl rfl rfl rfl ?_ ?_
    · repeat (first | exact .nil | refine .junk ?_ | refine .eq (congrArg (fun x => vInt .i64 x) hw.symm) ?_ | refine .eq rfl ?_)
    · exact .put (notF rfl) rfl (.eq rfl (by simp)) (.put (notF rfl) rfl (.eq rfl (mk3_ne _)) (.put (notF rfl) rfl (.eq rfl (by simp)) (.nil _)))
  obtain ⟨p, l1⟩ := a
  obtain ⟨hp, g1, hl1⟩ := ha
  have hp : p ≤ 1 + x := hp
  have g1 : GoodN l1 := g1
  have hl1 : l1.length ≤ 12 + p := hl1
  refine bB_dec (fun h => ?_) (fun h => ?_)
  · have hlt : p < 1 + x := by
      have h : (p : Int) < ((1 + x : Nat) : Int) := h
      omega
    refine bB_dec (fun h => ?_) (fun h => ?_)
    · refine acall_le (endArgsB _ _ _ _) (mk_ok l1 g1 (by omega) _ (endB_sm _ _ _) (show (5 : Int) ≠ 0 by decide) (.inl rfl) rfl rfl fun l2 k g2 hl2 _ _ => ?_)
      refine ⟨⟨p + 1, l2⟩, ⟨hlt, g2, (show l2.length ≤ 12 + (p + 1) by omega)⟩, (show 1 + x - (p + 1) < 1 + x - p by omega), View.of 3 [0, 1, 2] [] rfl rfl rfl rfl rfl rfl ?_ ?_⟩
      · repeat (first | exact .nil | refine .junk ?_ | refine .put (.ren (next_i64 (by omega)).symm) ?_ | refine .eq rfl ?_)
      · exact .put (notF rfl) rfl (.eq rfl (by simp)) (.put (notF rfl) rfl (.eq rfl (mk3_ne _)) (.put (notF rfl) rfl (.eq rfl (by simp)) (.nil _)))
    · refine ⟨⟨p + 1, l1⟩, ⟨hlt, g1, (show l1.length ≤ 12 + (p + 1) by omega)⟩, (show 1 + x - (p + 1) < 1 + x - p by omega), View.of 3 [0, 1, 2] [] rfl rfl rfl rfl rfl rfl ?_ ?_⟩
      · repeat (first | exact .nil | refine .junk ?_ | refine .put (.ren (next_i64 (by omega)).symm) ?_ | refine .eq rfl ?_)
      · exact .put (notF rfl) rfl (.eq rfl (by simp)) (.put (notF rfl) rfl (.eq rfl (mk3_ne _)) (.put (notF rfl) rfl (.eq rfl (by simp)) (.nil _)))
  · refine ghost_keep [2, 3, 19, 20] [] [.var z3, mk3 b1, .var [.dat (obsD l1), .esl, .esl]] (View.of 3 [0, 1, 2] [] rfl rfl rfl rfl rfl rfl ?_ ?_) ?_
    · repeat (first | exact .nil | refine .junk ?_ | refine .eq rfl ?_)
    · exact .put (notF rfl) rfl (.eq rfl (by simp)) (.put (notF rfl) rfl (.eq rfl (mk3_ne _)) (.put (notF rfl) rfl (.eq rfl (by simp)) (.nil _)))
    exact seg163 b1 hb1 l1 g1 (1 + x) (by omega) (by omega)
set_option maxRecDepth 100000 in
set_option maxHeartbeats 32000000 in
theorem seg126 (b : List Int) (hb : BYb b) (l : List Ob) (g : GoodN l) (h8 : l.length ≤ 8) :
    aw Try.prog 0 (unG (fstS R126)) (seqK (aw Try.prog 0 (sndS R126)) EK) ⟨mkE 299 [(2, .rv (.one (.ptr 0 0))), (3, .rv (.one (.ptr 1 0))), (4, obsV l)], [.var z3, mk3 b]⟩ := by
  refine pick_any b hb 3 1 rfl fun x b1 hb1 hx _ _ => ?_
  have hx := hx (by omega)
  refine loop_keep (fun (a : StMk) => a.i ≤ x ∧ GoodN a.l ∧ a.l.length ≤ 8 + 2 * a.i) [2, 3, 127] (fun a => [(128, vInt .i64 (a.i : Nat)), (4, obsV a.l)]) (fun a => [.var z3, mk3 b1]) (fun a => x - a.i) ⟨0, l⟩ ⟨Nat.zero_le _, g, by simpa using h8⟩ ?_ (fun a ha => ?_)
  · refine View.of 2 [0, 1] [] rfl rfl rfl rfl rfl rfl ?_ ?_
    · repeat (first | exact .nil | refine .junk ?_ | refine .eq rfl ?_)
    · exact .put (notF rfl) rfl (.eq rfl (by simp)) (.put (notF rfl) rfl (.eq rfl (mk3_ne _)) (.nil _))
  obtain ⟨i, l1⟩ := a
  obtain ⟨hi, g1, hl1⟩ := ha
  have hi : i ≤ x := hi
  have g1 : GoodN l1 := g1
  have hl1 : l1.length ≤ 8 + 2 * i := hl1
  refine bB_dec (fun h => ?_) (fun h => ?_)
  · have hlt : i < x := by
      have h : (i : Int) < (x : Int) := h
      omega
    refine pair_okB l1 g1 (by omega) fun l2 u v g2 hl2 => ?_
    refine ⟨⟨i + 1, l2⟩, ⟨hlt, g2, (show l2.length ≤ 8 + 2 * (i + 1) by omega)⟩, (show x - (i + 1) < x - i by omega), View.of 3 [0, 1] [] rfl rfl rfl rfl rfl rfl ?_ ?_⟩
    · repeat (first | exact .nil | refine .junk ?_ | refine .put (.ren (next_i64 (by omega)).symm) ?_ | refine .eq rfl ?_)
    · exact .put (notF rfl) rfl (.eq rfl (by simp)) (.put (notF rfl) rfl (.eq rfl (mk3_ne _)) (.nil _))
  · refine ghost_keep [2, 3, 19] [] [.var z3, mk3 b1, .var [.dat (obsD l1), .esl, .esl]] (View.of 3 [0, 1, 2] [] rfl rfl rfl rfl rfl rfl ?_ ?_) ?_
    · repeat (first | exact .nil | refine .junk ?_ | refine .eq rfl ?_)
    · exact .put (notF rfl) rfl (.eq rfl (by simp)) (.put (notF rfl) rfl (.eq rfl (mk3_ne _)) (.put (notF rfl) rfl (.eq rfl (by simp)) (.nil _)))
    exact seg142 b1 hb1 l1 g1 (by omega)

/-! Build -/
def rootO : Ob := ⟨2, [], [], ⟨#[]⟩, -1, noD, -1, 1, 0⟩
theorem kind_ne (x : Nat) (h : (x : Int) < 3) : IntKind.i64.wrap (1 + (x : Int)) ≠ 0 := by
  rw [show (1 + (x : Int)) = ((1 + x : Nat) : Int) by omega, wrapN (by omega)]
  omega
theorem root_good : GoodN [rootO] := ⟨⟨by simp, fun o ho => by simp at ho; subst ho; exact ⟨⟨⟨[], rfl⟩, ⟨[], rfl⟩⟩, by simp [rootO], by simp [rootO], rfl⟩, ⟨rootO, rfl, rfl⟩, fun o ho => by simp at ho; subst ho; simp [rootO], fun o ho => by simp at ho; subst ho; exact .inl rfl, fun o ho => by simp at ho; subst ho; exact EntOK.nil _ _⟩, ⟨fun x hx => by simp at hx; subst hx; simp [rootO, Ob.tri], fun x hx => by simp at hx; subst hx; simp [rootO, Ob.tri], fun i x hx e he => by
    cases i with
    | zero => simp at hx; subst hx; simp [rootO, Ob.tri] at he
    | succ i => simp at hx⟩⟩
theorem frzRoot {m : Mem} {Z : Nat → Prop} {p : Option Nat} (hz : Z 2) (h : m[2]? = some (.row 9 [[.dat (.val (.int .i64 2)), .esl, .esl, .dat (.val (.string ⟨#[]⟩)), .dat (.val (.int .i64 (-1))), .esl, .dat (.val (.int .i64 (-1))), .dat (.val (.int .i64 1)), .dat (.val (.int .i64 0))]])) :
    FrzD m Z p (.row 2 9 0 none) (obsD [rootO]) := by
  refine FrzD.row 2 9 0 none _ [rootO.enc] hz h rfl (fun i cs es h1 h2 => ?_) (fun i cs es j c d h1 h2 h3 h4 => ?_)
  · match i, h1, h2 with
    | 0, h1, h2 => cases h1; cases h2; rfl
    | n + 1, h1, h2 => simp at h1
  · match i, h1, h2 with
    | 0, h1, h2 =>
      cases h1
      cases h2
      match j, h3, h4 with
      | 0, h3, h4 => cases h3; cases h4; exact .dat _
      | 1, h3, h4 => cases h3; cases h4; exact .esl 1
      | 2, h3, h4 => cases h3; cases h4; exact .esl 2
      | 3, h3, h4 => cases h3; cases h4; exact .dat _
      | 4, h3, h4 => cases h3; cases h4; exact .dat _
      | 5, h3, h4 => cases h3; cases h4; exact .no
      | 6, h3, h4 => cases h3; cases h4; exact .dat _
      | 7, h3, h4 => cases h3; cases h4; exact .dat _
      | 8, h3, h4 => cases h3; cases h4; exact .dat _
      | n + 9, h3, h4 => simp at h3
    | n + 1, h1, h2 => simp at h1
def namesD : List (List Dt) := [[.val (.string ⟨#[97]⟩)], [.val (.string ⟨#[98]⟩)], [.val (.string ⟨#[99]⟩)], [.val (.string ⟨#[100]⟩)]]
theorem names4 (z : Nat) (h : z < 4) : ∃ s : ByteArray, getZ namesD (z : Nat) = some [.val (.string s)] ∧ s.size ≤ 1 := by
  match z, h with
  | 0, _ => exact ⟨_, rfl, by decide⟩
  | 1, _ => exact ⟨_, rfl, by decide⟩
  | 2, _ => exact ⟨_, rfl, by decide⟩
  | 3, _ => exact ⟨_, rfl, by decide⟩
theorem links6 (z : Nat) (h : z < 6) : ∃ s : ByteArray, nth [[CC.dat (.val (.string ⟨#[97]⟩))], [.dat (.val (.string ⟨#[98, 47, 99]⟩))], [.dat (.val (.string ⟨#[46, 46]⟩))], [.dat (.val (.string ⟨#[47, 97]⟩))], [.dat (.val (.string ⟨#[46, 46, 47, 98]⟩))], [.dat (.val (.string ⟨#[]⟩))]] z = some [.dat (.val (.string s))] := by
  match z, h with
  | 0, _ => exact ⟨_, rfl⟩
  | 1, _ => exact ⟨_, rfl⟩
  | 2, _ => exact ⟨_, rfl⟩
  | 3, _ => exact ⟨_, rfl⟩
  | 4, _ => exact ⟨_, rfl⟩
  | 5, _ => exact ⟨_, rfl⟩
structure StDir where
  k : Nat
  ds : List Int
structure StA where
  i : Nat
  b : List Int
  l : List Ob
set_option maxRecDepth 100000 in
set_option maxHeartbeats 64000000 in
theorem build_body (b : List Int) (hb : BYb b) : body Try.prog c4 [.rv (.one (.dat (.sl 1 (byD b))))] [] KP := by
  refine pick_any b hb 8 1 rfl fun q b1 hb1 hq _ _ => ?_
  have hq := hq (by omega)
  refine loop_keep (fun (a : StA) => a.i ≤ q ∧ BYb a.b ∧ GoodN a.l ∧ a.l.length ≤ 1 + a.i) [2, 3, 41] (fun a => [(42, vInt .i64 (a.i : Nat)), (4, obsV a.l), (5, .rv (.one (.dat (.sl 1 namesD))))]) (fun a => [.var z3, mk3 a.b]) (fun a => q - a.i) ⟨0, b1, [rootO]⟩ ⟨Nat.zero_le _, hb1, root_good, by simp⟩ ?_ (fun a ha => ?_)
  · refine View.of 4 [0, 1] [2, 3] rfl rfl rfl rfl rfl rfl ?_ ?_
    · repeat (first | exact .nil | refine .junk ?_ | refine .eq rfl ?_ | refine .put (.rv (.one (.frz (frzRoot (Z := fun k => memN [2, 3] k = true) rfl rfl)))) ?_ | refine .put (.rv (.one (.frz (FrzD.rowD (Z := fun k => memN [2, 3] k = true) (ds := namesD) rfl rfl 0 none)))) ?_)
    · exact .put (notF rfl) rfl (.eq rfl (by simp)) (.put (notF rfl) rfl (.eq rfl (mk3_ne _)) (.nil _))
  obtain ⟨i, b2, l⟩ := a
  obtain ⟨hi, hb2, g, hl⟩ := ha
  have hi : i ≤ q := hi
  have hb2 : BYb b2 := hb2
  have g : GoodN l := g
  have hl : l.length ≤ 1 + i := hl
  refine bB_dec (fun h => ?_) (fun h => ?_)
  · have hlt : i < q := by
      have h : (i : Int) < (q : Int) := h
      omega
    refine pick_any b2 hb2 3 1 rfl fun x b3 hb3 hx _ _ => ?_
    refine bB_beq (fun h1 => ?_) (fun h1 => ?_)
    · refine pick_any b3 hb3 5 1 rfl fun y b4 hb4 hy _ _ => ?_
      have hy := hy (by omega)
      refine bB_yes (by simp [Nat.ble_eq]; omega) ?_
      refine ghost_keep [2, 3, 4, 5, 6, 41, 42] [] [.var z3, mk3 b4, .var ((Ob.enc (Ob.mk (IntKind.i64.wrap (1 + (x : Int))) (subL (byD [100, 97, 116, 97]) 0 (some y)) [] ⟨#[]⟩ (-1) noD (-1) 0 0)).map .dat)] (View.of 4 [0, 1, 2] [3] rfl rfl rfl rfl rfl rfl ?_ ?_) ?_
      · repeat (first | exact .nil | refine .junk ?_ | refine .eq rfl ?_)
      · exact .put (notF rfl) rfl (.eq rfl (by simp)) (.put (notF rfl) rfl (.eq rfl (mk3_ne _)) (.put (notF rfl) rfl (CcsVp.var (.cons (.ren (.dat _)) (.cons (.frz (FrzD.rowD (Z := fun k => memN [3] k = true) rfl rfl 0 (some y))) (.cons (.frz (.esl 2)) (.cons (.ren (.dat _)) (.cons (.ren (.dat _)) (.cons (.frz .no) (.cons (.ren (.dat _)) (.cons (.ren (.dat _)) (.cons (.ren (.dat _)) .nil)))))))))) (.nil _)))
      have ho : (Ob.sm (Ob.mk (IntKind.i64.wrap (1 + (x : Int))) (subL (byD [100, 97, 116, 97]) 0 (some y)) [] ⟨#[]⟩ (-1) noD (-1) 0 0)) := ⟨⟨⟨[100, 97, 116, 97].take y, by simp [subL, byD, List.map_take]⟩, ⟨[], rfl⟩⟩, by simp [subL, byD] <;> omega, by simp, rfl⟩
      have hoz : ((Ob.mk (IntKind.i64.wrap (1 + (x : Int))) (subL (byD [100, 97, 116, 97]) 0 (some y)) [] ⟨#[]⟩ (-1) noD (-1) 0 0)).kind ≠ 0 := kind_ne x (hx (by omega))
      have hop : ((Ob.mk (IntKind.i64.wrap (1 + (x : Int))) (subL (byD [100, 97, 116, 97]) 0 (some y)) [] ⟨#[]⟩ (-1) noD (-1) 0 0)).peer = -1 := rfl
      have hoe : ((Ob.mk (IntKind.i64.wrap (1 + (x : Int))) (subL (byD [100, 97, 116, 97]) 0 (some y)) [] ⟨#[]⟩ (-1) noD (-1) 0 0)).entries = [] := rfl
      have hou : ((Ob.mk (IntKind.i64.wrap (1 + (x : Int))) (subL (byD [100, 97, 116, 97]) 0 (some y)) [] ⟨#[]⟩ (-1) noD (-1) 0 0)).up = 0 := rfl
      generalize (Ob.mk (IntKind.i64.wrap (1 + (x : Int))) (subL (byD [100, 97, 116, 97]) 0 (some y)) [] ⟨#[]⟩ (-1) noD (-1) 0 0) = o at ho hoz hop hoe hou
      have hbx : BYb b4 := by assumption
      generalize b4 = bx at hbx
      refine mk_ok l g (by omega) o ho hoz (.inl hop) hoe hou fun l' k g' hl' hll hk => ?_
      have hklt : k < l'.length := (List.getElem?_eq_some_iff.1 hk.1).1
      have hkp0 := hk.2.1
      have hfr := hk.2.2
      have hl40' := g'.len
      refine loop_keep (fun (a : StDir) => a.k ≤ l.length ∧ a.ds.length ≤ a.k ∧ (0 < a.k → a.ds ≠ [])) [2, 3, 4, 5, 6, 7, 8, 41, 42, 75, 76] (fun a => [(77, vInt .i64 (a.k : Nat)), (10, .rv (.one (.row 3 1 0 none)))]) (fun a => [.var z3, mk3 bx, .var (o.enc.map .dat), .row 1 (dRows (a.ds.map fun d : Int => [Dt.val (.int .i64 d)]))]) (fun a => l.length - a.k) ⟨0, []⟩ ⟨Nat.zero_le _, Nat.zero_le _, fun h => absurd h (Nat.lt_irrefl 0)⟩ ?_ (fun a ha => ?_)
      · refine View.trans (View.esl 10 1 3 rfl rfl rfl) (View.of 4 [0, 1, 2, 3] [] rfl rfl rfl rfl rfl rfl ?_ ?_)
        · repeat (first | exact .nil | refine .junk ?_ | refine .eq rfl ?_)
        · exact .put (notF rfl) rfl (.eq rfl (by simp)) (.put (notF rfl) rfl (.eq rfl (mk3_ne _)) (.put (notF rfl) rfl (.eq rfl (by simp)) (.put (notF rfl) rfl (.rowDE rfl) (.nil _))))
      obtain ⟨j, ds⟩ := a
      obtain ⟨hj, hdl, hdn⟩ := ha
      have hj : j ≤ l.length := hj
      have hdl : ds.length ≤ j := hdl
      have hdn : 0 < j → ds ≠ [] := hdn
      refine bB_dec (fun h => ?_) (fun h => ?_)
      · have hjlt : j < l.length := by
          have h : (j : Int) < ((l.map Ob.enc).length : Int) := h
          rw [List.length_map] at h
          omega
        have hk2 : j = 0 → l[j].kind = 2 := by
          intro h0
          subst h0
          obtain ⟨r, hr, hr2⟩ := g.root
          rw [List.getElem?_eq_getElem hjlt] at hr
          cases hr
          exact hr2
        refine ok_some (obj_getB hjlt) ?_
        refine bB_beq (fun h2 => ?_) (fun h2 => ?_)
        · refine ⟨by have e := dRows_len (ds.map fun d : Int => [Dt.val (.int .i64 d)]); simp only [List.length_map] at e; simp only [subL, List.length_cons, List.length_nil]; omega, ?_⟩
          refine ⟨⟨j + 1, ds ++ [(j : Int)]⟩, ⟨hjlt, by simp; omega, fun _ => by simp⟩, (show l.length - (j + 1) < l.length - j by omega), View.of 7 [0, 1, 2, 6] [] rfl rfl rfl rfl rfl rfl ?_ ?_⟩
          · repeat (first | exact .nil | refine .junk ?_ | refine .put (.ren (next_i64 (by omega)).symm) ?_ | refine .eq rfl ?_)
          · exact .put (notF rfl) rfl (.eq rfl (by simp)) (.put (notF rfl) rfl (.eq rfl (mk3_ne _)) (.put (notF rfl) rfl (.eq rfl (by simp)) (.put (notF rfl) rfl (.rowDE (by simp [subL, dRows])) (.nil _))))
        · refine ⟨⟨j + 1, ds⟩, ⟨hjlt, Nat.le_succ_of_le hdl, fun _ => hdn (Nat.pos_of_ne_zero fun h0 => h2 (hk2 h0))⟩, (show l.length - (j + 1) < l.length - j by omega), View.of 5 [0, 1, 2, 3] [] rfl rfl rfl rfl rfl rfl ?_ ?_⟩
          · repeat (first | exact .nil | refine .junk ?_ | refine .put (.ren (next_i64 (by omega)).symm) ?_ | refine .eq rfl ?_)
          · exact .put (notF rfl) rfl (.eq rfl (by simp)) (.put (notF rfl) rfl (.eq rfl (mk3_ne _)) (.put (notF rfl) rfl (.eq rfl (by simp)) (.put (notF rfl) rfl (.rowDE rfl) (.nil _))))
      · have hje : j = l.length := by
          have h : ¬ (j : Int) < ((l.map Ob.enc).length : Int) := h
          rw [List.length_map] at h
          omega
        have hl0 : 0 < l.length := by
          obtain ⟨r, hr, _⟩ := g.root
          exact (List.getElem?_eq_some_iff.1 hr).1
        have hd0 : 0 < ds.length := by
          have := hdn (by omega)
          cases ds with
          | nil => exact absurd rfl this
          | cons => simp
        refine pick_any bx hbx _ 1 rfl fun z1 b5 hb5 hz1 _ _ => ?_
        have hz1 : z1 < ds.length := by
          have e := dRows_len (ds.map fun d : Int => [Dt.val (.int .i64 d)])
          simp only [List.length_map] at e
          have hz1 : (1 : Int) ≤ (((dRows (ds.map fun d : Int => [Dt.val (.int .i64 d)])).length : Nat) : Int) → (z1 : Int) < (((dRows (ds.map fun d : Int => [Dt.val (.int .i64 d)])).length : Nat) : Int) := hz1
          rw [e] at hz1
          have := hz1 (by omega)
          omega
        refine ⟨trivial, ?_⟩
        have hidx : idxZ (z1 : Int) (lenOf (dRows (ds.map fun d : Int => [Dt.val (.int .i64 d)])).length 0 none) = some z1 := idxZ_nat (by show z1 < (dRows (ds.map fun d : Int => [Dt.val (.int .i64 d)])).length; rw [dRows_len, List.length_map]; exact hz1)
        have hnth : nth (dRows (ds.map fun d : Int => [Dt.val (.int .i64 d)])) z1 = some [.dat (.val (.int .i64 ds[z1]))] := dRows_nth' (fun d : Int => [Dt.val (.int .i64 d)]) ds hz1
        refine ok_some hidx ?_
        refine ok_some hnth ?_
        refine pick_any b5 hb5 4 1 rfl fun z2 b6 hb6 hz2 _ _ => ?_
        have hz2 := hz2 (by omega)
        refine ⟨⟨ok_some hnth rfl, ok_some hidx rfl, trivial⟩, ?_⟩
        obtain ⟨s, hs, hss⟩ := names4 z2 (by omega)
        refine ok_some hs ?_
        refine enter_okB l' g' _ s hss k (by omega) hfr fun y e hy => ?_
        refine ⟨trivial, ?_⟩
        refine bB_beq (fun he => ?_) (fun he => ?_)
        · obtain ⟨gy, hyl⟩ := hy he
          refine ⟨⟨i + 1, b6, y⟩, ⟨hlt, by assumption, by assumption, (show List.length y ≤ 1 + (i + 1) by omega)⟩, (show q - (i + 1) < q - i by omega), View.of 4 [0, 1] [] rfl rfl rfl rfl rfl rfl ?_ ?_⟩
          · repeat (first | exact .nil | refine .junk ?_ | refine .put (.ren (next_i64 (by omega)).symm) ?_ | refine .eq rfl ?_)
          · exact .put (notF rfl) rfl (.eq rfl (by simp)) (.put (notF rfl) rfl (.eq rfl (mk3_ne _)) (.nil _))
        · refine bB_beq (fun hkd => ?_) (fun hkd => ?_)
          · refine ok_some (obj_getB hklt) ?_
            have hsm := g'.sm _ (List.getElem_mem hklt)
            obtain ⟨g3, hl3⟩ := set_good g' hklt (o := { l'[k] with up := k }) ⟨hsm.t, hsm.d, hsm.e, hsm.q⟩ rfl (g'.pe l'[k] (List.getElem_mem hklt)) rfl (by rw [List.map_set]; exact g'.tr.setUp (tri_at hklt) (by omega) fun x hx e he => by obtain ⟨z, hz, rfl⟩ := List.mem_map.1 hx; exact hfr z hz e he)
            refine with_okB l' (by omega) k (by omega) { l'[k] with up := k } ?_
            refine ⟨⟨i + 1, b6, (withSB l' k { l'[k] with up := k })⟩, ⟨hlt, by assumption, by assumption, (show List.length (withSB l' k { l'[k] with up := k }) ≤ 1 + (i + 1) by omega)⟩, (show q - (i + 1) < q - i by omega), View.of 5 [0, 1] [] rfl rfl rfl rfl rfl rfl ?_ ?_⟩
            · repeat (first | exact .nil | refine .junk ?_ | refine .put (.ren (next_i64 (by omega)).symm) ?_ | refine .eq rfl ?_)
            · exact .put (notF rfl) rfl (.eq rfl (by simp)) (.put (notF rfl) rfl (.eq rfl (mk3_ne _)) (.nil _))
          · skip
            refine ⟨⟨i + 1, b6, l'⟩, ⟨hlt, by assumption, by assumption, (show List.length l' ≤ 1 + (i + 1) by omega)⟩, (show q - (i + 1) < q - i by omega), View.of 4 [0, 1] [] rfl rfl rfl rfl rfl rfl ?_ ?_⟩
            · repeat (first | exact .nil | refine .junk ?_ | refine .put (.ren (next_i64 (by omega)).symm) ?_ | refine .eq rfl ?_)
            · exact .put (notF rfl) rfl (.eq rfl (by simp)) (.put (notF rfl) rfl (.eq rfl (mk3_ne _)) (.nil _))
    · refine bB_beq (fun h3 => ?_) (fun h3 => ?_)
      · refine pick_any b3 hb3 6 1 rfl fun z b4 hb4 hz _ _ => ?_
        have hz := hz (by omega)
        refine ok_some (idxZ_nat (k := z) (by simp [lenOf]; omega)) ?_
        obtain ⟨s, hs⟩ := links6 z (by omega)
        refine ok_some hs ?_
        refine ghost_keep [2, 3, 4, 5, 6, 41, 42] [] [.var z3, mk3 b4, .var ((Ob.enc (Ob.mk (IntKind.i64.wrap (1 + (x : Int))) [] [] s (-1) noD (-1) 0 0)).map .dat)] (View.of 4 [0, 1, 2] [] rfl rfl rfl rfl rfl rfl ?_ ?_) ?_
        · repeat (first | exact .nil | refine .junk ?_ | refine .eq rfl ?_)
        · exact .put (notF rfl) rfl (.eq rfl (by simp)) (.put (notF rfl) rfl (.eq rfl (mk3_ne _)) (.put (notF rfl) rfl (CcsVp.var (.cons (.ren (.dat _)) (.cons (.frz (.esl 1)) (.cons (.frz (.esl 2)) (.cons (.ren (.dat _)) (.cons (.ren (.dat _)) (.cons (.frz .no) (.cons (.ren (.dat _)) (.cons (.ren (.dat _)) (.cons (.ren (.dat _)) .nil)))))))))) (.nil _)))
        have ho : (Ob.sm (Ob.mk (IntKind.i64.wrap (1 + (x : Int))) [] [] s (-1) noD (-1) 0 0)) := ⟨⟨⟨[], rfl⟩, ⟨[], rfl⟩⟩, by simp, by simp, rfl⟩
        have hoz : ((Ob.mk (IntKind.i64.wrap (1 + (x : Int))) [] [] s (-1) noD (-1) 0 0)).kind ≠ 0 := kind_ne x (hx (by omega))
        have hop : ((Ob.mk (IntKind.i64.wrap (1 + (x : Int))) [] [] s (-1) noD (-1) 0 0)).peer = -1 := rfl
        have hoe : ((Ob.mk (IntKind.i64.wrap (1 + (x : Int))) [] [] s (-1) noD (-1) 0 0)).entries = [] := rfl
        have hou : ((Ob.mk (IntKind.i64.wrap (1 + (x : Int))) [] [] s (-1) noD (-1) 0 0)).up = 0 := rfl
        generalize (Ob.mk (IntKind.i64.wrap (1 + (x : Int))) [] [] s (-1) noD (-1) 0 0) = o at ho hoz hop hoe hou
        have hbx : BYb b4 := by assumption
        generalize b4 = bx at hbx
        refine mk_ok l g (by omega) o ho hoz (.inl hop) hoe hou fun l' k g' hl' hll hk => ?_
        have hklt : k < l'.length := (List.getElem?_eq_some_iff.1 hk.1).1
        have hkp0 := hk.2.1
        have hfr := hk.2.2
        have hl40' := g'.len
        refine loop_keep (fun (a : StDir) => a.k ≤ l.length ∧ a.ds.length ≤ a.k ∧ (0 < a.k → a.ds ≠ [])) [2, 3, 4, 5, 6, 7, 8, 41, 42, 75, 76] (fun a => [(77, vInt .i64 (a.k : Nat)), (10, .rv (.one (.row 3 1 0 none)))]) (fun a => [.var z3, mk3 bx, .var (o.enc.map .dat), .row 1 (dRows (a.ds.map fun d : Int => [Dt.val (.int .i64 d)]))]) (fun a => l.length - a.k) ⟨0, []⟩ ⟨Nat.zero_le _, Nat.zero_le _, fun h => absurd h (Nat.lt_irrefl 0)⟩ ?_ (fun a ha => ?_)
        · refine View.trans (View.esl 10 1 3 rfl rfl rfl) (View.of 4 [0, 1, 2, 3] [] rfl rfl rfl rfl rfl rfl ?_ ?_)
          · repeat (first | exact .nil | refine .junk ?_ | refine .eq rfl ?_)
          · exact .put (notF rfl) rfl (.eq rfl (by simp)) (.put (notF rfl) rfl (.eq rfl (mk3_ne _)) (.put (notF rfl) rfl (.eq rfl (by simp)) (.put (notF rfl) rfl (.rowDE rfl) (.nil _))))
        obtain ⟨j, ds⟩ := a
        obtain ⟨hj, hdl, hdn⟩ := ha
        have hj : j ≤ l.length := hj
        have hdl : ds.length ≤ j := hdl
        have hdn : 0 < j → ds ≠ [] := hdn
        refine bB_dec (fun h => ?_) (fun h => ?_)
        · have hjlt : j < l.length := by
            have h : (j : Int) < ((l.map Ob.enc).length : Int) := h
            rw [List.length_map] at h
            omega
          have hk2 : j = 0 → l[j].kind = 2 := by
            intro h0
            subst h0
            obtain ⟨r, hr, hr2⟩ := g.root
            rw [List.getElem?_eq_getElem hjlt] at hr
            cases hr
            exact hr2
          refine ok_some (obj_getB hjlt) ?_
          refine bB_beq (fun h2 => ?_) (fun h2 => ?_)
          · refine ⟨by have e := dRows_len (ds.map fun d : Int => [Dt.val (.int .i64 d)]); simp only [List.length_map] at e; simp only [subL, List.length_cons, List.length_nil]; omega, ?_⟩
            refine ⟨⟨j + 1, ds ++ [(j : Int)]⟩, ⟨hjlt, by simp; omega, fun _ => by simp⟩, (show l.length - (j + 1) < l.length - j by omega), View.of 7 [0, 1, 2, 6] [] rfl rfl rfl rfl rfl rfl ?_ ?_⟩
            · repeat (first | exact .nil | refine .junk ?_ | refine .put (.ren (next_i64 (by omega)).symm) ?_ | refine .eq rfl ?_)
            · exact .put (notF rfl) rfl (.eq rfl (by simp)) (.put (notF rfl) rfl (.eq rfl (mk3_ne _)) (.put (notF rfl) rfl (.eq rfl (by simp)) (.put (notF rfl) rfl (.rowDE (by simp [subL, dRows])) (.nil _))))
          · refine ⟨⟨j + 1, ds⟩, ⟨hjlt, Nat.le_succ_of_le hdl, fun _ => hdn (Nat.pos_of_ne_zero fun h0 => h2 (hk2 h0))⟩, (show l.length - (j + 1) < l.length - j by omega), View.of 5 [0, 1, 2, 3] [] rfl rfl rfl rfl rfl rfl ?_ ?_⟩
            · repeat (first | exact .nil | refine .junk ?_ | refine .put (.ren (next_i64 (by omega)).symm) ?_ | refine .eq rfl ?_)
            · exact .put (notF rfl) rfl (.eq rfl (by simp)) (.put (notF rfl) rfl (.eq rfl (mk3_ne _)) (.put (notF rfl) rfl (.eq rfl (by simp)) (.put (notF rfl) rfl (.rowDE rfl) (.nil _))))
        · have hje : j = l.length := by
            have h : ¬ (j : Int) < ((l.map Ob.enc).length : Int) := h
            rw [List.length_map] at h
            omega
          have hl0 : 0 < l.length := by
            obtain ⟨r, hr, _⟩ := g.root
            exact (List.getElem?_eq_some_iff.1 hr).1
          have hd0 : 0 < ds.length := by
            have := hdn (by omega)
            cases ds with
            | nil => exact absurd rfl this
            | cons => simp
          refine pick_any bx hbx _ 1 rfl fun z1 b5 hb5 hz1 _ _ => ?_
          have hz1 : z1 < ds.length := by
            have e := dRows_len (ds.map fun d : Int => [Dt.val (.int .i64 d)])
            simp only [List.length_map] at e
            have hz1 : (1 : Int) ≤ (((dRows (ds.map fun d : Int => [Dt.val (.int .i64 d)])).length : Nat) : Int) → (z1 : Int) < (((dRows (ds.map fun d : Int => [Dt.val (.int .i64 d)])).length : Nat) : Int) := hz1
            rw [e] at hz1
            have := hz1 (by omega)
            omega
          refine ⟨trivial, ?_⟩
          have hidx : idxZ (z1 : Int) (lenOf (dRows (ds.map fun d : Int => [Dt.val (.int .i64 d)])).length 0 none) = some z1 := idxZ_nat (by show z1 < (dRows (ds.map fun d : Int => [Dt.val (.int .i64 d)])).length; rw [dRows_len, List.length_map]; exact hz1)
          have hnth : nth (dRows (ds.map fun d : Int => [Dt.val (.int .i64 d)])) z1 = some [.dat (.val (.int .i64 ds[z1]))] := dRows_nth' (fun d : Int => [Dt.val (.int .i64 d)]) ds hz1
          refine ok_some hidx ?_
          refine ok_some hnth ?_
          refine pick_any b5 hb5 4 1 rfl fun z2 b6 hb6 hz2 _ _ => ?_
          have hz2 := hz2 (by omega)
          refine ⟨⟨ok_some hnth rfl, ok_some hidx rfl, trivial⟩, ?_⟩
          obtain ⟨s, hs, hss⟩ := names4 z2 (by omega)
          refine ok_some hs ?_
          refine enter_okB l' g' _ s hss k (by omega) hfr fun y e hy => ?_
          refine ⟨trivial, ?_⟩
          refine bB_beq (fun he => ?_) (fun he => ?_)
          · obtain ⟨gy, hyl⟩ := hy he
            refine ⟨⟨i + 1, b6, y⟩, ⟨hlt, by assumption, by assumption, (show List.length y ≤ 1 + (i + 1) by omega)⟩, (show q - (i + 1) < q - i by omega), View.of 4 [0, 1] [] rfl rfl rfl rfl rfl rfl ?_ ?_⟩
            · repeat (first | exact .nil | refine .junk ?_ | refine .put (.ren (next_i64 (by omega)).symm) ?_ | refine .eq rfl ?_)
            · exact .put (notF rfl) rfl (.eq rfl (by simp)) (.put (notF rfl) rfl (.eq rfl (mk3_ne _)) (.nil _))
          · refine bB_beq (fun hkd => ?_) (fun hkd => ?_)
            · refine ok_some (obj_getB hklt) ?_
              have hsm := g'.sm _ (List.getElem_mem hklt)
              obtain ⟨g3, hl3⟩ := set_good g' hklt (o := { l'[k] with up := k }) ⟨hsm.t, hsm.d, hsm.e, hsm.q⟩ rfl (g'.pe l'[k] (List.getElem_mem hklt)) rfl (by rw [List.map_set]; exact g'.tr.setUp (tri_at hklt) (by omega) fun x hx e he => by obtain ⟨z, hz, rfl⟩ := List.mem_map.1 hx; exact hfr z hz e he)
              refine with_okB l' (by omega) k (by omega) { l'[k] with up := k } ?_
              refine ⟨⟨i + 1, b6, (withSB l' k { l'[k] with up := k })⟩, ⟨hlt, by assumption, by assumption, (show List.length (withSB l' k { l'[k] with up := k }) ≤ 1 + (i + 1) by omega)⟩, (show q - (i + 1) < q - i by omega), View.of 5 [0, 1] [] rfl rfl rfl rfl rfl rfl ?_ ?_⟩
              · repeat (first | exact .nil | refine .junk ?_ | refine .put (.ren (next_i64 (by omega)).symm) ?_ | refine .eq rfl ?_)
              · exact .put (notF rfl) rfl (.eq rfl (by simp)) (.put (notF rfl) rfl (.eq rfl (mk3_ne _)) (.nil _))
            · skip
              refine ⟨⟨i + 1, b6, l'⟩, ⟨hlt, by assumption, by assumption, (show List.length l' ≤ 1 + (i + 1) by omega)⟩, (show q - (i + 1) < q - i by omega), View.of 4 [0, 1] [] rfl rfl rfl rfl rfl rfl ?_ ?_⟩
              · repeat (first | exact .nil | refine .junk ?_ | refine .put (.ren (next_i64 (by omega)).symm) ?_ | refine .eq rfl ?_)
              · exact .put (notF rfl) rfl (.eq rfl (by simp)) (.put (notF rfl) rfl (.eq rfl (mk3_ne _)) (.nil _))
      · skip
        refine ghost_keep [2, 3, 4, 5, 6, 41, 42] [] [.var z3, mk3 b3, .var ((Ob.enc (Ob.mk (IntKind.i64.wrap (1 + (x : Int))) [] [] ⟨#[]⟩ (-1) noD (-1) 0 0)).map .dat)] (View.of 3 [0, 1, 2] [] rfl rfl rfl rfl rfl rfl ?_ ?_) ?_
        · repeat (first | exact .nil | refine .junk ?_ | refine .eq rfl ?_)
        · exact .put (notF rfl) rfl (.eq rfl (by simp)) (.put (notF rfl) rfl (.eq rfl (mk3_ne _)) (.put (notF rfl) rfl (CcsVp.var (.cons (.ren (.dat _)) (.cons (.frz (.esl 1)) (.cons (.frz (.esl 2)) (.cons (.ren (.dat _)) (.cons (.ren (.dat _)) (.cons (.frz .no) (.cons (.ren (.dat _)) (.cons (.ren (.dat _)) (.cons (.ren (.dat _)) .nil)))))))))) (.nil _)))
        have ho : (Ob.sm (Ob.mk (IntKind.i64.wrap (1 + (x : Int))) [] [] ⟨#[]⟩ (-1) noD (-1) 0 0)) := ⟨⟨⟨[], rfl⟩, ⟨[], rfl⟩⟩, by simp, by simp, rfl⟩
        have hoz : ((Ob.mk (IntKind.i64.wrap (1 + (x : Int))) [] [] ⟨#[]⟩ (-1) noD (-1) 0 0)).kind ≠ 0 := kind_ne x (hx (by omega))
        have hop : ((Ob.mk (IntKind.i64.wrap (1 + (x : Int))) [] [] ⟨#[]⟩ (-1) noD (-1) 0 0)).peer = -1 := rfl
        have hoe : ((Ob.mk (IntKind.i64.wrap (1 + (x : Int))) [] [] ⟨#[]⟩ (-1) noD (-1) 0 0)).entries = [] := rfl
        have hou : ((Ob.mk (IntKind.i64.wrap (1 + (x : Int))) [] [] ⟨#[]⟩ (-1) noD (-1) 0 0)).up = 0 := rfl
        generalize (Ob.mk (IntKind.i64.wrap (1 + (x : Int))) [] [] ⟨#[]⟩ (-1) noD (-1) 0 0) = o at ho hoz hop hoe hou
        have hbx : BYb b3 := by assumption
        generalize b3 = bx at hbx
        refine mk_ok l g (by omega) o ho hoz (.inl hop) hoe hou fun l' k g' hl' hll hk => ?_
        have hklt : k < l'.length := (List.getElem?_eq_some_iff.1 hk.1).1
        have hkp0 := hk.2.1
        have hfr := hk.2.2
        have hl40' := g'.len
        refine loop_keep (fun (a : StDir) => a.k ≤ l.length ∧ a.ds.length ≤ a.k ∧ (0 < a.k → a.ds ≠ [])) [2, 3, 4, 5, 6, 7, 8, 41, 42, 75, 76] (fun a => [(77, vInt .i64 (a.k : Nat)), (10, .rv (.one (.row 3 1 0 none)))]) (fun a => [.var z3, mk3 bx, .var (o.enc.map .dat), .row 1 (dRows (a.ds.map fun d : Int => [Dt.val (.int .i64 d)]))]) (fun a => l.length - a.k) ⟨0, []⟩ ⟨Nat.zero_le _, Nat.zero_le _, fun h => absurd h (Nat.lt_irrefl 0)⟩ ?_ (fun a ha => ?_)
        · refine View.trans (View.esl 10 1 3 rfl rfl rfl) (View.of 4 [0, 1, 2, 3] [] rfl rfl rfl rfl rfl rfl ?_ ?_)
          · repeat (first | exact .nil | refine .junk ?_ | refine .eq rfl ?_)
          · exact .put (notF rfl) rfl (.eq rfl (by simp)) (.put (notF rfl) rfl (.eq rfl (mk3_ne _)) (.put (notF rfl) rfl (.eq rfl (by simp)) (.put (notF rfl) rfl (.rowDE rfl) (.nil _))))
        obtain ⟨j, ds⟩ := a
        obtain ⟨hj, hdl, hdn⟩ := ha
        have hj : j ≤ l.length := hj
        have hdl : ds.length ≤ j := hdl
        have hdn : 0 < j → ds ≠ [] := hdn
        refine bB_dec (fun h => ?_) (fun h => ?_)
        · have hjlt : j < l.length := by
            have h : (j : Int) < ((l.map Ob.enc).length : Int) := h
            rw [List.length_map] at h
            omega
          have hk2 : j = 0 → l[j].kind = 2 := by
            intro h0
            subst h0
            obtain ⟨r, hr, hr2⟩ := g.root
            rw [List.getElem?_eq_getElem hjlt] at hr
            cases hr
            exact hr2
          refine ok_some (obj_getB hjlt) ?_
          refine bB_beq (fun h2 => ?_) (fun h2 => ?_)
          · refine ⟨by have e := dRows_len (ds.map fun d : Int => [Dt.val (.int .i64 d)]); simp only [List.length_map] at e; simp only [subL, List.length_cons, List.length_nil]; omega, ?_⟩
            refine ⟨⟨j + 1, ds ++ [(j : Int)]⟩, ⟨hjlt, by simp; omega, fun _ => by simp⟩, (show l.length - (j + 1) < l.length - j by omega), View.of 7 [0, 1, 2, 6] [] rfl rfl rfl rfl rfl rfl ?_ ?_⟩
            · repeat (first | exact .nil | refine .junk ?_ | refine .put (.ren (next_i64 (by omega)).symm) ?_ | refine .eq rfl ?_)
            · exact .put (notF rfl) rfl (.eq rfl (by simp)) (.put (notF rfl) rfl (.eq rfl (mk3_ne _)) (.put (notF rfl) rfl (.eq rfl (by simp)) (.put (notF rfl) rfl (.rowDE (by simp [subL, dRows])) (.nil _))))
          · refine ⟨⟨j + 1, ds⟩, ⟨hjlt, Nat.le_succ_of_le hdl, fun _ => hdn (Nat.pos_of_ne_zero fun h0 => h2 (hk2 h0))⟩, (show l.length - (j + 1) < l.length - j by omega), View.of 5 [0, 1, 2, 3] [] rfl rfl rfl rfl rfl rfl ?_ ?_⟩
            · repeat (first | exact .nil | refine .junk ?_ | refine .put (.ren (next_i64 (by omega)).symm) ?_ | refine .eq rfl ?_)
            · exact .put (notF rfl) rfl (.eq rfl (by simp)) (.put (notF rfl) rfl (.eq rfl (mk3_ne _)) (.put (notF rfl) rfl (.eq rfl (by simp)) (.put (notF rfl) rfl (.rowDE rfl) (.nil _))))
        · have hje : j = l.length := by
            have h : ¬ (j : Int) < ((l.map Ob.enc).length : Int) := h
            rw [List.length_map] at h
            omega
          have hl0 : 0 < l.length := by
            obtain ⟨r, hr, _⟩ := g.root
            exact (List.getElem?_eq_some_iff.1 hr).1
          have hd0 : 0 < ds.length := by
            have := hdn (by omega)
            cases ds with
            | nil => exact absurd rfl this
            | cons => simp
          refine pick_any bx hbx _ 1 rfl fun z1 b5 hb5 hz1 _ _ => ?_
          have hz1 : z1 < ds.length := by
            have e := dRows_len (ds.map fun d : Int => [Dt.val (.int .i64 d)])
            simp only [List.length_map] at e
            have hz1 : (1 : Int) ≤ (((dRows (ds.map fun d : Int => [Dt.val (.int .i64 d)])).length : Nat) : Int) → (z1 : Int) < (((dRows (ds.map fun d : Int => [Dt.val (.int .i64 d)])).length : Nat) : Int) := hz1
            rw [e] at hz1
            have := hz1 (by omega)
            omega
          refine ⟨trivial, ?_⟩
          have hidx : idxZ (z1 : Int) (lenOf (dRows (ds.map fun d : Int => [Dt.val (.int .i64 d)])).length 0 none) = some z1 := idxZ_nat (by show z1 < (dRows (ds.map fun d : Int => [Dt.val (.int .i64 d)])).length; rw [dRows_len, List.length_map]; exact hz1)
          have hnth : nth (dRows (ds.map fun d : Int => [Dt.val (.int .i64 d)])) z1 = some [.dat (.val (.int .i64 ds[z1]))] := dRows_nth' (fun d : Int => [Dt.val (.int .i64 d)]) ds hz1
          refine ok_some hidx ?_
          refine ok_some hnth ?_
          refine pick_any b5 hb5 4 1 rfl fun z2 b6 hb6 hz2 _ _ => ?_
          have hz2 := hz2 (by omega)
          refine ⟨⟨ok_some hnth rfl, ok_some hidx rfl, trivial⟩, ?_⟩
          obtain ⟨s, hs, hss⟩ := names4 z2 (by omega)
          refine ok_some hs ?_
          refine enter_okB l' g' _ s hss k (by omega) hfr fun y e hy => ?_
          refine ⟨trivial, ?_⟩
          refine bB_beq (fun he => ?_) (fun he => ?_)
          · obtain ⟨gy, hyl⟩ := hy he
            refine ⟨⟨i + 1, b6, y⟩, ⟨hlt, by assumption, by assumption, (show List.length y ≤ 1 + (i + 1) by omega)⟩, (show q - (i + 1) < q - i by omega), View.of 4 [0, 1] [] rfl rfl rfl rfl rfl rfl ?_ ?_⟩
            · repeat (first | exact .nil | refine .junk ?_ | refine .put (.ren (next_i64 (by omega)).symm) ?_ | refine .eq rfl ?_)
            · exact .put (notF rfl) rfl (.eq rfl (by simp)) (.put (notF rfl) rfl (.eq rfl (mk3_ne _)) (.nil _))
          · refine bB_beq (fun hkd => ?_) (fun hkd => ?_)
            · refine ok_some (obj_getB hklt) ?_
              have hsm := g'.sm _ (List.getElem_mem hklt)
              obtain ⟨g3, hl3⟩ := set_good g' hklt (o := { l'[k] with up := k }) ⟨hsm.t, hsm.d, hsm.e, hsm.q⟩ rfl (g'.pe l'[k] (List.getElem_mem hklt)) rfl (by rw [List.map_set]; exact g'.tr.setUp (tri_at hklt) (by omega) fun x hx e he => by obtain ⟨z, hz, rfl⟩ := List.mem_map.1 hx; exact hfr z hz e he)
              refine with_okB l' (by omega) k (by omega) { l'[k] with up := k } ?_
              refine ⟨⟨i + 1, b6, (withSB l' k { l'[k] with up := k })⟩, ⟨hlt, by assumption, by assumption, (show List.length (withSB l' k { l'[k] with up := k }) ≤ 1 + (i + 1) by omega)⟩, (show q - (i + 1) < q - i by omega), View.of 5 [0, 1] [] rfl rfl rfl rfl rfl rfl ?_ ?_⟩
              · repeat (first | exact .nil | refine .junk ?_ | refine .put (.ren (next_i64 (by omega)).symm) ?_ | refine .eq rfl ?_)
              · exact .put (notF rfl) rfl (.eq rfl (by simp)) (.put (notF rfl) rfl (.eq rfl (mk3_ne _)) (.nil _))
            · skip
              refine ⟨⟨i + 1, b6, l'⟩, ⟨hlt, by assumption, by assumption, (show List.length l' ≤ 1 + (i + 1) by omega)⟩, (show q - (i + 1) < q - i by omega), View.of 4 [0, 1] [] rfl rfl rfl rfl rfl rfl ?_ ?_⟩
              · repeat (first | exact .nil | refine .junk ?_ | refine .put (.ren (next_i64 (by omega)).symm) ?_ | refine .eq rfl ?_)
              · exact .put (notF rfl) rfl (.eq rfl (by simp)) (.put (notF rfl) rfl (.eq rfl (mk3_ne _)) (.nil _))
  · refine ghost_keep [2, 3, 4] [] [.var z3, mk3 b2] (View.of 2 [0, 1] [] rfl rfl rfl rfl rfl rfl ?_ ?_) ?_
    · repeat (first | exact .nil | refine .junk ?_ | refine .eq rfl ?_)
    · exact .put (notF rfl) rfl (.eq rfl (by simp)) (.put (notF rfl) rfl (.eq rfl (mk3_ne _)) (.nil _))
    exact seg126 b2 hb2 l g (by omega)
set_option maxRecDepth 100000 in
theorem build_ok (b : List Int) (hb : BYb b) {m : Mem} {K : CV → Mem → Prop} (h : ∀ l op ps, GoodK l op ps → K (kernV l op ps) m) : ACall Try.prog 4 [.rv (.one (.dat (.sl 1 (byD b))))] m K := by
  refine acall_frame (K0 := fun r m => (∃ l op ps, GoodK l op ps ∧ r = kernV l op ps) ∧ m = []) (acall_view (acall_body_g Try.func4 l4 rfl (Nat.le_of_ble_eq_true rfl) (build_body b hb)) fun r m1 ⟨r', m', hv, hp, hm⟩ => ⟨r', m', hv, hp, hm⟩) (by simp [CV.isD, CC.isD, RV.isD]) fun r m1 hr => ?_
  obtain ⟨⟨l, op, ps, hk, rfl⟩, rfl⟩ := hr
  exact ⟨_, FrzV.self rfl, h l op ps hk⟩


end Go.Proofs.Ytbemknkbegkflaa
