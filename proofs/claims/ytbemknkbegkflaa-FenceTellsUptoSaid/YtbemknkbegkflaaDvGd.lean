import Derived.Test.YtbemknkbegkflaaAmZ2
import Derived.Test.YtbemknkbegkflaaDvGc
import Derived.Test.YtbemknkbegkflaaAmY
set_option linter.unusedVariables false
set_option linter.unusedSimpArgs false
namespace Go.Proofs.Ytbemknkbegkflaa
open Go.AM Go.ChangeShapes Go.WideShapes Go.ChangeAt Go.RowKit
/-! Build: the processes -/
theorem rts6 (z : Nat) (h : z < 6) : ∃ v : Int, nth [[CC.dat (.val (.int .i64 4095))], [.dat (.val (.int .i64 255))], [.dat (.val (.int .i64 1))], [.dat (.val (.int .i64 768))], [.dat (.val (.int .i64 3072))], [.dat (.val (.int .i64 9))]] z = some [.dat (.val (.int .i64 v))] := by
  match z, h with
  | 0, _ => exact ⟨_, rfl⟩
  | 1, _ => exact ⟨_, rfl⟩
  | 2, _ => exact ⟨_, rfl⟩
  | 3, _ => exact ⟨_, rfl⟩
  | 4, _ => exact ⟨_, rfl⟩
  | 5, _ => exact ⟨_, rfl⟩
theorem dRows_len (ds : List (List Dt)) : (dRows ds).length = ds.length := by simp [dRows]
theorem dRows_ren (σ : Nat → Nat) (ds : List (List Dt)) : (dRows ds).map (fun cs => cs.map (CC.ren σ)) = dRows ds := by
  simp [dRows, Function.comp_def, CC.ren]
theorem snocP {σ : Nat → Nat} {m : Mem} {Z : Nat → Prop} {id : Nat} (l : List Prc) (p : Prc) {c : CC} {X : List (List CC)} (hc : VwC σ m Z (some id) c (.dat (sl3D p.slots)))
    (hX : X = dRows (l.map Prc.enc) ++ [[.dat (.val (.bool p.live)), .dat (.val (.bool p.fenced)), .dat (.val (.int .i64 p.code)), c]]) : VwB σ m Z id (.row 4 X) (.row 4 (dRows ((l ++ [p]).map Prc.enc))) := by
  subst hX
  have e : dRows ((l ++ [p]).map Prc.enc) = dRows (l.map Prc.enc) ++ [p.enc.map .dat] := by simp [dRows]
  rw [e]
  refine .snoc (dRows_ren σ _) rfl fun j c1 c2 h1 h2 => ?_
  match j, h1, h2 with
  | 0, h1, h2 => cases h1; cases h2; exact .ren (.dat _)
  | 1, h1, h2 => cases h1; cases h2; exact .ren (.dat _)
  | 2, h1, h2 => cases h1; cases h2; exact .ren (.dat _)
  | 3, h1, h2 => cases h1; cases h2; exact hc
  | n + 4, h1, h2 => simp at h1
structure StIn where
  j : Nat
  b : List Int
  sl : List Sl3
structure StPr where
  p : Nat
  b : List Int
  ps : List Prc
set_option maxRecDepth 100000 in
set_option maxHeartbeats 32000000 in
theorem seg184 (b : List Int) (hb : BYb b) (l : List Ob) (g : GoodN l) (ops : List Opn) (hops : ops.length ≤ 100 ∧ ∀ o, o ∈ ops → 0 ≤ o.obj ∧ o.obj < l.length) (n : Nat) (hn1 : 1 ≤ n) (hn3 : n ≤ 3) :
    aw Try.prog 0 (unG (fstS R184)) (seqK (aw Try.prog 0 R247) EK) ⟨mkE 299 [(2, .rv (.one (.ptr 0 0))), (3, .rv (.one (.ptr 1 0))), (19, .rv (.one (.ptr 2 0))), (20, vInt .i64 (n : Nat))], [.var z3, mk3 b, .var [.dat (obsD l), .dat (opnD ops), .esl]]⟩ := by
  have hslots : ∀ (ps : List Prc) (sl : List Sl3), SlOK sl → ∀ (L F : Bool) (c : Int), (∀ x, x ∈ ps → SlOK x.slots) → ∀ x, x ∈ ps ++ [⟨L, F, c, sl⟩] → SlOK x.slots := by
    intro ps sl h L F c h2 x hx
    rcases List.mem_append.1 hx with hx | hx
    · exact h2 x hx
    · simp at hx; subst hx; exact h
  refine loop_keep (fun (a : StPr) => a.p ≤ n ∧ BYb a.b ∧ a.ps.length = a.p ∧ (∀ x, x ∈ a.ps → SlOK x.slots) ∧ (0 < a.p → ∃ q, a.ps[0]? = some q ∧ q.live = true)) [2, 3, 19, 20, 184] (fun a => [(185, vInt .i64 (a.p : Nat))])
    (fun a => match a.ps with
      | [] => [.var z3, mk3 a.b, .var [.dat (obsD l), .dat (opnD ops), .esl]]
      | x :: r => [.var z3, mk3 a.b, .var [.dat (obsD l), .dat (opnD ops), .row 3 4 0 none], .row 4 (dRows ((x :: r).map Prc.enc))]) (fun a => n - a.p) ⟨0, b, []⟩ ⟨Nat.zero_le _, hb, rfl, by simp, fun h => absurd h (Nat.lt_irrefl 0)⟩ ?_ (fun a ha => ?_)
  · refine View.of 3 [0, 1, 2] [] rfl rfl rfl rfl rfl rfl ?_ ?_
    · repeat (first | exact .nil | refine .junk ?_ | refine .eq rfl ?_)
    · exact .put (notF rfl) rfl (.eq rfl (by simp)) (.put (notF rfl) rfl (.eq rfl (mk3_ne _)) (.put (notF rfl) rfl (.eq rfl (by simp)) (.nil _)))
  obtain ⟨p, b1, ps⟩ := a
  obtain ⟨hp, hb1, hpl, hps, hfst⟩ := ha
  have hp : p ≤ n := hp
  have hb1 : BYb b1 := hb1
  have hpl : ps.length = p := hpl
  have hps : ∀ x, x ∈ ps → SlOK x.slots := hps
  have hfst : 0 < p → ∃ q, ps[0]? = some q ∧ q.live = true := hfst
  cases ps with
  | nil =>
    have hp0 : p = 0 := by simpa using hpl.symm
    subst hp0
    refine bB_yes (decide_eq_true (show ((0 : Nat) : Int) < (n : Int) by omega)) ?_
    have hplt : 0 < n := by omega
    refine pick_any b1 hb1 2 1 rfl fun fy b2 hb2 _ _ _ => ?_
    refine pick_any b2 hb2 5 1 rfl fun q b3 hb3 _ _ _ => ?_
    refine loop_keep (fun (a : StIn) => a.j ≤ q ∧ BYb a.b ∧ SlOK a.sl) [2, 3, 19, 20, 26, 27, 184, 185, 200] (fun a => [(201, vInt .i64 (a.j : Nat))]) (fun a => [.var z3, mk3 a.b, .var [.dat (obsD l), .dat (opnD ops), .esl], .var [.dat (.val (.bool true)), .dat (.val (.bool ((((fy : Nat) : Int)) == 1))), .dat (.val (.int .i64 0)), .dat (sl3D a.sl)]]) (fun a => q - a.j) ⟨0, b3, []⟩ ⟨Nat.zero_le _, by assumption, SlOK.nil⟩ ?_ (fun a ha => ?_)
    · refine View.of 4 [0, 1, 2, 3] [] rfl rfl rfl rfl rfl rfl ?_ ?_
      · repeat (first | exact .nil | refine .junk ?_ | refine .eq rfl ?_)
      · exact .put (notF rfl) rfl (.eq rfl (by simp)) (.put (notF rfl) rfl (.eq rfl (mk3_ne _)) (.put (notF rfl) rfl (.eq rfl (by simp)) (.put (notF rfl) rfl (CcsVp.var (.cons (.ren (.dat _)) (.cons (.ren (.dat _)) (.cons (.ren (.dat _)) (.cons (.frz (.esl 3)) .nil))))) (.nil _))))
    obtain ⟨j, bj, sl⟩ := a
    obtain ⟨hj, hbj, hsl⟩ := ha
    have hj : j ≤ q := hj
    have hbj : BYb bj := hbj
    have hsl : SlOK sl := hsl
    refine bB_dec (fun hjl => ?_) (fun hjl => ?_)
    · have hjlt : j < q := by
        have h : (j : Int) < (q : Int) := hjl
        omega
      refine bB_dec (fun hn => ?_) (fun hn => ?_)
      · skip
        refine ⟨?_, ?_⟩
        · refine pick_any bj hbj _ 1 rfl fun w bw hbw _ _ _ => ?_
          refine ⟨⟨rfl, trivial⟩, ?_⟩
          refine ⟨?_, ?_⟩
          · refine ⟨⟨rfl, rfl, rfl, trivial⟩, ?_⟩
            refine pick_any bw hbw 6 1 rfl fun z bz hbz hz _ _ => ?_
            have hz := hz (by omega)
            refine ⟨⟨rfl, trivial⟩, ?_⟩
            refine ok_some (idxZ_nat (k := z) (by simp [lenOf]; omega)) ?_
            obtain ⟨v, hv⟩ := rts6 z (by omega)
            refine ok_some hv ?_
            refine rput_ok sl hsl _ v fun y fd e hy => ?_
            refine ⟨trivial, ?_⟩
            refine bB_beq (fun he => ?_) (fun he => ?_)
            · subst he
              refine ⟨⟨j + 1, bz, y⟩, ⟨hjlt, by assumption, by first | assumption | exact hy rfl | omega⟩, (show q - (j + 1) < q - j by omega), View.of 5 [0, 1, 2, 3] [] rfl rfl rfl rfl rfl rfl ?_ ?_⟩
              · repeat (first | exact .nil | refine .junk ?_ | refine .put (.ren (next_i64 (by omega)).symm) ?_ | refine .eq rfl ?_)
              · exact .put (notF rfl) rfl (.eq rfl (by simp)) (.put (notF rfl) rfl (.eq rfl (mk3_ne _)) (.put (notF rfl) rfl (.eq rfl (by simp)) (.put (notF rfl) rfl (.eq rfl (by simp)) (.nil _))))
            · skip
              refine ⟨⟨j + 1, bz, sl⟩, ⟨hjlt, by assumption, by first | assumption | exact hy rfl | omega⟩, (show q - (j + 1) < q - j by omega), View.of 5 [0, 1, 2, 3] [] rfl rfl rfl rfl rfl rfl ?_ ?_⟩
              · repeat (first | exact .nil | refine .junk ?_ | refine .put (.ren (next_i64 (by omega)).symm) ?_ | refine .eq rfl ?_)
              · exact .put (notF rfl) rfl (.eq rfl (by simp)) (.put (notF rfl) rfl (.eq rfl (mk3_ne _)) (.put (notF rfl) rfl (.eq rfl (by simp)) (.put (notF rfl) rfl (.eq rfl (by simp)) (.nil _))))
          · skip
            refine pick_any bw hbw 6 1 rfl fun z bz hbz hz _ _ => ?_
            have hz := hz (by omega)
            refine ⟨⟨rfl, trivial⟩, ?_⟩
            refine ⟨⟨rfl, rfl, rfl, trivial⟩, ?_⟩
            refine ok_some (idxZ_nat (k := z) (by simp [lenOf]; omega)) ?_
            obtain ⟨v, hv⟩ := rts6 z (by omega)
            refine ok_some hv ?_
            refine rput_ok sl hsl _ v fun y fd e hy => ?_
            refine ⟨trivial, ?_⟩
            refine bB_beq (fun he => ?_) (fun he => ?_)
            · subst he
              refine ⟨⟨j + 1, bz, y⟩, ⟨hjlt, by assumption, by first | assumption | exact hy rfl | omega⟩, (show q - (j + 1) < q - j by omega), View.of 5 [0, 1, 2, 3] [] rfl rfl rfl rfl rfl rfl ?_ ?_⟩
              · repeat (first | exact .nil | refine .junk ?_ | refine .put (.ren (next_i64 (by omega)).symm) ?_ | refine .eq rfl ?_)
              · exact .put (notF rfl) rfl (.eq rfl (by simp)) (.put (notF rfl) rfl (.eq rfl (mk3_ne _)) (.put (notF rfl) rfl (.eq rfl (by simp)) (.put (notF rfl) rfl (.eq rfl (by simp)) (.nil _))))
            · skip
              refine ⟨⟨j + 1, bz, sl⟩, ⟨hjlt, by assumption, by first | assumption | exact hy rfl | omega⟩, (show q - (j + 1) < q - j by omega), View.of 5 [0, 1, 2, 3] [] rfl rfl rfl rfl rfl rfl ?_ ?_⟩
              · repeat (first | exact .nil | refine .junk ?_ | refine .put (.ren (next_i64 (by omega)).symm) ?_ | refine .eq rfl ?_)
              · exact .put (notF rfl) rfl (.eq rfl (by simp)) (.put (notF rfl) rfl (.eq rfl (mk3_ne _)) (.put (notF rfl) rfl (.eq rfl (by simp)) (.put (notF rfl) rfl (.eq rfl (by simp)) (.nil _))))
        · refine ⟨⟨rfl, rfl, rfl, trivial⟩, ?_⟩
          refine pick_any bj hbj _ 1 rfl fun w bw hbw _ _ _ => ?_
          refine ⟨⟨rfl, trivial⟩, ?_⟩
          refine pick_any bw hbw 6 1 rfl fun z bz hbz hz _ _ => ?_
          have hz := hz (by omega)
          refine ⟨⟨rfl, trivial⟩, ?_⟩
          refine ok_some (idxZ_nat (k := z) (by simp [lenOf]; omega)) ?_
          obtain ⟨v, hv⟩ := rts6 z (by omega)
          refine ok_some hv ?_
          refine rput_ok sl hsl _ v fun y fd e hy => ?_
          refine ⟨trivial, ?_⟩
          refine bB_beq (fun he => ?_) (fun he => ?_)
          · subst he
            refine ⟨⟨j + 1, bz, y⟩, ⟨hjlt, by assumption, by first | assumption | exact hy rfl | omega⟩, (show q - (j + 1) < q - j by omega), View.of 5 [0, 1, 2, 3] [] rfl rfl rfl rfl rfl rfl ?_ ?_⟩
            · repeat (first | exact .nil | refine .junk ?_ | refine .put (.ren (next_i64 (by omega)).symm) ?_ | refine .eq rfl ?_)
            · exact .put (notF rfl) rfl (.eq rfl (by simp)) (.put (notF rfl) rfl (.eq rfl (mk3_ne _)) (.put (notF rfl) rfl (.eq rfl (by simp)) (.put (notF rfl) rfl (.eq rfl (by simp)) (.nil _))))
          · skip
            refine ⟨⟨j + 1, bz, sl⟩, ⟨hjlt, by assumption, by first | assumption | exact hy rfl | omega⟩, (show q - (j + 1) < q - j by omega), View.of 5 [0, 1, 2, 3] [] rfl rfl rfl rfl rfl rfl ?_ ?_⟩
            · repeat (first | exact .nil | refine .junk ?_ | refine .put (.ren (next_i64 (by omega)).symm) ?_ | refine .eq rfl ?_)
            · exact .put (notF rfl) rfl (.eq rfl (by simp)) (.put (notF rfl) rfl (.eq rfl (mk3_ne _)) (.put (notF rfl) rfl (.eq rfl (by simp)) (.put (notF rfl) rfl (.eq rfl (by simp)) (.nil _))))
      · skip
        refine ⟨⟨j + 1, bj, sl⟩, ⟨hjlt, by assumption, by first | assumption | exact hy rfl | omega⟩, (show q - (j + 1) < q - j by omega), View.of 4 [0, 1, 2, 3] [] rfl rfl rfl rfl rfl rfl ?_ ?_⟩
        · repeat (first | exact .nil | refine .junk ?_ | refine .put (.ren (next_i64 (by omega)).symm) ?_ | refine .eq rfl ?_)
        · exact .put (notF rfl) rfl (.eq rfl (by simp)) (.put (notF rfl) rfl (.eq rfl (mk3_ne _)) (.put (notF rfl) rfl (.eq rfl (by simp)) (.put (notF rfl) rfl (.eq rfl (by simp)) (.nil _))))
    · skip
      refine ⟨by simp [subL] <;> omega, ?_⟩
      refine ⟨⟨0 + 1, bj, ([⟨true, ((((fy : Nat) : Int)) == 1), 0, sl⟩])⟩, ⟨hplt, by assumption, by simp at hpl ⊢ <;> omega, hslots [] sl hsl _ _ _ hps, fun _ => ⟨_, rfl, rfl⟩⟩, (show n - (0 + 1) < n - 0 by omega), View.of 6 [0, 1, 2, 5] [] rfl rfl rfl rfl rfl rfl ?_ ?_⟩
      · repeat (first | exact .nil | refine .junk ?_ | refine .put (.ren (next_i64 (by omega)).symm) ?_ | refine .eq rfl ?_)
      · exact .put (notF rfl) rfl (.eq rfl (by simp)) (.put (notF rfl) rfl (.eq rfl (mk3_ne _)) (.put (notF rfl) rfl (.eq rfl (by simp)) (.put (notF rfl) rfl (snocP [] ⟨true, ((((fy : Nat) : Int)) == 1), 0, sl⟩ (.ren (.dat _)) (by simp [subL, dRows, CC.ren])) (.nil _))))
  | cons x r =>
    refine bB_dec (fun h => ?_) (fun h => ?_)
    · have hplt : p < n := by
        have h : (p : Int) < (n : Int) := h
        omega
      have hp1 : 0 < p := by simp at hpl; omega
      have hfn : ∀ y : Prc, (0 < p + 1 → ∃ q, (x :: r ++ [y])[0]? = some q ∧ q.live = true) := fun y _ => by
        obtain ⟨q, h1, h2⟩ := hfst hp1
        exact ⟨q, by simpa using h1, h2⟩
      refine bB_no (t := (((p : Nat) : Int) == 0)) (by rw [beq_eq_false_iff_ne]; omega) ?_
      refine pick_any b1 hb1 5 1 rfl fun lx b2 hb2 _ _ _ => ?_
      refine pick_any b2 hb2 2 1 rfl fun fy b3 hb3 _ _ _ => ?_
      refine pick_any b3 hb3 5 1 rfl fun q b4 hb4 _ _ _ => ?_
      refine loop_keep (fun (a : StIn) => a.j ≤ q ∧ BYb a.b ∧ SlOK a.sl) [2, 3, 19, 20, 26, 27, 184, 185, 200] (fun a => [(201, vInt .i64 (a.j : Nat))]) (fun a => [.var z3, mk3 a.b, .var [.dat (obsD l), .dat (opnD ops), .row 3 4 0 none], .row 4 (dRows ((x :: r).map Prc.enc)), .var [.dat (.val (.bool (decide ((((lx : Nat) : Int)) > 0)))), .dat (.val (.bool ((((fy : Nat) : Int)) == 1))), .dat (.val (.int .i64 0)), .dat (sl3D a.sl)]]) (fun a => q - a.j) ⟨0, b4, []⟩ ⟨Nat.zero_le _, by assumption, SlOK.nil⟩ ?_ (fun a ha => ?_)
      · refine View.of 5 [0, 1, 2, 3, 4] [] rfl rfl rfl rfl rfl rfl ?_ ?_
        · repeat (first | exact .nil | refine .junk ?_ | refine .eq rfl ?_)
        · exact .put (notF rfl) rfl (.eq rfl (by simp)) (.put (notF rfl) rfl (.eq rfl (mk3_ne _)) (.put (notF rfl) rfl (.eq rfl (by simp)) (.put (notF rfl) rfl (.rowDE rfl) (.put (notF rfl) rfl (CcsVp.var (.cons (.ren (.dat _)) (.cons (.ren (.dat _)) (.cons (.ren (.dat _)) (.cons (.frz (.esl 3)) .nil))))) (.nil _)))))
      obtain ⟨j, bj, sl⟩ := a
      obtain ⟨hj, hbj, hsl⟩ := ha
      have hj : j ≤ q := hj
      have hbj : BYb bj := hbj
      have hsl : SlOK sl := hsl
      refine bB_dec (fun hjl => ?_) (fun hjl => ?_)
      · have hjlt : j < q := by
          have h : (j : Int) < (q : Int) := hjl
          omega
        refine bB_dec (fun hn => ?_) (fun hn => ?_)
        · skip
          refine bB_split (fun _ => ?_) (fun _ => ?_)
          · skip
            refine ⟨?_, ?_⟩
            · refine pick_any bj hbj _ 1 rfl fun w bw hbw _ _ _ => ?_
              refine ⟨⟨rfl, trivial⟩, ?_⟩
              refine ⟨?_, ?_⟩
              · refine ⟨⟨rfl, rfl, rfl, trivial⟩, ?_⟩
                refine pick_any bw hbw 6 1 rfl fun z bz hbz hz _ _ => ?_
                have hz := hz (by omega)
                refine ⟨⟨rfl, trivial⟩, ?_⟩
                refine ok_some (idxZ_nat (k := z) (by simp [lenOf]; omega)) ?_
                obtain ⟨v, hv⟩ := rts6 z (by omega)
                refine ok_some hv ?_
                refine rput_ok sl hsl _ v fun y fd e hy => ?_
                refine ⟨trivial, ?_⟩
                refine bB_beq (fun he => ?_) (fun he => ?_)
                · subst he
                  refine ⟨⟨j + 1, bz, y⟩, ⟨hjlt, by assumption, by first | assumption | exact hy rfl | omega⟩, (show q - (j + 1) < q - j by omega), View.of 6 [0, 1, 2, 3, 4] [] rfl rfl rfl rfl rfl rfl ?_ ?_⟩
                  · repeat (first | exact .nil | refine .junk ?_ | refine .put (.ren (next_i64 (by omega)).symm) ?_ | refine .eq rfl ?_)
                  · exact .put (notF rfl) rfl (.eq rfl (by simp)) (.put (notF rfl) rfl (.eq rfl (mk3_ne _)) (.put (notF rfl) rfl (.eq rfl (by simp)) (.put (notF rfl) rfl (.rowDE rfl) (.put (notF rfl) rfl (.eq rfl (by simp)) (.nil _)))))
                · skip
                  refine ⟨⟨j + 1, bz, sl⟩, ⟨hjlt, by assumption, by first | assumption | exact hy rfl | omega⟩, (show q - (j + 1) < q - j by omega), View.of 6 [0, 1, 2, 3, 4] [] rfl rfl rfl rfl rfl rfl ?_ ?_⟩
                  · repeat (first | exact .nil | refine .junk ?_ | refine .put (.ren (next_i64 (by omega)).symm) ?_ | refine .eq rfl ?_)
                  · exact .put (notF rfl) rfl (.eq rfl (by simp)) (.put (notF rfl) rfl (.eq rfl (mk3_ne _)) (.put (notF rfl) rfl (.eq rfl (by simp)) (.put (notF rfl) rfl (.rowDE rfl) (.put (notF rfl) rfl (.eq rfl (by simp)) (.nil _)))))
              · skip
                refine pick_any bw hbw 6 1 rfl fun z bz hbz hz _ _ => ?_
                have hz := hz (by omega)
                refine ⟨⟨rfl, trivial⟩, ?_⟩
                refine ⟨⟨rfl, rfl, rfl, trivial⟩, ?_⟩
                refine ok_some (idxZ_nat (k := z) (by simp [lenOf]; omega)) ?_
                obtain ⟨v, hv⟩ := rts6 z (by omega)
                refine ok_some hv ?_
                refine rput_ok sl hsl _ v fun y fd e hy => ?_
                refine ⟨trivial, ?_⟩
                refine bB_beq (fun he => ?_) (fun he => ?_)
                · subst he
                  refine ⟨⟨j + 1, bz, y⟩, ⟨hjlt, by assumption, by first | assumption | exact hy rfl | omega⟩, (show q - (j + 1) < q - j by omega), View.of 6 [0, 1, 2, 3, 4] [] rfl rfl rfl rfl rfl rfl ?_ ?_⟩
                  · repeat (first | exact .nil | refine .junk ?_ | refine .put (.ren (next_i64 (by omega)).symm) ?_ | refine .eq rfl ?_)
                  · exact .put (notF rfl) rfl (.eq rfl (by simp)) (.put (notF rfl) rfl (.eq rfl (mk3_ne _)) (.put (notF rfl) rfl (.eq rfl (by simp)) (.put (notF rfl) rfl (.rowDE rfl) (.put (notF rfl) rfl (.eq rfl (by simp)) (.nil _)))))
                · skip
                  refine ⟨⟨j + 1, bz, sl⟩, ⟨hjlt, by assumption, by first | assumption | exact hy rfl | omega⟩, (show q - (j + 1) < q - j by omega), View.of 6 [0, 1, 2, 3, 4] [] rfl rfl rfl rfl rfl rfl ?_ ?_⟩
                  · repeat (first | exact .nil | refine .junk ?_ | refine .put (.ren (next_i64 (by omega)).symm) ?_ | refine .eq rfl ?_)
                  · exact .put (notF rfl) rfl (.eq rfl (by simp)) (.put (notF rfl) rfl (.eq rfl (mk3_ne _)) (.put (notF rfl) rfl (.eq rfl (by simp)) (.put (notF rfl) rfl (.rowDE rfl) (.put (notF rfl) rfl (.eq rfl (by simp)) (.nil _)))))
            · refine ⟨⟨rfl, rfl, rfl, trivial⟩, ?_⟩
              refine pick_any bj hbj _ 1 rfl fun w bw hbw _ _ _ => ?_
              refine ⟨⟨rfl, trivial⟩, ?_⟩
              refine pick_any bw hbw 6 1 rfl fun z bz hbz hz _ _ => ?_
              have hz := hz (by omega)
              refine ⟨⟨rfl, trivial⟩, ?_⟩
              refine ok_some (idxZ_nat (k := z) (by simp [lenOf]; omega)) ?_
              obtain ⟨v, hv⟩ := rts6 z (by omega)
              refine ok_some hv ?_
              refine rput_ok sl hsl _ v fun y fd e hy => ?_
              refine ⟨trivial, ?_⟩
              refine bB_beq (fun he => ?_) (fun he => ?_)
              · subst he
                refine ⟨⟨j + 1, bz, y⟩, ⟨hjlt, by assumption, by first | assumption | exact hy rfl | omega⟩, (show q - (j + 1) < q - j by omega), View.of 6 [0, 1, 2, 3, 4] [] rfl rfl rfl rfl rfl rfl ?_ ?_⟩
                · repeat (first | exact .nil | refine .junk ?_ | refine .put (.ren (next_i64 (by omega)).symm) ?_ | refine .eq rfl ?_)
                · exact .put (notF rfl) rfl (.eq rfl (by simp)) (.put (notF rfl) rfl (.eq rfl (mk3_ne _)) (.put (notF rfl) rfl (.eq rfl (by simp)) (.put (notF rfl) rfl (.rowDE rfl) (.put (notF rfl) rfl (.eq rfl (by simp)) (.nil _)))))
              · skip
                refine ⟨⟨j + 1, bz, sl⟩, ⟨hjlt, by assumption, by first | assumption | exact hy rfl | omega⟩, (show q - (j + 1) < q - j by omega), View.of 6 [0, 1, 2, 3, 4] [] rfl rfl rfl rfl rfl rfl ?_ ?_⟩
                · repeat (first | exact .nil | refine .junk ?_ | refine .put (.ren (next_i64 (by omega)).symm) ?_ | refine .eq rfl ?_)
                · exact .put (notF rfl) rfl (.eq rfl (by simp)) (.put (notF rfl) rfl (.eq rfl (mk3_ne _)) (.put (notF rfl) rfl (.eq rfl (by simp)) (.put (notF rfl) rfl (.rowDE rfl) (.put (notF rfl) rfl (.eq rfl (by simp)) (.nil _)))))
          · skip
            refine ⟨⟨j + 1, bj, sl⟩, ⟨hjlt, by assumption, by first | assumption | exact hy rfl | omega⟩, (show q - (j + 1) < q - j by omega), View.of 5 [0, 1, 2, 3, 4] [] rfl rfl rfl rfl rfl rfl ?_ ?_⟩
            · repeat (first | exact .nil | refine .junk ?_ | refine .put (.ren (next_i64 (by omega)).symm) ?_ | refine .eq rfl ?_)
            · exact .put (notF rfl) rfl (.eq rfl (by simp)) (.put (notF rfl) rfl (.eq rfl (mk3_ne _)) (.put (notF rfl) rfl (.eq rfl (by simp)) (.put (notF rfl) rfl (.rowDE rfl) (.put (notF rfl) rfl (.eq rfl (by simp)) (.nil _)))))
        · skip
          refine ⟨⟨j + 1, bj, sl⟩, ⟨hjlt, by assumption, by first | assumption | exact hy rfl | omega⟩, (show q - (j + 1) < q - j by omega), View.of 5 [0, 1, 2, 3, 4] [] rfl rfl rfl rfl rfl rfl ?_ ?_⟩
          · repeat (first | exact .nil | refine .junk ?_ | refine .put (.ren (next_i64 (by omega)).symm) ?_ | refine .eq rfl ?_)
          · exact .put (notF rfl) rfl (.eq rfl (by simp)) (.put (notF rfl) rfl (.eq rfl (mk3_ne _)) (.put (notF rfl) rfl (.eq rfl (by simp)) (.put (notF rfl) rfl (.rowDE rfl) (.put (notF rfl) rfl (.eq rfl (by simp)) (.nil _)))))
      · skip
        refine bB_split (fun _ => ?_) (fun _ => ?_)
        · refine pick_any bj hbj 9 1 rfl fun cd b5 hb5 _ _ _ => ?_
          refine ⟨by have e := dRows_len ((x :: r).map Prc.enc); simp only [List.length_map, List.length_cons] at e hpl; simp only [subL, List.length_cons, List.length_nil]; omega, ?_⟩
          refine ⟨⟨p + 1, b5, ((x :: r) ++ [⟨false, false, (cd : Nat), []⟩])⟩, ⟨hplt, by assumption, by simp at hpl ⊢ <;> omega, hslots (x :: r) [] SlOK.nil _ _ _ hps, hfn _⟩, (show n - (p + 1) < n - p by omega), View.of 7 [0, 1, 2, 6] [] rfl rfl rfl rfl rfl rfl ?_ ?_⟩
          · repeat (first | exact .nil | refine .junk ?_ | refine .put (.ren (next_i64 (by omega)).symm) ?_ | refine .eq rfl ?_)
          · exact .put (notF rfl) rfl (.eq rfl (by simp)) (.put (notF rfl) rfl (.eq rfl (mk3_ne _)) (.put (notF rfl) rfl (.eq rfl (by simp)) (.put (notF rfl) rfl (snocP (x :: r) ⟨false, false, (cd : Nat), []⟩ (.frz (.esl 3)) (by simp [subL, dRows, CC.ren])) (.nil _))))
        · skip
          refine ⟨by have e := dRows_len ((x :: r).map Prc.enc); simp only [List.length_map, List.length_cons] at e hpl; simp only [subL, List.length_cons, List.length_nil]; omega, ?_⟩
          refine ⟨⟨p + 1, bj, ((x :: r) ++ [⟨(decide ((((lx : Nat) : Int)) > 0)), ((((fy : Nat) : Int)) == 1), 0, sl⟩])⟩, ⟨hplt, by assumption, by simp at hpl ⊢ <;> omega, hslots (x :: r) sl hsl _ _ _ hps, hfn _⟩, (show n - (p + 1) < n - p by omega), View.of 7 [0, 1, 2, 6] [] rfl rfl rfl rfl rfl rfl ?_ ?_⟩
          · repeat (first | exact .nil | refine .junk ?_ | refine .put (.ren (next_i64 (by omega)).symm) ?_ | refine .eq rfl ?_)
          · exact .put (notF rfl) rfl (.eq rfl (by simp)) (.put (notF rfl) rfl (.eq rfl (mk3_ne _)) (.put (notF rfl) rfl (.eq rfl (by simp)) (.put (notF rfl) rfl (snocP (x :: r) ⟨(decide ((((lx : Nat) : Int)) > 0)), ((((fy : Nat) : Int)) == 1), 0, sl⟩ (.ren (.dat _)) (by simp [subL, dRows, CC.ren])) (.nil _))))
    · have hpe : p = n := by
        have h : ¬ (p : Int) < (n : Int) := h
        omega
      refine ghost_keep [2, 3, 19] [] [.var z3, mk3 b1, .var [.dat (obsD l), .dat (opnD ops), .dat (prcD (x :: r))]] (View.of 4 [0, 1, 2] [3] rfl rfl rfl rfl rfl rfl ?_ ?_) ?_
      · repeat (first | exact .nil | refine .junk ?_ | refine .eq rfl ?_)
      · exact .put (notF rfl) rfl (.eq rfl (by simp)) (.put (notF rfl) rfl (.eq rfl (mk3_ne _)) (.put (notF rfl) rfl (CcsVp.var (.cons (.ren (.dat _)) (.cons (.ren (.dat _)) (.cons (.frz (FrzD.rowD (Z := fun k => memN [3] k = true) rfl rfl 0 none)) .nil)))) (.nil _)))
      exact seg247 b1 hb1 l g ops (x :: r) hops ⟨by omega, hps⟩ (hfst (by omega))


end Go.Proofs.Ytbemknkbegkflaa
