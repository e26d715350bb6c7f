import Derived.Test.YtnlhnmlojcfljaaAmZ2
import Derived.Test.YtnlhnmlojcfljaaDvObm
import Derived.Test.YtnlhnmlojcfljaaAmY
set_option linter.unusedVariables false
set_option linter.unusedSimpArgs false
namespace Go.Proofs.Ytnlhnmlojcfljaa
open Go.AM Go.ChangeShapes Go.WideShapes Go.ChangeAt Go.RowKit
set_option maxRecDepth 100000 in
set_option maxHeartbeats 16000000 in
theorem seg247 (b : List Int) (hb : BYb b) (l : List Ob) (g : GoodN l) (ops : List Opn) (ps : List Prc) (hops : ops.length ≤ 100 ∧ ∀ o, o ∈ ops → 0 ≤ o.obj ∧ o.obj < l.length) (hps : ps.length ≤ 3 ∧ ∀ p, p ∈ ps → p.slots.length ≤ 10)
    (hfst : ∃ p, ps[0]? = some p ∧ p.live = true) :
    aw Try.prog 0 (unG (fstS R247)) (seqK (aw Try.prog 0 Rend) EK) ⟨mkE 299 [(2, .rv (.one (.ptr 0 0))), (3, .rv (.one (.ptr 1 0))), (19, .rv (.one (.ptr 2 0)))], [.var z3, mk3 b, .var [.dat (obsD l), .dat (opnD ops), .dat (prcD ps)]]⟩ := by
  have hl40 := g.len
  refine loop_keep (fun (a : St247) => a.i ≤ l.length ∧ BYb a.b ∧ Fin247 l a.l) [2, 3, 19, 248, 249] (fun a => [(250, vInt .i64 (a.i : Nat))]) (fun a => [.var z3, mk3 a.b, .var [.dat (obsD a.l), .dat (opnD ops), .dat (prcD ps)]]) (fun a => l.length - a.i) ⟨0, b, l⟩
    ⟨Nat.zero_le _, hb, rfl, fun o ho => (g.sm o ho).fin, g.root⟩ ?_ (fun a ha => ?_)
  · refine View.of 3 [0, 1, 2] [] rfl rfl rfl rfl rfl rfl ?_ ?_
    · repeat (first | exact .nil | refine .junk ?_ | refine .eq rfl ?_)
    · exact .put (notF rfl) rfl (.eq rfl (by simp)) (.put (notF rfl) rfl (.eq rfl (mk3_ne _)) (.put (notF rfl) rfl (.eq rfl (by simp)) (.nil _)))
  obtain ⟨i, b1, l2⟩ := a
  obtain ⟨h1, h2, h3⟩ := ha
  have h1 : i ≤ l.length := h1
  have h2 : BYb b1 := h2
  have h3 : Fin247 l l2 := h3
  refine bB_dec (fun h => ?_) (fun h => ?_)
  · have hlt : i < l.length := by
      have h : (i : Int) < ((l.map Ob.enc).length : Int) := h
      rw [List.length_map] at h
      omega
    have hl2 := h3.len
    have hog := obj_getB hlt
    have hs := g.sm _ (List.getElem_mem hlt)
    have hk0 : i = 0 → l[i].kind = 2 := by
      intro h0
      subst h0
      obtain ⟨r, hr, hr2⟩ := g.root
      rw [List.getElem?_eq_getElem hlt] at hr
      cases hr
      exact hr2
    generalize l[i] = o at hog hs hk0
    obtain ⟨kind, data, entries, target, peer, queue, proc, links, up⟩ := o
    have hq : queue = noD := hs.q
    subst hq
    refine ok_some hog ?_
    refine ghost_keep [2, 3, 19, 31, 32, 248, 249, 250] [] ([.var z3, mk3 b1, .var [.dat (obsD l2), .dat (opnD ops), .dat (prcD ps)], .var [.dat (.val (.int .i64 kind)), .dat (.sl 1 data), .dat (.sl 2 entries), .dat (.val (.string target)), .dat (.val (.int .i64 peer)), .esl, .dat (.val (.int .i64 proc)), .dat (.val (.int .i64 links)), .dat (.val (.int .i64 up))]]) (View.of 4 [0, 1, 2, 3] [] rfl rfl rfl rfl rfl rfl ?_ ?_) ?_
    · repeat (first | exact .nil | refine .junk ?_ | refine .eq rfl ?_)
    · exact .put (notF rfl) rfl (.eq rfl (by simp)) (.put (notF rfl) rfl (.eq rfl (mk3_ne _)) (.put (notF rfl) rfl (.eq rfl (by simp)) (.put (notF rfl) rfl (CcsVp.var (.cons (.ren (.dat _)) (.cons (.ren (.dat _)) (.cons (.ren (.dat _)) (.cons (.ren (.dat _)) (.cons (.ren (.dat _)) (.cons .un (.cons (.ren (.dat _)) (.cons (.ren (.dat _)) (.cons (.ren (.dat _)) .nil)))))))))) (.nil _))))
    refine bB_beq (fun hk4 => ?_) (fun hk4 => ?_)
    · refine pick_any b1 h2 2 1 rfl fun x b2 hb2 _ _ _ => ?_
      refine bB_beq (fun _ => ?_) (fun _ => ?_)
      · refine bB_dec (fun hn => ?_) (fun hn => ?_)
        · refine pick_any b2 hb2 2 1 rfl fun y b3 hb3 _ _ _ => ?_
          refine bB_beq (fun _ => ?_) (fun _ => ?_)
          · refine pick_any b3 hb3 _ 1 rfl fun z b4 hb4 _ _ _ => ?_
            refine pick_any b4 hb4 200 1 rfl fun w b5 hb5 _ _ _ => ?_
            refine ⟨by simp [subL], ?_⟩
            have hF := h3.set (n := i) (o := ⟨kind, data, entries, target, peer, .sl 4 [Msg.enc ⟨byD [109], true, (z : Nat), (w : Nat)⟩], proc, links, up⟩) ⟨hs.t, hs.d, hs.e, .inr ⟨_, ⟨_, rfl⟩, by simp [byD], rfl⟩⟩ (by omega) hk0
            refine acall_pre (args' := [obsV l2, vInt .i64 (i : Nat), (Ob.mk kind data entries target peer (.sl 4 [Msg.enc ⟨byD [109], true, (z : Nat), (w : Nat)⟩]) proc links up).cv]) (m' := [.var z3, mk3 b5, .var [.dat (obsD l2), .dat (opnD ops), .dat (prcD ps)], .dead, .dead, .dead, .dead, .dead]) (View.of 8 [0, 1, 2, 3, 4, 5, 6, 7] [7, 4] rfl rfl rfl rfl rfl rfl
              (.eq rfl (.eq rfl (.put (CcsVw.agg (.cons (.ren (.dat _)) (.cons (.ren (.dat _)) (.cons (.ren (.dat _)) (.cons (.ren (.dat _)) (.cons (.ren (.dat _)) (.cons (.frz (frzQ (Z := fun k => memN [7, 4] k = true) rfl rfl rfl (by simp [subL]) rfl)) (.cons (.ren (.dat _)) (.cons (.ren (.dat _)) (.cons (.ren (.dat _)) .nil)))))))))) .nil)))
              (.put (notF rfl) rfl (.eq rfl (by simp)) (.put (notF rfl) rfl (.eq rfl (mk3_ne _)) (.put (notF rfl) rfl (.eq rfl (by simp)) (.dead (.dead (.dead (.dead (.dead (.nil _)))))))))) ?_
            refine with_okB l2 (by have := h3.len; omega) i (by have := h3.len; omega) _ ?_
            refine ⟨⟨i + 1, b5, _⟩, ⟨hlt, by assumption, by assumption⟩, (show l.length - (i + 1) < l.length - i by omega), View.of 8 [0, 1, 2] [] rfl rfl rfl rfl rfl rfl ?_ ?_⟩
            · repeat (first | exact .nil | refine .junk ?_ | refine .put (.ren (next_i64 (by omega)).symm) ?_ | refine .eq rfl ?_)
            · exact .put (notF rfl) rfl (.eq rfl (by simp)) (.put (notF rfl) rfl (.eq rfl (mk3_ne _)) (.put (notF rfl) rfl (.eq rfl (by simp)) (.nil _)))
          · skip
            refine ⟨by simp [subL], ?_⟩
            have hF := h3.set (n := i) (o := ⟨kind, data, entries, target, peer, .sl 4 [Msg.enc ⟨byD [109], false, 0, 0⟩], proc, links, up⟩) ⟨hs.t, hs.d, hs.e, .inr ⟨_, ⟨_, rfl⟩, by simp [byD], rfl⟩⟩ (by omega) hk0
            refine acall_pre (args' := [obsV l2, vInt .i64 (i : Nat), (Ob.mk kind data entries target peer (.sl 4 [Msg.enc ⟨byD [109], false, 0, 0⟩]) proc links up).cv]) (m' := [.var z3, mk3 b3, .var [.dat (obsD l2), .dat (opnD ops), .dat (prcD ps)], .dead, .dead, .dead, .dead, .dead]) (View.of 8 [0, 1, 2, 3, 4, 5, 6, 7] [7, 4] rfl rfl rfl rfl rfl rfl
              (.eq rfl (.eq rfl (.put (CcsVw.agg (.cons (.ren (.dat _)) (.cons (.ren (.dat _)) (.cons (.ren (.dat _)) (.cons (.ren (.dat _)) (.cons (.ren (.dat _)) (.cons (.frz (frzQ (Z := fun k => memN [7, 4] k = true) rfl rfl rfl (by simp [subL]) rfl)) (.cons (.ren (.dat _)) (.cons (.ren (.dat _)) (.cons (.ren (.dat _)) .nil)))))))))) .nil)))
              (.put (notF rfl) rfl (.eq rfl (by simp)) (.put (notF rfl) rfl (.eq rfl (mk3_ne _)) (.put (notF rfl) rfl (.eq rfl (by simp)) (.dead (.dead (.dead (.dead (.dead (.nil _)))))))))) ?_
            refine with_okB l2 (by have := h3.len; omega) i (by have := h3.len; omega) _ ?_
            refine ⟨⟨i + 1, b3, _⟩, ⟨hlt, by assumption, by assumption⟩, (show l.length - (i + 1) < l.length - i by omega), View.of 8 [0, 1, 2] [] rfl rfl rfl rfl rfl rfl ?_ ?_⟩
            · repeat (first | exact .nil | refine .junk ?_ | refine .put (.ren (next_i64 (by omega)).symm) ?_ | refine .eq rfl ?_)
            · exact .put (notF rfl) rfl (.eq rfl (by simp)) (.put (notF rfl) rfl (.eq rfl (mk3_ne _)) (.put (notF rfl) rfl (.eq rfl (by simp)) (.nil _)))
        · skip
          refine ⟨by simp [subL], ?_⟩
          have hF := h3.set (n := i) (o := ⟨kind, data, entries, target, peer, .sl 4 [Msg.enc ⟨byD [109], false, 0, 0⟩], proc, links, up⟩) ⟨hs.t, hs.d, hs.e, .inr ⟨_, ⟨_, rfl⟩, by simp [byD], rfl⟩⟩ (by omega) hk0
          refine acall_pre (args' := [obsV l2, vInt .i64 (i : Nat), (Ob.mk kind data entries target peer (.sl 4 [Msg.enc ⟨byD [109], false, 0, 0⟩]) proc links up).cv]) (m' := [.var z3, mk3 b2, .var [.dat (obsD l2), .dat (opnD ops), .dat (prcD ps)], .dead, .dead, .dead, .dead, .dead]) (View.of 8 [0, 1, 2, 3, 4, 5, 6, 7] [7, 4] rfl rfl rfl rfl rfl rfl
            (.eq rfl (.eq rfl (.put (CcsVw.agg (.cons (.ren (.dat _)) (.cons (.ren (.dat _)) (.cons (.ren (.dat _)) (.cons (.ren (.dat _)) (.cons (.ren (.dat _)) (.cons (.frz (frzQ (Z := fun k => memN [7, 4] k = true) rfl rfl rfl (by simp [subL]) rfl)) (.cons (.ren (.dat _)) (.cons (.ren (.dat _)) (.cons (.ren (.dat _)) .nil)))))))))) .nil)))
            (.put (notF rfl) rfl (.eq rfl (by simp)) (.put (notF rfl) rfl (.eq rfl (mk3_ne _)) (.put (notF rfl) rfl (.eq rfl (by simp)) (.dead (.dead (.dead (.dead (.dead (.nil _)))))))))) ?_
          refine with_okB l2 (by have := h3.len; omega) i (by have := h3.len; omega) _ ?_
          refine ⟨⟨i + 1, b2, _⟩, ⟨hlt, by assumption, by assumption⟩, (show l.length - (i + 1) < l.length - i by omega), View.of 8 [0, 1, 2] [] rfl rfl rfl rfl rfl rfl ?_ ?_⟩
          · repeat (first | exact .nil | refine .junk ?_ | refine .put (.ren (next_i64 (by omega)).symm) ?_ | refine .eq rfl ?_)
          · exact .put (notF rfl) rfl (.eq rfl (by simp)) (.put (notF rfl) rfl (.eq rfl (mk3_ne _)) (.put (notF rfl) rfl (.eq rfl (by simp)) (.nil _)))
      · skip
        refine ⟨⟨i + 1, b2, l2⟩, ⟨hlt, by assumption, by assumption⟩, (show l.length - (i + 1) < l.length - i by omega), View.of 4 [0, 1, 2] [] rfl rfl rfl rfl rfl rfl ?_ ?_⟩
        · repeat (first | exact .nil | refine .junk ?_ | refine .put (.ren (next_i64 (by omega)).symm) ?_ | refine .eq rfl ?_)
        · exact .put (notF rfl) rfl (.eq rfl (by simp)) (.put (notF rfl) rfl (.eq rfl (mk3_ne _)) (.put (notF rfl) rfl (.eq rfl (by simp)) (.nil _)))
    · skip
      refine ⟨⟨i + 1, b1, l2⟩, ⟨hlt, by assumption, by assumption⟩, (show l.length - (i + 1) < l.length - i by omega), View.of 4 [0, 1, 2] [] rfl rfl rfl rfl rfl rfl ?_ ?_⟩
      · repeat (first | exact .nil | refine .junk ?_ | refine .put (.ren (next_i64 (by omega)).symm) ?_ | refine .eq rfl ?_)
      · exact .put (notF rfl) rfl (.eq rfl (by simp)) (.put (notF rfl) rfl (.eq rfl (mk3_ne _)) (.put (notF rfl) rfl (.eq rfl (by simp)) (.nil _)))
  · obtain ⟨l', gl, hl', hle⟩ := fin_le h3.fin (by have := h3.len; omega) h3.root
    refine ⟨kernV l' ops ps, [], View.of 3 [] [] rfl rfl rfl rfl rfl rfl ?_ (.nil _), ⟨l', ops, ps, ⟨gl, ⟨hops.1, fun o ho => by have := hops.2 o ho; have := h3.len; omega⟩, hps, hfst⟩, rfl⟩, rfl⟩
    exact .put (CcsVw.agg (.cons (.frz (.le hle)) (.cons (.ren (.dat _)) (.cons (.ren (.dat _)) .nil)))) .nil

end Go.Proofs.Ytnlhnmlojcfljaa
