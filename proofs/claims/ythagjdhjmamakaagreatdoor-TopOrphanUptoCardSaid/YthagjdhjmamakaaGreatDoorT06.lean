/- Part 6 of 41: what the law stands on. -/
import Derived.Test.YthagjdhjmamakaaGreatDoorT04
import Derived.Test.YthagjdhjmamakaaGreatDoorT05
import Derived.Laws.Slices
import Derived.Laws.Strings2
import Derived.WalkSpells
import Derived.Lib.SliceRun
set_option linter.unusedVariables false
set_option linter.unusedSimpArgs false
set_option linter.unnecessarySimpa false
set_option maxRecDepth 100000
set_option maxHeartbeats 64000000
namespace Go.AM
section
variable {P:Program} {ρ:bH} {m:Mem} {w:World} {aU:List CV} {a:Act} {K:CV->Mem->Prop}
theorem yg{t e:TypeId}{esz:Nat}(hu:P.underlying t=some (.slice e))(hs:d9 P e=some esz)(ad:Option Addr)(len cap:Nat)(qI:len<=cap){lo hi:Option Value}{l h:Nat}(gG:(lo=none/\l=0)\/∃k,lo=some (.int k (l:Int)))(yh:(hi=none/\h=len)\/∃k,hi=some (.int k (h:Int)))(h1:l<=h)(h2:h<=cap):
  (Instr.sliceAt t (.slice ad len cap) lo hi none).run P w= .ok (sliced ad l h cap esz) w:=by
 have he:P.elem t=e:=by simp[Program.elem,hu]
 have ti:P.underlying t=some (.slice (P.elem t)):=by rw[he];exact hu
 have dj:(sizeOf (P.elem t)).run P w= .ok esz w:=by rw[he];exact eU hs
 rw[run_sliceAt_slice _ _ _ _ _ _ ti];rcases gG with⟨rfl,rfl⟩|⟨k,rfl⟩<;>rcases yh with⟨rfl,rfl⟩|⟨k',rfl⟩
 .rw[run_slice_all w t ad _ cap ti,dj];rfl
 .rw[run_slice_h w t ad len cap ti k' h om om,dj];simp[Result.andThen]
 .rw[run_slice_l w t ad _ cap ti k l om om,dj];simp[Result.andThen]
 .rw[run_slice_lh w t ad len cap ti k k' l h om om om,dj];simp[Result.andThen]
theorem MJ{t e:TypeId}{esz:Nat}(hu:P.underlying t=some (.slice e))(hs:d9 P e=some esz)(ad:Option Addr)(len cap:Nat){k k':IntKind}:
  ∃b,(Instr.sliceAt t (.slice ad len cap) none (some (.int k 0)) (some (.int k' 0))).run P w= .ok (.slice b 0 0) w:=by
 have he:P.elem t=e:=by simp[Program.elem,hu]
 have ti:P.underlying t=some (.slice (P.elem t)):=by rw[he];exact hu
 have dj:(sizeOf (P.elem t)).run P w= .ok esz w:=by rw[he];exact eU hs
 rw[run_sliceAt_slice _ _ _ _ _ _ ti,run_slice_hm w t ad len cap ti k k' 0 0 om om om,dj];exact⟨_,rfl⟩
theorem Ae{c:CV}{v:Value}{k:Nat}(h:oi c=some k)(hd:bW ρ w c v):∃kd,v= .int kd (k:Int):=by
 unfold oi at h;split at h
 .cases h;exact⟨_,nT hd⟩
 .cases h
theorem Fk{c:CV}{v:Value}(h:Vf c=true)(hd:bW ρ w c v):∃kd,v= .int kd 0:=by
 unfold Vf at h;split at h
 .have:=of_decide_eq_true h;subst this;exact⟨_,nT hd⟩
 .cases h
theorem il(hE:be ρ w aU a.tmps){o:Option Operand}{o':Option X}(h:gq o=some o'){d k:Nat}(hk:jE aU o' d=some k):
  (o.map a.eval=none/\k=d)\/∃kd,o.map a.eval=some (.int kd (k:Int)):=by
 cases o with
 |none=>
  simp[gq]at h;subst h;simp[jE]at hk;exact .inl ⟨rfl,hk.symm⟩
 |some x=>
  simp only[gq,Pq,KG]at h;obtain⟨x',hx,h⟩:=h;cases h;obtain⟨kd,hv⟩:=Ae hk (aN hE hx);exact .inr ⟨kd,by simp[hv]⟩
theorem CR(hM:aC ρ m w)(hE:be ρ w aU a.tmps){t:TypeId}{x:Operand}{lo hi:Option Operand}{x':X}{CS dV:Option X}(hu:P.underlying t=some .string)(hx:bh x=some x')(gG:gq lo=some CS)(yh:gq hi=some dV)(h:step P (.xZ x' CS dV) aU m K):dl P (do pure (Next.value (<-Instr.sliceAt t (a.eval x) (lo.map a.eval) (hi.map a.eval) none))) ρ m w K:=by
 have hd:=aN hE hx;generalize a.eval x=v at hd⊢;simp only[step]at h;generalize x'.ev aU=c at hd h;split at h
 .rename_i s;have hv:=(bJ hd).1;subst hv;obtain⟨l,hl,h⟩:=bc.1 h;obtain⟨hh,hk,h⟩:=bc.1 h;rcases cj.1 h with⟨hb,hK⟩|⟨_,g⟩
  case inr=>exact g.elim
  rw[T6,aap,aap]at hb;have hL:=il hE gG hl;have hH:=il hE yh hk;have du:(Instr.sliceAt t (.string s) (lo.map a.eval) (hi.map a.eval) none).run P w= .ok (.string (s.extract l hh)) w:=by
   rw[run_sliceAt_string w t _ _ _ _ hu];rcases hL with⟨e1,rfl⟩|⟨k1,e1⟩<;>rcases hH with⟨e2,rfl⟩|⟨k2,e2⟩<;>rw[e1,e2]
   .exact run_slice_string_all w t s hu
   .rw[run_slice_string_h w t s hu k2 _ om om];simp
   .rw[run_slice_string_l w t s hu k1 _ om om];simp
   .rw[run_slice_string w t s k1 k2 _ _ hu om om om];simp
  exact dl.pure hM (by rw[Sem.run_bind,du];rfl) hK (cZ.val _ rfl)
 .exact h.elim
theorem GJ(hM:aC ρ m w)(hE:be ρ w aU a.tmps){t e:TypeId}{esz:Nat}{x:Operand}{lo hi mx:Option Operand}{x':X}{CS dV Wf:Option X}(hu:P.underlying t=some (.slice e))(hs:d9 P e=some esz)(hx:bh x=some x')(gG:gq lo=some CS)(yh:gq hi=some dV)(Mh:gq mx=some Wf)(h:step P (.m6 esz x' CS dV Wf) aU m K):dl P (do pure (Next.value (<-Instr.sliceAt t (a.eval x) (lo.map a.eval) (hi.map a.eval) (mx.map a.eval)))) ρ m w K:=by
 have hd:=aN hE hx;generalize a.eval x=v at hd⊢;cases mx with
 |none=>
  simp[gq]at Mh;subst Mh;simp only[step]at h;simp only[Option.map_none];obtain⟨l,hl,h⟩:=bc.1 h;have hL:=il hE gG hl;generalize x'.ev aU=c at hd h;split at h
  .rename_i e2 elems;rcases cj.1 h with⟨he,g1⟩|⟨_,g1⟩
   case inr=>exact g1.elim
   have he:e2=esz:=XM he;subst he;obtain⟨hh,hk,g2⟩:=bc.1 g1;rcases cj.1 g2 with⟨hb,hK⟩|⟨_,g3⟩
   case inr=>exact g3.elim
   rw[T6,aap,aap]at hb;have hH:=il hE yh hk;cases hd with
   |nil _ ad cap hc=>
    simp at hb;have hz:hh=0:=om;have SA:l=0:=om;subst hz SA;refine dl.pure hM (by rw[Sem.run_bind,yg hu hs ad 0 cap (XL _) hL hH (QN _) (XL _)];rfl) hK ?_
    exact cZ.nil e2 _ (cap-0) om
   |sl _ _ b off cap u hS qI bl dj hc bY=>
    refine dl.pure hM (by rw[Sem.run_bind,yg hu hs _ _ cap qI hL hH hb.1 om];rfl) hK ?_
    show cZ ρ.S w _ (.slice (if cap=l then _ else _) (hh-l) (cap-l))
    have hlen:((elems.take hh).drop l).length=hh-l:=by simp;omega
    rcases Nat.eq_or_lt_of_le hb.1 with rfl|aF
    .have:(elems.take l).drop l=[]:=XJ (by rw[hlen];omega)
     rw[this,abK];exact .nil e2 _ _ om
    .rw[if_neg om];have PM:(Option.map (fun x:Addr=>x.add (l*e2)) (some ⟨b,off,none⟩))=some ⟨b,off+l*e2,none⟩:=by
      simp only[XS,Addr.add];split
      .rename_i h0;simp[h0]
      .rfl
     rw[PM,<-hlen];have get:∀(i:Nat)cs,((elems.take hh).drop l)[i]? =some cs->elems[l+i]? =some cs:=fun i cs hi=>by
      rw[aaA,aao]at hi;split at hi
      .exact hi
      .cases hi
     exact cZ.sl e2 _ b (off+l*e2) (cap-l) (fun i j=>u (l+i) j) hS om om (fun cs fb=>dj cs (aaB (aa5 fb)))
      (fun i cs j d hi hj=>by rw[<-hc (l+i) cs j d (get i cs hi) hj];congr 2;rw[aaz];omega)
      (fun i cs j d hi hj=>bY (l+i) cs j d (get i cs hi) hj)
  .rename_i id e2 Ct tC;obtain⟨bk,hb,h⟩:=bc.1 h;rw[aT]at hb;cases bk<;>simp only at h
   rename_i wa elems;rcases cj.1 h with⟨he,g1⟩|⟨_,g1⟩
   case inr=>exact g1.elim
   have he:e2=esz:=XM he;subst he;obtain⟨hh,hk,g2⟩:=bc.1 g1;rcases cj.1 g2 with⟨Wg,hK⟩|⟨_,g3⟩
   case inr=>exact g3.elim
   rw[T6,aap,aap]at Wg;obtain⟨h2,h3,h4,h5,pl⟩:=hM.bk id _ hb;clear pl;rw[gL,h2]at hk;rw[h2]at Wg;have hH:=il hE yh hk;obtain⟨q1,q2,q3,q4,q5,ad,rfl,q0⟩:=hd;have b1:tC.getD (ρ.aO (.ap id)).len-Ct<=(ρ.aO (.ap id)).cap-Ct:=om;have b2:hh<=(ρ.aO (.ap id)).cap-Ct:=om;refine dl.pure hM (by rw[Sem.run_bind,yg hu hs ad _ _ b1 hL hH Wg.1 b2];rfl) hK ?_
   rw[kp,kp];refine⟨q1,by simp;omega,by simp;omega,q4,q5,(if(ρ.aO (.ap id)).cap-Ct=l then ad else ad.map (fun x:Addr=>x.add (l*e2))),?_,?_⟩
   .have c1:hh-l=(some (Ct+hh)).getD (ρ.aO (.ap id)).len-(Ct+l):=by simp;omega
    have c2:(ρ.aO (.ap id)).cap-Ct-l=(ρ.aO (.ap id)).cap-(Ct+l):=om;show Value.slice _ (hh-l) ((ρ.aO (.ap id)).cap-Ct-l)=_;rw[c1,c2]
   .intro aF;rw[if_neg om,q0 om];simp only[XS,Addr.add];split
    .rename_i h0;simp[aaz,h0]
    .simp[aaz,aau]
  .exact h.elim
 |some mo=>
  simp only[gq,Pq,KG]at Mh;obtain⟨m',SB,Mh⟩:=Mh;cases Mh;simp only[step]at h;rcases cj.1 h with⟨hc,hK⟩|⟨_,g⟩
  case inr=>
   obtain⟨l,hl,g⟩:=bc.1 g;obtain⟨E,hE',g⟩:=bc.1 g;obtain⟨hh,hk,g⟩:=bc.1 g;obtain⟨R2,Mh,g⟩:=bc.1 g;rcases cj.1 g with⟨hc,hK⟩|⟨_,g⟩
   case inr=>exact g.elim
   simp only[T6,aap]at hc;obtain⟨c1,c2,c3,c4,c5⟩:=hc;have hL:=il hE gG hl;have hH:=il hE yh hk;obtain⟨kd,Wh⟩:=Ae Mh (aN hE SB);obtain⟨ad,cap,vs,rfl,hle,Vi,_⟩:=l5 hM hE' hd;cases lo with
   |none=>
    simp[gq]at gG;subst gG;simp at c1
   |some Ct=>
    cases hi with
    |none=>
     simp[gq]at yh;subst yh;simp at c2
    |some tC=>
     rcases hL with⟨hL,_⟩|⟨k1,hL⟩
     .simp at hL
     rcases hH with⟨hH,_⟩|⟨k2,hH⟩
     .simp at hH
     have he:P.elem t=e:=by simp[Program.elem,hu]
     have ti:P.underlying t=some (.slice (P.elem t)):=by rw[he];exact hu
     have dj:(sizeOf (P.elem t)).run P w= .ok esz w:=by rw[he];exact eU hs
     refine dl.pure hM (v:=sliced ad l hh R2 esz) ?_ hK trivial;rw[hL,hH,XS,Wh,Sem.run_bind,run_sliceAt_slice _ _ _ _ _ _ ti,run_slice_lhm w t ad E.length cap ti k1 k2 kd l hh R2 om om om om,dj];simp[Result.andThen]
  simp only[T6]at hc;obtain⟨⟨⟨c1,c2⟩,c3⟩,c4⟩:=hc;obtain⟨k',Wh⟩:=Fk c3 (aN hE SB);cases lo with
  |some l0=>
   simp only[gq,Pq,KG]at gG;obtain⟨l',_,gG⟩:=gG;cases gG;simp at c1
  |none=>
   cases hi with
   |none=>
    simp[gq]at yh;subst yh;simp[Cs]at c2
   |some h0=>
    simp only[gq,Pq,KG]at yh;obtain⟨h',hh',yh⟩:=yh;cases yh;obtain⟨k,hhv⟩:=Fk c2 (aN hE hh');have hv:∃ad len cap,v= .slice ad len cap:=by
     generalize x'.ev aU=c at hd c4;unfold IX at c4;split at c4
     .cases hd with
      |nil _ ad cap hc=>exact⟨_,_,_,rfl⟩
      |sl _ _ b off cap u hS qI bl dj hc bY=>exact⟨_,_,_,rfl⟩
     .obtain⟨_,_,_,_,_,ad,rfl,_⟩:=hd;exact⟨_,_,_,rfl⟩
     .obtain⟨ad,rfl⟩:=hd;exact⟨_,_,_,rfl⟩
     .cases c4
    obtain⟨ad,len,cap,rfl⟩:=hv;obtain⟨b,hb⟩:=MJ (w:=w) hu hs ad len cap (k:=k) (k':=k');refine dl.pure hM (v:= .slice b 0 0) ?_ hK ⟨b,rfl⟩;simp only[Option.map_none,XS,hhv,Wh];rw[Sem.run_bind,hb];rfl
theorem uj(hM:aC ρ m w)(hE:be ρ w aU a.tmps){neg:Bool}{t e:TypeId}{x:Operand}{x':X}(hu:P.underlying t=some (.slice e))(hx:bh x=some x')(h:step P (.v6 neg x') aU m K):dl P (do let v<-(do eqGuard (if neg then .neq else .eql) t x (.const (.slice none 0 0)) (a.eval x) (.slice none 0 0);binOp (if neg then .neq else .eql) t (a.eval x) (.slice none 0 0));pure (Next.value v)) ρ m w K:=by
 have hd:=aN hE hx;simp only[step]at h;generalize a.eval x=v at hd⊢;generalize x'.ev aU=c at hd h;have hU:∀(ad:Option Addr)(n cp:Nat),v= .slice ad n cp->K (aA (if neg then !ad.isNone else ad.isNone)) m->
   dl P (do let v<-(do eqGuard (if neg then .neq else .eql) t x (.const (.slice none 0 0)) v (.slice none 0 0);binOp (if neg then .neq else .eql) t v (.slice none 0 0));pure (Next.value v)) ρ m w K:=by
  intro ad n cp hv hK;subst hv;refine dl.pure hM (v:= .bool (if neg then !ad.isNone else ad.isNone)) ?_ hK (ce rfl)
  have hg:∀op,(eqGuard op t x (.const (.slice none 0 0)) (.slice ad n cp) (.slice none 0 0)).run P w= .ok () w:=fun op=>by
   cases op<;>simp[eqGuard]
  rw[Sem.run_bind,Sem.run_bind,hg];cases neg
  .simp only[Result.andThen_ok,aaR,if_false,Lib.run_eql_slice_nil w t e ad n cp 0 0 hu,Sem.run_pure]
  .simp only[Result.andThen_ok,if_true,run_neq_slice_nil_any w t e ad n cp 0 0 hu,Sem.run_pure]
 have both:∀(ad:Option Addr)(n cp:Nat),v= .slice ad n cp->(K (aA true) m/\K (aA false) m)->_:=fun ad n cp hv hK=>hU ad n cp hv (by
  generalize (if neg then !ad.isNone else ad.isNone)=b
  cases b
  .exact hK.2
  .exact hK.1)
 split at h
 .rename_i e2 elems;rcases cj.1 h with⟨_,g⟩|⟨eL,g⟩
  .cases hd with
   |nil _ ad cap hc=>exact both _ _ _ rfl g
   |sl _ _ b off cap u hS qI bl dj hc bY=>exact both _ _ _ rfl g
  .cases hd with
   |nil _ ad cap hc=>simp at eL
   |sl _ _ b off cap u hS qI bl dj hc bY=>exact hU _ _ _ rfl (by cases neg<;>simpa using g)
 .rename_i id e2 lo hi;obtain⟨bk,hb,h⟩:=bc.1 h;rw[aT]at hb;cases bk<;>simp only at h
  rename_i wa elems;obtain⟨h2,h3,h4,h5,pl⟩:=hM.bk id _ hb;clear pl;obtain⟨q1,q2,q3,q4,q5,ad,rfl,q0⟩:=hd;rw[gL,h2]at h;rcases cj.1 h with⟨_,g⟩|⟨eL,g⟩
  .exact both _ _ _ rfl g
  .have Sb:=abv eL;have:=q0 om;subst this;exact hU _ _ _ rfl (by cases neg<;>simpa using g)
 .obtain⟨ad,rfl⟩:=hd;exact both _ _ _ rfl h
 .exact h.elim
end
end Go.AM
