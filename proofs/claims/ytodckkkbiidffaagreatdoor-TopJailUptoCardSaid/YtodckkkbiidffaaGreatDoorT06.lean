/- Part 6 of 39: what the law stands on. -/
import Derived.Test.YtodckkkbiidffaaGreatDoorT04
import Derived.Test.YtodckkkbiidffaaGreatDoorT05
import Derived.Laws.Slices
import Derived.Laws.Strings2
import Derived.WalkSpells
import Derived.Lib.SliceRun
set_option linter.unusedVariables false
set_option linter.unusedSimpArgs false
set_option linter.unnecessarySimpa false
set_option maxRecDepth 100000
set_option maxHeartbeats 64000000
namespace Go.AM
section
variable {P:Program} {ρ:bG} {m:Mem} {w:World} {aV:List CV} {a:Act} {K:CV->Mem->Prop}
theorem xl{t e:TypeId}{esz:Nat}(hu:P.underlying t=some (.slice e))(hs:d6 P e=some esz)(ad:Option Addr)(len cap:Nat)(pY:len<=cap){lo hi:Option Value}{l h:Nat}(gx:(lo=none/\l=0)\/∃k,lo=some (.int k (l:Int)))(xm:(hi=none/\h=len)\/∃k,hi=some (.int k (h:Int)))(h1:l<=h)(h2:h<=cap):
  (Instr.sliceAt t (.slice ad len cap) lo hi none).run P w= .ok (sliced ad l h cap esz) w:=by
 have he:P.elem t=e:=by simp[Program.elem,hu]
 have so:P.underlying t=some (.slice (P.elem t)):=by rw[he];exact hu
 have dn:(sizeOf (P.elem t)).run P w= .ok esz w:=by rw[he];exact eP hs
 rw[run_sliceAt_slice _ _ _ _ _ _ so];rcases gx with⟨rfl,rfl⟩|⟨k,rfl⟩<;>rcases xm with⟨rfl,rfl⟩|⟨k',rfl⟩
 .rw[run_slice_all w t ad _ cap so,dn];rfl
 .rw[run_slice_h w t ad len cap so k' h om om,dn];simp[Result.andThen]
 .rw[run_slice_l w t ad _ cap so k l om om,dn];simp[Result.andThen]
 .rw[run_slice_lh w t ad len cap so k k' l h om om om,dn];simp[Result.andThen]
theorem Lm{t e:TypeId}{esz:Nat}(hu:P.underlying t=some (.slice e))(hs:d6 P e=some esz)(ad:Option Addr)(len cap:Nat){k k':IntKind}:
  ∃b,(Instr.sliceAt t (.slice ad len cap) none (some (.int k 0)) (some (.int k' 0))).run P w= .ok (.slice b 0 0) w:=by
 have he:P.elem t=e:=by simp[Program.elem,hu]
 have so:P.underlying t=some (.slice (P.elem t)):=by rw[he];exact hu
 have dn:(sizeOf (P.elem t)).run P w= .ok esz w:=by rw[he];exact eP hs
 rw[run_sliceAt_slice _ _ _ _ _ _ so,run_slice_hm w t ad len cap so k k' 0 0 om om om,dn];exact⟨_,rfl⟩
theorem zc{c:CV}{v:Value}{k:Nat}(h:nC c=some k)(hd:bV ρ w c v):∃kd,v= .int kd (k:Int):=by
 unfold nC at h;split at h
 .cases h;exact⟨_,np hd⟩
 .cases h
theorem D2{c:CV}{v:Value}(h:TL c=true)(hd:bV ρ w c v):∃kd,v= .int kd 0:=by
 unfold TL at h;split at h
 .have:=of_decide_eq_true h;subst this;exact⟨_,np hd⟩
 .cases h
theorem ia(hE:be ρ w aV a.tmps){o:Option Operand}{o':Option X}(h:gi o=some o'){d k:Nat}(hk:jr aV o' d=some k):
  (o.map a.eval=none/\k=d)\/∃kd,o.map a.eval=some (.int kd (k:Int)):=by
 cases o with
 |none=>
  simp[gi]at h;subst h;simp[jr]at hk;exact .inl ⟨rfl,hk.symm⟩
 |some x=>
  simp only[gi,N7,Jm]at h;obtain⟨x',hx,h⟩:=h;cases h;obtain⟨kd,hv⟩:=zc hk (aN hE hx);exact .inr ⟨kd,by simp[hv]⟩
theorem BK(hM:aA ρ m w)(hE:be ρ w aV a.tmps){t:TypeId}{x:Operand}{lo hi:Option Operand}{x':X}{BL dP:Option X}(hu:P.underlying t=some .string)(hx:bh x=some x')(gx:gi lo=some BL)(xm:gi hi=some dP)(h:step P (.Bl x' BL dP) aV m K):di P (do pure (Next.value (<-Instr.sliceAt t (a.eval x) (lo.map a.eval) (hi.map a.eval) none))) ρ m w K:=by
 have hd:=aN hE hx;generalize a.eval x=v at hd⊢;simp only[step]at h;generalize x'.ev aV=c at hd h;split at h
 .rename_i s;have hv:=(bJ hd).1;subst hv;obtain⟨l,hl,h⟩:=bc.1 h;obtain⟨hh,hk,h⟩:=bc.1 h;rcases cg.1 h with⟨hb,hK⟩|⟨_,g⟩
  case inr=>exact g.elim
  rw[SD,aak,aak]at hb;have hL:=ia hE gx hl;have hH:=ia hE xm hk;have dq:(Instr.sliceAt t (.string s) (lo.map a.eval) (hi.map a.eval) none).run P w= .ok (.string (s.extract l hh)) w:=by
   rw[run_sliceAt_string w t _ _ _ _ hu];rcases hL with⟨e1,rfl⟩|⟨k1,e1⟩<;>rcases hH with⟨e2,rfl⟩|⟨k2,e2⟩<;>rw[e1,e2]
   .exact run_slice_string_all w t s hu
   .rw[run_slice_string_h w t s hu k2 _ om om];simp
   .rw[run_slice_string_l w t s hu k1 _ om om];simp
   .rw[run_slice_string w t s k1 k2 _ _ hu om om om];simp
  exact di.pure hM (by rw[Sem.run_bind,dq];rfl) hK (cZ.val _ rfl)
 .exact h.elim
theorem Fp(hM:aA ρ m w)(hE:be ρ w aV a.tmps){t e:TypeId}{esz:Nat}{x:Operand}{lo hi mx:Option Operand}{x':X}{BL dP UO:Option X}(hu:P.underlying t=some (.slice e))(hs:d6 P e=some esz)(hx:bh x=some x')(gx:gi lo=some BL)(xm:gi hi=some dP)(KN:gi mx=some UO)(h:step P (.mD esz x' BL dP UO) aV m K):di P (do pure (Next.value (<-Instr.sliceAt t (a.eval x) (lo.map a.eval) (hi.map a.eval) (mx.map a.eval)))) ρ m w K:=by
 have hd:=aN hE hx;generalize a.eval x=v at hd⊢;cases mx with
 |none=>
  simp[gi]at KN;subst KN;simp only[step]at h;simp only[Option.map_none];obtain⟨l,hl,h⟩:=bc.1 h;have hL:=ia hE gx hl;generalize x'.ev aV=c at hd h;split at h
  .rename_i e2 elems;rcases cg.1 h with⟨he,g1⟩|⟨_,g1⟩
   case inr=>exact g1.elim
   have he:e2=esz:=Wh he;subst he;obtain⟨hh,hk,g2⟩:=bc.1 g1;rcases cg.1 g2 with⟨hb,hK⟩|⟨_,g3⟩
   case inr=>exact g3.elim
   rw[SD,aak,aak]at hb;have hH:=ia hE xm hk;cases hd with
   |nil _ ad cap hc=>
    simp at hb;have hz:hh=0:=om;have Q6:l=0:=om;subst hz Q6;refine di.pure hM (by rw[Sem.run_bind,xl hu hs ad 0 cap (Wi _) hL hH (Pq _) (Wi _)];rfl) hK ?_
    exact cZ.nil e2 _ (cap-0) om
   |sl _ _ b off cap u hS pY bl dn hc bY=>
    refine di.pure hM (by rw[Sem.run_bind,xl hu hs _ _ cap pY hL hH hb.1 om];rfl) hK ?_
    show cZ ρ.S w _ (.slice (if cap=l then _ else _) (hh-l) (cap-l))
    have hlen:((elems.take hh).drop l).length=hh-l:=by simp;omega
    rcases Nat.eq_or_lt_of_le hb.1 with rfl|aE
    .have:(elems.take l).drop l=[]:=Wg (by rw[hlen];omega)
     rw[this,abB];exact .nil e2 _ _ om
    .rw[if_neg om];have Ov:(Option.map (fun x:Addr=>x.add (l*e2)) (some ⟨b,off,none⟩))=some ⟨b,off+l*e2,none⟩:=by
      simp only[Wn,Addr.add];split
      .rename_i h0;simp[h0]
      .rfl
     rw[Ov,<-hlen];have get:∀(i:Nat)cs,((elems.take hh).drop l)[i]? =some cs->elems[l+i]? =some cs:=fun i cs hi=>by
      rw[aat,aaj]at hi;split at hi
      .exact hi
      .cases hi
     exact cZ.sl e2 _ b (off+l*e2) (cap-l) (fun i j=>u (l+i) j) hS om om (fun cs eY=>dn cs (aaw (abb eY)))
      (fun i cs j d hi hj=>by rw[<-hc (l+i) cs j d (get i cs hi) hj];congr 2;rw[aas];omega)
      (fun i cs j d hi hj=>bY (l+i) cs j d (get i cs hi) hj)
  .rename_i id e2 Bo sH;obtain⟨bk,hb,h⟩:=bc.1 h;rw[aU]at hb;cases bk<;>simp only at h
   rename_i u9 elems;rcases cg.1 h with⟨he,g1⟩|⟨_,g1⟩
   case inr=>exact g1.elim
   have he:e2=esz:=Wh he;subst he;obtain⟨hh,hk,g2⟩:=bc.1 g1;rcases cg.1 g2 with⟨UP,hK⟩|⟨_,g3⟩
   case inr=>exact g3.elim
   rw[SD,aak,aak]at UP;obtain⟨h2,h3,h4,h5,oS⟩:=hM.bk id _ hb;clear oS;rw[gA,h2]at hk;rw[h2]at UP;have hH:=ia hE xm hk;obtain⟨q1,q2,q3,q4,q5,ad,rfl,qp⟩:=hd;have b1:sH.getD (ρ.aP (.ap id)).len-Bo<=(ρ.aP (.ap id)).cap-Bo:=om;have b2:hh<=(ρ.aP (.ap id)).cap-Bo:=om;refine di.pure hM (by rw[Sem.run_bind,xl hu hs ad _ _ b1 hL hH UP.1 b2];rfl) hK ?_
   rw[j0,j0];refine⟨q1,by simp;omega,by simp;omega,q4,q5,(if(ρ.aP (.ap id)).cap-Bo=l then ad else ad.map (fun x:Addr=>x.add (l*e2))),?_,?_⟩
   .have c1:hh-l=(some (Bo+hh)).getD (ρ.aP (.ap id)).len-(Bo+l):=by simp;omega
    have c2:(ρ.aP (.ap id)).cap-Bo-l=(ρ.aP (.ap id)).cap-(Bo+l):=om;show Value.slice _ (hh-l) ((ρ.aP (.ap id)).cap-Bo-l)=_;rw[c1,c2]
   .intro aE;rw[if_neg om,qp om];simp only[Wn,Addr.add];split
    .rename_i h0;simp[aas,h0]
    .simp[aas,aao]
  .exact h.elim
 |some mo=>
  simp only[gi,N7,Jm]at KN;obtain⟨m',Q7,KN⟩:=KN;cases KN;simp only[step]at h;rcases cg.1 h with⟨hc,hK⟩|⟨_,g⟩
  case inr=>
   obtain⟨l,hl,g⟩:=bc.1 g;obtain⟨E,YO,g⟩:=bc.1 g;obtain⟨hh,hk,g⟩:=bc.1 g;obtain⟨QA,KN,g⟩:=bc.1 g;rcases cg.1 g with⟨hc,hK⟩|⟨_,g⟩
   case inr=>exact g.elim
   simp only[SD,aak]at hc;obtain⟨c1,c2,c3,c4,c5⟩:=hc;have hL:=ia hE gx hl;have hH:=ia hE xm hk;obtain⟨kd,UQ⟩:=zc KN (aN hE Q7);obtain⟨ad,cap,vs,rfl,hle,TO,_⟩:=lH hM YO hd;cases lo with
   |none=>
    simp[gi]at gx;subst gx;simp at c1
   |some Bo=>
    cases hi with
    |none=>
     simp[gi]at xm;subst xm;simp at c2
    |some sH=>
     rcases hL with⟨hL,_⟩|⟨k1,hL⟩
     .simp at hL
     rcases hH with⟨hH,_⟩|⟨k2,hH⟩
     .simp at hH
     have he:P.elem t=e:=by simp[Program.elem,hu]
     have so:P.underlying t=some (.slice (P.elem t)):=by rw[he];exact hu
     have dn:(sizeOf (P.elem t)).run P w= .ok esz w:=by rw[he];exact eP hs
     refine di.pure hM (v:=sliced ad l hh QA esz) ?_ hK trivial;rw[hL,hH,Wn,UQ,Sem.run_bind,run_sliceAt_slice _ _ _ _ _ _ so,run_slice_lhm w t ad E.length cap so k1 k2 kd l hh QA om om om om,dn];simp[Result.andThen]
  simp only[SD]at hc;obtain⟨⟨⟨c1,c2⟩,c3⟩,c4⟩:=hc;obtain⟨k',UQ⟩:=D2 c3 (aN hE Q7);cases lo with
  |some l0=>
   simp only[gi,N7,Jm]at gx;obtain⟨l',_,gx⟩:=gx;cases gx;simp at c1
  |none=>
   cases hi with
   |none=>
    simp[gi]at xm;subst xm;simp[Bn]at c2
   |some h0=>
    simp only[gi,N7,Jm]at xm;obtain⟨h',YP,xm⟩:=xm;cases xm;obtain⟨k,YQ⟩:=D2 c2 (aN hE YP);have hv:∃ad len cap,v= .slice ad len cap:=by
     generalize x'.ev aV=c at hd c4;unfold HD at c4;split at c4
     .cases hd with
      |nil _ ad cap hc=>exact⟨_,_,_,rfl⟩
      |sl _ _ b off cap u hS pY bl dn hc bY=>exact⟨_,_,_,rfl⟩
     .obtain⟨_,_,_,_,_,ad,rfl,_⟩:=hd;exact⟨_,_,_,rfl⟩
     .obtain⟨ad,rfl⟩:=hd;exact⟨_,_,_,rfl⟩
     .cases c4
    obtain⟨ad,len,cap,rfl⟩:=hv;obtain⟨b,hb⟩:=Lm (w:=w) hu hs ad len cap (k:=k) (k':=k');refine di.pure hM (v:= .slice b 0 0) ?_ hK ⟨b,rfl⟩;simp only[Option.map_none,Wn,YQ,UQ];rw[Sem.run_bind,hb];rfl
theorem tu(hM:aA ρ m w)(hE:be ρ w aV a.tmps){neg:Bool}{t e:TypeId}{x:Operand}{x':X}(hu:P.underlying t=some (.slice e))(hx:bh x=some x')(h:step P (.u5 neg x') aV m K):di P (do let v<-(do eqGuard (if neg then .neq else .eql) t x (.const (.slice none 0 0)) (a.eval x) (.slice none 0 0);binOp (if neg then .neq else .eql) t (a.eval x) (.slice none 0 0));pure (Next.value v)) ρ m w K:=by
 have hd:=aN hE hx;simp only[step]at h;generalize a.eval x=v at hd⊢;generalize x'.ev aV=c at hd h;have iu:∀(ad:Option Addr)(n cp:Nat),v= .slice ad n cp->K (ay (if neg then !ad.isNone else ad.isNone)) m->
   di P (do let v<-(do eqGuard (if neg then .neq else .eql) t x (.const (.slice none 0 0)) v (.slice none 0 0);binOp (if neg then .neq else .eql) t v (.slice none 0 0));pure (Next.value v)) ρ m w K:=by
  intro ad n cp hv hK;subst hv;refine di.pure hM (v:= .bool (if neg then !ad.isNone else ad.isNone)) ?_ hK (b9 rfl)
  have hg:∀op,(eqGuard op t x (.const (.slice none 0 0)) (.slice ad n cp) (.slice none 0 0)).run P w= .ok () w:=fun op=>by
   cases op<;>simp[eqGuard]
  rw[Sem.run_bind,Sem.run_bind,hg];cases neg
  .simp only[Result.andThen_ok,aaV,if_false,Lib.run_eql_slice_nil w t e ad n cp 0 0 hu,Sem.run_pure]
  .simp only[Result.andThen_ok,if_true,run_neq_slice_nil_any w t e ad n cp 0 0 hu,Sem.run_pure]
 have both:∀(ad:Option Addr)(n cp:Nat),v= .slice ad n cp->(K (ay true) m/\K (ay false) m)->_:=fun ad n cp hv hK=>iu ad n cp hv (by
  generalize (if neg then !ad.isNone else ad.isNone)=b
  cases b
  .exact hK.2
  .exact hK.1)
 split at h
 .rename_i e2 elems;rcases cg.1 h with⟨_,g⟩|⟨eG,g⟩
  .cases hd with
   |nil _ ad cap hc=>exact both _ _ _ rfl g
   |sl _ _ b off cap u hS pY bl dn hc bY=>exact both _ _ _ rfl g
  .cases hd with
   |nil _ ad cap hc=>simp at eG
   |sl _ _ b off cap u hS pY bl dn hc bY=>exact iu _ _ _ rfl (by cases neg<;>simpa using g)
 .rename_i id e2 lo hi;obtain⟨bk,hb,h⟩:=bc.1 h;rw[aU]at hb;cases bk<;>simp only at h
  rename_i u9 elems;obtain⟨h2,h3,h4,h5,oS⟩:=hM.bk id _ hb;clear oS;obtain⟨q1,q2,q3,q4,q5,ad,rfl,qp⟩:=hd;rw[gA,h2]at h;rcases cg.1 h with⟨_,g⟩|⟨eG,g⟩
  .exact both _ _ _ rfl g
  .have QJ:=abr eG;have:=qp om;subst this;exact iu _ _ _ rfl (by cases neg<;>simpa using g)
 .obtain⟨ad,rfl⟩:=hd;exact both _ _ _ rfl h
 .exact h.elim
end
end Go.AM
