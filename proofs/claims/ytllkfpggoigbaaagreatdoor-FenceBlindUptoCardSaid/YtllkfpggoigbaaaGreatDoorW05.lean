/- Part 5 of 23. -/
import Derived.Test.YtllkfpggoigbaaaGreatDoorW03
import Derived.Test.YtllkfpggoigbaaaGreatDoorW04
import Derived.Laws.Slices
import Derived.Laws.Strings2
import Derived.WalkSpells
import Derived.Lib.SliceRun
set_option linter.unusedVariables false
set_option linter.unusedSimpArgs false
set_option linter.unnecessarySimpa false
set_option maxRecDepth 100000
set_option maxHeartbeats 0
namespace Go.AM
section
variable {P:Program} {ρ:b9} {m:Mem} {w:World} {ba:List CV} {a:Act} {K:CV->Mem->Prop}
theorem Ck{t e:TypeId}{esz:Nat}(hu:P.underlying t=some (.slice e))(hs:fE P e=some esz)(ad:Option Addr)(len cap:Nat)(uK:len<=cap){lo hi:Option Value}{l h:Nat}(iY:(lo=none/\l=0)\/∃k,lo=some (.int k (l:Int)))(Cm:(hi=none/\h=len)\/∃k,hi=some (.int k (h:Int)))(h1:l<=h)(h2:h<=cap):
  (Instr.sliceAt t (.slice ad len cap) lo hi none).run P w= .ok (sliced ad l h cap esz) w:=by
 have he:P.elem t=e:=by simp[Program.elem,hu]
 have xb:P.underlying t=some (.slice (P.elem t)):=by rw[he];exact hu
 have eu:(sizeOf (P.elem t)).run P w= .ok esz w:=by rw[he];exact gv hs
 rw[run_sliceAt_slice _ _ _ _ _ _ xb];rcases iY with⟨rfl,rfl⟩|⟨k,rfl⟩<;>rcases Cm with⟨rfl,rfl⟩|⟨k',rfl⟩
 .rw[run_slice_all w t ad _ cap xb,eu];rfl
 .rw[run_slice_h w t ad len cap xb k' h om om,eu];simp[Result.andThen]
 .rw[run_slice_l w t ad _ cap xb k l om om,eu];simp[Result.andThen]
 .rw[run_slice_lh w t ad len cap xb k k' l h om om om,eu];simp[Result.andThen]
theorem SM{t e:TypeId}{esz:Nat}(hu:P.underlying t=some (.slice e))(hs:fE P e=some esz)(ad:Option Addr)(len cap:Nat){k k':IntKind}:
  ∃b,(Instr.sliceAt t (.slice ad len cap) none (some (.int k 0)) (some (.int k' 0))).run P w= .ok (.slice b 0 0) w:=by
 have he:P.elem t=e:=by simp[Program.elem,hu]
 have xb:P.underlying t=some (.slice (P.elem t)):=by rw[he];exact hu
 have eu:(sizeOf (P.elem t)).run P w= .ok esz w:=by rw[he];exact gv hs
 rw[run_sliceAt_slice _ _ _ _ _ _ xb,run_slice_hm w t ad len cap xb k k' 0 0 om om om,eu];exact⟨_,rfl⟩
theorem D5{c:CV}{v:Value}{k:Nat}(h:pV c=some k)(hd:cG ρ w c v):∃kd,v= .int kd (k:Int):=by
 unfold pV at h;split at h
 .cases h;exact⟨_,ri hd⟩
 .cases h
theorem Js{c:CV}{v:Value}(h:isZ c=true)(hd:cG ρ w c v):∃kd,v= .int kd 0:=by
 unfold isZ at h;split at h
 .have:=of_decide_eq_true h;subst this;exact⟨_,ri hd⟩
 .cases h
theorem kG(hE:bu ρ w ba a.tmps){o:Option Operand}{o':Option X}(h:jp o=some o'){d k:Nat}(hk:mw ba o' d=some k):
  (o.map a.eval=none/\k=d)\/∃kd,o.map a.eval=some (.int kd (k:Int)):=by
 cases o with
 |none=>
  simp[jp]at h;subst h;simp[mw]at hk;exact .inl ⟨rfl,hk.symm⟩
 |some x=>
  simp only[jp,XX,V3]at h;obtain⟨x',hx,h⟩:=h;cases h;obtain⟨kd,hv⟩:=D5 hk (aU hE hx);exact .inr ⟨kd,by simp[hv]⟩
theorem GQ(hM:aN ρ m w)(hE:bu ρ w ba a.tmps){t:TypeId}{x:Operand}{lo hi:Option Operand}{x':X}{GR fm:Option X}(hu:P.underlying t=some .string)(hx:bG x=some x')(iY:jp lo=some GR)(Cm:jp hi=some fm)(h:step P (.La x' GR fm) ba m K):eM P (do pure (Next.value (<-Instr.sliceAt t (a.eval x) (lo.map a.eval) (hi.map a.eval) none))) ρ m w K:=by
 have hd:=aU hE hx;generalize a.eval x=v at hd|-;simp only[step]at h;generalize x'.ev ba=c at hd h;split at h
 .rename_i s;have hv:=(cf hd).1;subst hv;obtain⟨l,hl,h⟩:=be.1 h;obtain⟨hh,hk,h⟩:=be.1 h;rcases cU.1 h with⟨hb,hK⟩|⟨_,g⟩
  case inr=>exact g.elim
  rw[aaJ,ack,ack]at hb;have hL:=kG hE iY hl;have hH:=kG hE Cm hk;have fv:(Instr.sliceAt t (.string s) (lo.map a.eval) (hi.map a.eval) none).run P w= .ok (.string (s.extract l hh)) w:=by
   rw[run_sliceAt_string w t _ _ _ _ hu];rcases hL with⟨e1,rfl⟩|⟨k1,e1⟩<;>rcases hH with⟨e2,rfl⟩|⟨k2,e2⟩<;>rw[e1,e2]
   .exact run_slice_string_all w t s hu
   .rw[run_slice_string_h w t s hu k2 _ om om];simp
   .rw[run_slice_string_l w t s hu k1 _ om om];simp
   .rw[run_slice_string w t s k1 k2 _ _ hu om om om];simp
  exact eM.pure hM (by rw[Sem.run_bind,fv];rfl) hK (dG.val _ rfl)
 .exact h.elim
theorem Lr(hM:aN ρ m w)(hE:bu ρ w ba a.tmps){t e:TypeId}{esz:Nat}{x:Operand}{lo hi mx:Option Operand}{x':X}{GR fm mx':Option X}(hu:P.underlying t=some (.slice e))(hs:fE P e=some esz)(hx:bG x=some x')(iY:jp lo=some GR)(Cm:jp hi=some fm)(R9:jp mx=some mx')(h:step P (.WC esz x' GR fm mx') ba m K):eM P (do pure (Next.value (<-Instr.sliceAt t (a.eval x) (lo.map a.eval) (hi.map a.eval) (mx.map a.eval)))) ρ m w K:=by
 have hd:=aU hE hx;generalize a.eval x=v at hd|-;cases mx with
 |none=>
  simp[jp]at R9;subst R9;simp only[step]at h;simp only[Option.map_none];obtain⟨l,hl,h⟩:=be.1 h;have hL:=kG hE iY hl;generalize x'.ev ba=c at hd h;split at h
  .rename_i e2 elems;rcases cU.1 h with⟨he,g1⟩|⟨_,g1⟩
   case inr=>exact g1.elim
   have he:e2=esz:=aaX he;subst he;obtain⟨hh,hk,g2⟩:=be.1 g1;rcases cU.1 g2 with⟨hb,hK⟩|⟨_,g3⟩
   case inr=>exact g3.elim
   rw[aaJ,ack,ack]at hb;have hH:=kG hE Cm hk;cases hd with
   |nil _ ad cap hc=>
    simp at hb;have hz:hh=0:=om;have Vw:l=0:=om;subst hz Vw;refine eM.pure hM (by rw[Sem.run_bind,Ck hu hs ad 0 cap (aad _) hL hH (aah _) (aad _)];rfl) hK ?_
    exact dG.nil e2 _ (cap-0) om
   |sl _ _ b off cap u hS uK bF eu hc cL=>
    refine eM.pure hM (by rw[Sem.run_bind,Ck hu hs _ _ cap uK hL hH hb.1 om];rfl) hK ?_
    show dG ρ.S w _ (.slice (if cap=l then _ else _) (hh-l) (cap-l))
    have hlen:((elems.take hh).drop l).length=hh-l:=by simp;omega
    rcases Nat.eq_or_lt_of_le hb.1 with rfl|ay
    .have:(elems.take l).drop l=[]:=aaW (by rw[hlen];omega)
     rw[this,aea];exact .nil e2 _ _ om
    .rw[if_neg om];have WR:(Option.map (λx:Addr=>x.add (l*e2)) (some ⟨b,off,none⟩))=some ⟨b,off+l*e2,none⟩:=by
      simp only[aaS,Addr.add];split
      .rename_i h0;simp[h0]
      .rfl
     rw[WR,<-hlen];have get:∀(i:Nat)cs,((elems.take hh).drop l)[i]? =some cs->elems[l+i]? =some cs:=λi cs hi=>by
      rw[adi,abI]at hi;split at hi
      .exact hi
      .cases hi
     exact dG.sl e2 _ b (off+l*e2) (cap-l) (λi j=>u (l+i) j) hS om om (λcs fF=>eu cs (acQ (adM fF)))
      (λi cs j d hi hj=>by rw[<-hc (l+i) cs j d (get i cs hi) hj];congr 2;rw[ade];omega)
      (λi cs j d hi hj=>cL (l+i) cs j d (get i cs hi) hj)
  .rename_i id e2 Gt s7;obtain⟨bk,hb,h⟩:=be.1 h;rw[aX]at hb;cases bk<;>simp only at h
   rename_i Aj elems;rcases cU.1 h with⟨he,g1⟩|⟨_,g1⟩
   case inr=>exact g1.elim
   have he:e2=esz:=aaX he;subst he;obtain⟨hh,hk,g2⟩:=be.1 g1;rcases cU.1 g2 with⟨hbb,hK⟩|⟨_,g3⟩
   case inr=>exact g3.elim
   rw[aaJ,ack,ack]at hbb;obtain⟨h2,h3,h4,h5,td⟩:=hM.bk id _ hb;clear td;rw[jG,h2]at hk;rw[h2]at hbb;have hH:=kG hE Cm hk;obtain⟨q1,q2,q3,q4,q5,ad,rfl,u0⟩:=hd;have b1:s7.getD (ρ.aW (.aA id)).len-Gt<=(ρ.aW (.aA id)).cap-Gt:=om;have b2:hh<=(ρ.aW (.aA id)).cap-Gt:=om;refine eM.pure hM (by rw[Sem.run_bind,Ck hu hs ad _ _ b1 hL hH hbb.1 b2];rfl) hK ?_
   rw[lZ,lZ];refine⟨q1,by simp;omega,by simp;omega,q4,q5,(if(ρ.aW (.aA id)).cap-Gt=l then ad else ad.map (λx:Addr=>x.add (l*e2))),?_,?_⟩
   .have c1:hh-l=(some (Gt+hh)).getD (ρ.aW (.aA id)).len-(Gt+l):=by simp;omega
    have c2:(ρ.aW (.aA id)).cap-Gt-l=(ρ.aW (.aA id)).cap-(Gt+l):=om;show Value.slice _ (hh-l) ((ρ.aW (.aA id)).cap-Gt-l)=_;rw[c1,c2]
   .intro ay;rw[if_neg om,u0 om];simp only[aaS,Addr.add];split
    .rename_i h0;simp[ade,h0]
    .simp[ade,acL]
  .exact h.elim
 |some mo=>
  simp only[jp,XX,V3]at R9;obtain⟨m',SN,R9⟩:=R9;cases R9;simp only[step]at h;rcases cU.1 h with⟨hc,hK⟩|⟨_,g⟩
  case inr=>
   obtain⟨l,hl,g⟩:=be.1 g;obtain⟨E,hE',g⟩:=be.1 g;obtain⟨hh,hk,g⟩:=be.1 g;obtain⟨ZS,R9,g⟩:=be.1 g;rcases cU.1 g with⟨hc,hK⟩|⟨_,g⟩
   case inr=>exact g.elim
   simp only[aaJ,ack]at hc;obtain⟨c1,c2,c3,c4,c5⟩:=hc;have hL:=kG hE iY hl;have hH:=kG hE Cm hk;obtain⟨kd,hmv⟩:=D5 R9 (aU hE SN);obtain⟨ad,cap,vs,rfl,hle,hcm,_⟩:=o4 hM hE' hd;cases lo with
   |none=>
    simp[jp]at iY;subst iY;simp at c1
   |some Gt=>
    cases hi with
    |none=>
     simp[jp]at Cm;subst Cm;simp at c2
    |some s7=>
     rcases hL with⟨hL,_⟩|⟨k1,hL⟩
     .simp at hL
     rcases hH with⟨hH,_⟩|⟨k2,hH⟩
     .simp at hH
     have he:P.elem t=e:=by simp[Program.elem,hu]
     have xb:P.underlying t=some (.slice (P.elem t)):=by rw[he];exact hu
     have eu:(sizeOf (P.elem t)).run P w= .ok esz w:=by rw[he];exact gv hs
     refine eM.pure hM (v:=sliced ad l hh ZS esz) ?_ hK trivial;rw[hL,hH,aaS,hmv,Sem.run_bind,run_sliceAt_slice _ _ _ _ _ _ xb,run_slice_lhm w t ad E.length cap xb k1 k2 kd l hh ZS om om om om,eu];simp[Result.andThen]
  simp only[aaJ]at hc;obtain⟨⟨⟨c1,c2⟩,c3⟩,c4⟩:=hc;obtain⟨k',hmv⟩:=Js c3 (aU hE SN);cases lo with
  |some l0=>
   simp only[jp,XX,V3]at iY;obtain⟨l',_,iY⟩:=iY;cases iY;simp at c1
  |none=>
   cases hi with
   |none=>
    simp[jp]at Cm;subst Cm;simp[Gs]at c2
   |some h0=>
    simp only[jp,XX,V3]at Cm;obtain⟨h',hh',Cm⟩:=Cm;cases Cm;obtain⟨k,hhv⟩:=Js c2 (aU hE hh');have hv:∃ad len cap,v= .slice ad len cap:=by
     generalize x'.ev ba=c at hd c4;unfold Oa at c4;split at c4
     .cases hd with
      |nil _ ad cap hc=>exact⟨_,_,_,rfl⟩
      |sl _ _ b off cap u hS uK bF eu hc cL=>exact⟨_,_,_,rfl⟩
     .obtain⟨_,_,_,_,_,ad,rfl,_⟩:=hd;exact⟨_,_,_,rfl⟩
     .obtain⟨ad,rfl⟩:=hd;exact⟨_,_,_,rfl⟩
     .cases c4
    obtain⟨ad,len,cap,rfl⟩:=hv;obtain⟨b,hb⟩:=SM (w:=w) hu hs ad len cap (k:=k) (k':=k');refine eM.pure hM (v:= .slice b 0 0) ?_ hK ⟨b,rfl⟩;simp only[Option.map_none,aaS,hhv,hmv];rw[Sem.run_bind,hb];rfl
theorem yg(hM:aN ρ m w)(hE:bu ρ w ba a.tmps){neg:Bool}{t e:TypeId}{x:Operand}{x':X}(hu:P.underlying t=some (.slice e))(hx:bG x=some x')(h:step P (.N6 neg x') ba m K):eM P (do let v<-(do eqGuard (if neg then .neq else .eql) t x (.const (.slice none 0 0)) (a.eval x) (.slice none 0 0);binOp (if neg then .neq else .eql) t (a.eval x) (.slice none 0 0));pure (Next.value v)) ρ m w K:=by
 have hd:=aU hE hx;simp only[step]at h;generalize a.eval x=v at hd|-;generalize x'.ev ba=c at hd h;have gU:∀(ad:Option Addr)(n cp:Nat),v= .slice ad n cp->K (ar (if neg then !ad.isNone else ad.isNone)) m->
   eM P (do let v<-(do eqGuard (if neg then .neq else .eql) t x (.const (.slice none 0 0)) v (.slice none 0 0);binOp (if neg then .neq else .eql) t v (.slice none 0 0));pure (Next.value v)) ρ m w K:=by
  intro ad n cp hv hK;subst hv;refine eM.pure hM (v:= .bool (if neg then !ad.isNone else ad.isNone)) ?_ hK (cS rfl)
  have hg:∀op,(eqGuard op t x (.const (.slice none 0 0)) (.slice ad n cp) (.slice none 0 0)).run P w= .ok () w:=λop=>by
   cases op<;>simp[eqGuard]
  rw[Sem.run_bind,Sem.run_bind,hg];cases neg
  .simp only[Result.andThen_ok,adz,if_false,Lib.run_eql_slice_nil w t e ad n cp 0 0 hu,Sem.run_pure]
  .simp only[Result.andThen_ok,if_true,run_neq_slice_nil_any w t e ad n cp 0 0 hu,Sem.run_pure]
 have both:∀(ad:Option Addr)(n cp:Nat),v= .slice ad n cp->(K (ar true) m/\K (ar false) m)->_:=λad n cp hv hK=>gU ad n cp hv (by
  generalize (if neg then !ad.isNone else ad.isNone)=b
  cases b
  .exact hK.2
  .exact hK.1)
 split at h
 .rename_i e2 elems;rcases cU.1 h with⟨_,g⟩|⟨gj,g⟩
  .cases hd with
   |nil _ ad cap hc=>exact both _ _ _ rfl g
   |sl _ _ b off cap u hS uK bF eu hc cL=>exact both _ _ _ rfl g
  .cases hd with
   |nil _ ad cap hc=>simp at gj
   |sl _ _ b off cap u hS uK bF eu hc cL=>exact gU _ _ _ rfl (by cases neg<;>simpa using g)
 .rename_i id e2 lo hi;obtain⟨bk,hb,h⟩:=be.1 h;rw[aX]at hb;cases bk<;>simp only at h
  rename_i Aj elems;obtain⟨h2,h3,h4,h5,td⟩:=hM.bk id _ hb;clear td;obtain⟨q1,q2,q3,q4,q5,ad,rfl,u0⟩:=hd;rw[jG,h2]at h;rcases cU.1 h with⟨_,g⟩|⟨gj,g⟩
  .exact both _ _ _ rfl g
  .have ZZ:=ad9 gj;have:=u0 om;subst this;exact gU _ _ _ rfl (by cases neg<;>simpa using g)
 .obtain⟨ad,rfl⟩:=hd;exact both _ _ _ rfl h
 .exact h.elim
end
end Go.AM
