/- Part 4 of 16. -/
import Derived.Test.YtodckkkbiidffaaGreatDoorG02
import Derived.Test.YtodckkkbiidffaaGreatDoorG03
import Derived.Laws.Slices
import Derived.Laws.Strings2
import Derived.WalkSpells
import Derived.Lib.SliceRun
set_option linter.unusedVariables false
set_option linter.unusedSimpArgs false
set_option maxRecDepth 100000
set_option maxHeartbeats 0
namespace Go.AM
section
variable {P:Program} {U:bF} {m:Mem} {w:World} {aX:List CV} {a:Act} {K:CV->Mem->Prop}
theorem Aa{t e:TypeId}{esz:Nat}(hu:P.underlying t=some (.slice e))(hs:eM P e=some esz)(ad:Option Addr)(len cap:Nat)(oh:len<=cap){lo hi:Option Value}{l h:Nat}(gY:(lo=none/\l=0)\/∃k,lo=some (.int k (l:Int)))(xR:(hi=none/\h=len)\/∃k,hi=some (.int k (h:Int)))(h1:l<=h)(h2:h<=cap):
  (Instr.sliceAt t (.slice ad len cap) lo hi none).run P w= .ok (sliced ad l h cap esz) w:=by
 have he:P.elem t=e:=by simp[Program.elem,hu]
 have uQ:P.underlying t=some (.slice (P.elem t)):=by rw[he];exact hu
 have dn:(sizeOf (P.elem t)).run P w= .ok esz w:=by rw[he];exact fp hs
 rw[run_sliceAt_slice _ _ _ _ _ _ uQ];rcases gY with⟨rfl,rfl⟩|⟨k,rfl⟩<;>rcases xR with⟨rfl,rfl⟩|⟨k',rfl⟩
 .rw[run_slice_all w t ad _ cap uQ,dn];rfl
 .rw[run_slice_h w t ad len cap uQ k' h om om,dn];simp[Result.andThen]
 .rw[run_slice_l w t ad _ cap uQ k l om om,dn];simp[Result.andThen]
 .rw[run_slice_lh w t ad len cap uQ k k' l h om om om,dn];simp[Result.andThen]
theorem O0{t e:TypeId}{esz:Nat}(hu:P.underlying t=some (.slice e))(hs:eM P e=some esz)(ad:Option Addr)(len cap:Nat){k k':IntKind}:
  ∃b,(Instr.sliceAt t (.slice ad len cap) none (some (.int k 0)) (some (.int k' 0))).run P w= .ok (.slice b 0 0) w:=by
 have he:P.elem t=e:=by simp[Program.elem,hu]
 have uQ:P.underlying t=some (.slice (P.elem t)):=by rw[he];exact hu
 have dn:(sizeOf (P.elem t)).run P w= .ok esz w:=by rw[he];exact fp hs
 rw[run_sliceAt_slice _ _ _ _ _ _ uQ,run_slice_hm w t ad len cap uQ k k' 0 0 om om om,dn];exact⟨_,rfl⟩
theorem B3{c:CV}{v:Value}{k:Nat}(h:p4 c=some k)(hd:bZ U w c v):∃kd,v= .int kd (k:Int):=by
 unfold p4 at h;split at h
 .cases h;exact⟨_,o6 hd⟩
 .cases h
theorem GJ{c:CV}{v:Value}(h:XJ c=true)(hd:bZ U w c v):∃kd,v= .int kd 0:=by
 unfold XJ at h;split at h
 .have:=of_decide_eq_true h;subst this;exact⟨_,o6 hd⟩
 .cases h
theorem je(hE:bi U w aX a.tmps){o:Option Operand}{o':Option X}(h:ia o=some o'){d k:Nat}(hk:kO aX o' d=some k):
  (o.map a.eval=none/\k=d)\/∃kd,o.map a.eval=some (.int kd (k:Int)):=by
 cases o with
 |none=>
  simp[ia]at h;subst h;simp[kO]at hk;exact .inl ⟨rfl,hk.symm⟩
 |some x=>
  simp only[ia,RX,N0]at h;obtain⟨x',hx,h⟩:=h;cases h;obtain⟨kd,hv⟩:=B3 hk (aR hE hx);exact .inr ⟨kd,by simp[hv]⟩
theorem En(hM:au U m w)(hE:bi U w aX a.tmps){t:TypeId}{x:Operand}{lo hi:Option Operand}{x':X}{Eo ew:Option X}(hu:P.underlying t=some .string)(hx:bm x=some x')(gY:ia lo=some Eo)(xR:ia hi=some ew)(h:step P (.HU x' Eo ew) aX m K):dh P (do pure (Next.value (<-Instr.sliceAt t (a.eval x) (lo.map a.eval) (hi.map a.eval) none))) U m w K:=by
 have hd:=aR hE hx;generalize a.eval x=v at hd|-;simp only[step]at h;generalize x'.ev aX=c at hd h;split at h
 .rename_i s;have hv:=(bJ hd).1;subst hv;obtain⟨l,hl,h⟩:=aZ.1 h;obtain⟨hh,hk,h⟩:=aZ.1 h;rcases cn.1 h with⟨hb,hK⟩|⟨_,g⟩
  case inr=>exact g.elim
  rw[aab,abn,abn]at hb;have hL:=je hE gY hl;have hH:=je hE xR hk;have cU:(Instr.sliceAt t (.string s) (lo.map a.eval) (hi.map a.eval) none).run P w= .ok (.string (s.extract l hh)) w:=by
   rw[run_sliceAt_string w t _ _ _ _ hu];rcases hL with⟨e1,rfl⟩|⟨k1,e1⟩<;>rcases hH with⟨e2,rfl⟩|⟨k2,e2⟩<;>rw[e1,e2]
   .exact run_slice_string_all w t s hu
   .rw[run_slice_string_h w t s hu k2 _ om om];simp
   .rw[run_slice_string_l w t s hu k1 _ om om];simp
   .rw[run_slice_string w t s k1 k2 _ _ hu om om om];simp
  exact dh.pure hM (by rw[Sem.run_bind,cU];rfl) hK (c7.val _ rfl)
 .exact h.elim
theorem Ia(hM:au U m w)(hE:bi U w aX a.tmps){t e:TypeId}{esz:Nat}{x:Operand}{lo hi mx:Option Operand}{x':X}{Eo ew YJ:Option X}(hu:P.underlying t=some (.slice e))(hs:eM P e=some esz)(hx:bm x=some x')(gY:ia lo=some Eo)(xR:ia hi=some ew)(Om:ia mx=some YJ)(h:step P (.nR esz x' Eo ew YJ) aX m K):dh P (do pure (Next.value (<-Instr.sliceAt t (a.eval x) (lo.map a.eval) (hi.map a.eval) (mx.map a.eval)))) U m w K:=by
 have hd:=aR hE hx;generalize a.eval x=v at hd|-;cases mx with
 |none=>
  simp[ia]at Om;subst Om;simp only[step]at h;simp only[Option.map_none];obtain⟨l,hl,h⟩:=aZ.1 h;have hL:=je hE gY hl;generalize x'.ev aX=c at hd h;split at h
  .rename_i e2 elems;rcases cn.1 h with⟨he,g1⟩|⟨_,g1⟩
   case inr=>exact g1.elim
   have he:e2=esz:=aai he;subst he;obtain⟨hh,hk,g2⟩:=aZ.1 g1;rcases cn.1 g2 with⟨hb,hK⟩|⟨_,g3⟩
   case inr=>exact g3.elim
   rw[aab,abn,abn]at hb;have hH:=je hE xR hk;cases hd with
   |nil _ ad cap hc=>
    simp at hb;have hz:hh=0:=om;have QX:l=0:=om;subst hz QX;refine dh.pure hM (by rw[Sem.run_bind,Aa hu hs ad 0 cap (aaj _) hL hH (Ts _) (aaj _)];rfl) hK ?_
    exact c7.nil e2 _ (cap-0) om
   |sl _ _ b off cap u hS oh bc dn hc cq=>
    refine dh.pure hM (by rw[Sem.run_bind,Aa hu hs _ _ cap oh hL hH hb.1 om];rfl) hK ?_
    show c7 U.S w _ (.slice (if cap=l then _ else _) (hh-l) (cap-l))
    have hlen:((elems.take hh).drop l).length=hh-l:=by simp;omega
    rcases Nat.eq_or_lt_of_le hb.1 with rfl|aD
    .have:(elems.take l).drop l=[]:=aag (by rw[hlen];omega)
     rw[this,ack];exact .nil e2 _ _ om
    .rw[if_neg om];have Si:(Option.map (λx:Addr=>x.add (l*e2)) (some ⟨b,off,none⟩))=some ⟨b,off+l*e2,none⟩:=by
      simp only[aaz,Addr.add];split
      .rename_i h0;simp[h0]
      .rfl
     rw[Si,<-hlen];have get:∀(i:Nat)cs,((elems.take hh).drop l)[i]? =some cs->elems[l+i]? =some cs:=λi cs hi=>by
      rw[abp,aa8]at hi;split at hi
      .exact hi
      .cases hi
     exact c7.sl e2 _ b (off+l*e2) (cap-l) (λi j=>u (l+i) j) hS om om (λcs eB=>dn cs (abq (ab3 eB)))
      (λi cs j d hi hj=>by rw[<-hc (l+i) cs j d (get i cs hi) hj];congr 2;rw[abr];omega)
      (λi cs j d hi hj=>cq (l+i) cs j d (get i cs hi) hj)
  .rename_i id e2 D4 u7;obtain⟨bk,hb,h⟩:=aZ.1 h;rw[aT]at hb;cases bk<;>simp only at h
   rename_i qW elems;rcases cn.1 h with⟨he,g1⟩|⟨_,g1⟩
   case inr=>exact g1.elim
   have he:e2=esz:=aai he;subst he;obtain⟨hh,hk,g2⟩:=aZ.1 g1;rcases cn.1 g2 with⟨YK,hK⟩|⟨_,g3⟩
   case inr=>exact g3.elim
   rw[aab,abn,abn]at YK;obtain⟨h2,h3,h4,h5,qT⟩:=hM.bk id _ hb;clear qT;rw[iB,h2]at hk;rw[h2]at YK;have hH:=je hE xR hk;obtain⟨q1,q2,q3,q4,q5,ad,rfl,sY⟩:=hd;have b1:u7.getD (U.aH (.al id)).len-D4<=(U.aH (.al id)).cap-D4:=om;have b2:hh<=(U.aH (.al id)).cap-D4:=om;refine dh.pure hM (by rw[Sem.run_bind,Aa hu hs ad _ _ b1 hL hH YK.1 b2];rfl) hK ?_
   rw[lO,lO];refine⟨q1,by simp;omega,by simp;omega,q4,q5,(if(U.aH (.al id)).cap-D4=l then ad else ad.map (λx:Addr=>x.add (l*e2))),?_,?_⟩
   .have c1:hh-l=(some (D4+hh)).getD (U.aH (.al id)).len-(D4+l):=by simp;omega
    have c2:(U.aH (.al id)).cap-D4-l=(U.aH (.al id)).cap-(D4+l):=om;show Value.slice _ (hh-l) ((U.aH (.al id)).cap-D4-l)=_;rw[c1,c2]
   .intro aD;rw[if_neg om,sY om];simp only[aaz,Addr.add];split
    .rename_i h0;simp[abr,h0]
    .simp[abr,abo]
  .exact h.elim
 |some mo=>
  simp only[ia,RX,N0]at Om;obtain⟨m',Sj,Om⟩:=Om;cases Om;simp only[step]at h;rcases cn.1 h with⟨hc,hK⟩|⟨_,g⟩
  case inr=>
   obtain⟨l,hl,g⟩:=aZ.1 g;obtain⟨E,hE',g⟩:=aZ.1 g;obtain⟨hh,hk,g⟩:=aZ.1 g;obtain⟨UP,Om,g⟩:=aZ.1 g;rcases cn.1 g with⟨hc,hK⟩|⟨_,g⟩
   case inr=>exact g.elim
   simp only[aab,abn]at hc;obtain⟨c1,c2,c3,c4,c5⟩:=hc;have hL:=je hE gY hl;have hH:=je hE xR hk;obtain⟨kd,YL⟩:=B3 Om (aR hE Sj);obtain⟨ad,cap,vs,rfl,hle,On,_⟩:=ni hM hE' hd;cases lo with
   |none=>
    simp[ia]at gY;subst gY;simp at c1
   |some D4=>
    cases hi with
    |none=>
     simp[ia]at xR;subst xR;simp at c2
    |some u7=>
     rcases hL with⟨hL,_⟩|⟨k1,hL⟩
     .simp at hL
     rcases hH with⟨hH,_⟩|⟨k2,hH⟩
     .simp at hH
     have he:P.elem t=e:=by simp[Program.elem,hu]
     have uQ:P.underlying t=some (.slice (P.elem t)):=by rw[he];exact hu
     have dn:(sizeOf (P.elem t)).run P w= .ok esz w:=by rw[he];exact fp hs
     refine dh.pure hM (v:=sliced ad l hh UP esz) ?_ hK trivial;rw[hL,hH,aaz,YL,Sem.run_bind,run_sliceAt_slice _ _ _ _ _ _ uQ,run_slice_lhm w t ad E.length cap uQ k1 k2 kd l hh UP om om om om,dn];simp[Result.andThen]
  simp only[aab]at hc;obtain⟨⟨⟨c1,c2⟩,c3⟩,c4⟩:=hc;obtain⟨k',YL⟩:=GJ c3 (aR hE Sj);cases lo with
  |some l0=>
   simp only[ia,RX,N0]at gY;obtain⟨l',_,gY⟩:=gY;cases gY;simp at c1
  |none=>
   cases hi with
   |none=>
    simp[ia]at xR;subst xR;simp[D3]at c2
   |some h0=>
    simp only[ia,RX,N0]at xR;obtain⟨h',hh',xR⟩:=xR;cases xR;obtain⟨k,hhv⟩:=GJ c2 (aR hE hh');have hv:∃ad len cap,v= .slice ad len cap:=by
     generalize x'.ev aX=c at hd c4;unfold KE at c4;split at c4
     .cases hd with
      |nil _ ad cap hc=>exact⟨_,_,_,rfl⟩
      |sl _ _ b off cap u hS oh bc dn hc cq=>exact⟨_,_,_,rfl⟩
     .obtain⟨_,_,_,_,_,ad,rfl,_⟩:=hd;exact⟨_,_,_,rfl⟩
     .obtain⟨ad,rfl⟩:=hd;exact⟨_,_,_,rfl⟩
     .cases c4
    obtain⟨ad,len,cap,rfl⟩:=hv;obtain⟨b,hb⟩:=O0 (w:=w) hu hs ad len cap (k:=k) (k':=k');refine dh.pure hM (v:= .slice b 0 0) ?_ hK ⟨b,rfl⟩;simp only[Option.map_none,aaz,hhv,YL];rw[Sem.run_bind,hb];rfl
theorem vR(hM:au U m w)(hE:bi U w aX a.tmps){neg:Bool}{t e:TypeId}{x:Operand}{x':X}(hu:P.underlying t=some (.slice e))(hx:bm x=some x')(h:step P (.xW neg x') aX m K):dh P (do let v<-(do eqGuard (if neg then .neq else .eql) t x (.const (.slice none 0 0)) (a.eval x) (.slice none 0 0);binOp (if neg then .neq else .eql) t (a.eval x) (.slice none 0 0));pure (Next.value v)) U m w K:=by
 have hd:=aR hE hx;simp only[step]at h;generalize a.eval x=v at hd|-;generalize x'.ev aX=c at hd h;have iy:∀(ad:Option Addr)(n cp:Nat),v= .slice ad n cp->K (aE (if neg then !ad.isNone else ad.isNone)) m->
   dh P (do let v<-(do eqGuard (if neg then .neq else .eql) t x (.const (.slice none 0 0)) v (.slice none 0 0);binOp (if neg then .neq else .eql) t v (.slice none 0 0));pure (Next.value v)) U m w K:=by
  intro ad n cp hv hK;subst hv;refine dh.pure hM (v:= .bool (if neg then !ad.isNone else ad.isNone)) ?_ hK (cy rfl)
  have hg:∀op,(eqGuard op t x (.const (.slice none 0 0)) (.slice ad n cp) (.slice none 0 0)).run P w= .ok () w:=λop=>by
   cases op<;>simp[eqGuard]
  rw[Sem.run_bind,Sem.run_bind,hg];cases neg
  .simp only[Result.andThen_ok,abQ,if_false,Lib.run_eql_slice_nil w t e ad n cp 0 0 hu,Sem.run_pure]
  .simp only[Result.andThen_ok,if_true,run_neq_slice_nil_any w t e ad n cp 0 0 hu,Sem.run_pure]
 have both:∀(ad:Option Addr)(n cp:Nat),v= .slice ad n cp->(K (aE true) m/\K (aE false) m)->_:=λad n cp hv hK=>iy ad n cp hv (by
  generalize (if neg then !ad.isNone else ad.isNone)=b
  cases b
  .exact hK.2
  .exact hK.1)
 split at h
 .rename_i e2 elems;rcases cn.1 h with⟨_,g⟩|⟨dt,g⟩
  .cases hd with
   |nil _ ad cap hc=>exact both _ _ _ rfl g
   |sl _ _ b off cap u hS oh bc dn hc cq=>exact both _ _ _ rfl g
  .cases hd with
   |nil _ ad cap hc=>simp at dt
   |sl _ _ b off cap u hS oh bc dn hc cq=>exact iy _ _ _ rfl (by cases neg<;>simpa using g)
 .rename_i id e2 lo hi;obtain⟨bk,hb,h⟩:=aZ.1 h;rw[aT]at hb;cases bk<;>simp only at h
  rename_i qW elems;obtain⟨h2,h3,h4,h5,qT⟩:=hM.bk id _ hb;clear qT;obtain⟨q1,q2,q3,q4,q5,ad,rfl,sY⟩:=hd;rw[iB,h2]at h;rcases cn.1 h with⟨_,g⟩|⟨dt,g⟩
  .exact both _ _ _ rfl g
  .have UX:=acs dt;have:=sY om;subst this;exact iy _ _ _ rfl (by cases neg<;>simpa using g)
 .obtain⟨ad,rfl⟩:=hd;exact both _ _ _ rfl h
 .exact h.elim
end
end Go.AM
