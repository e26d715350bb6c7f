/- Part 4 of 16. -/
import Derived.Test.YtodckkkbiidffaaGreatDoorK02
import Derived.Test.YtodckkkbiidffaaGreatDoorK03
import Derived.Laws.Slices
import Derived.Laws.Strings2
import Derived.WalkSpells
import Derived.Lib.SliceRun
set_option linter.unusedVariables false
set_option linter.unusedSimpArgs false
set_option maxRecDepth 100000
set_option maxHeartbeats 0
namespace Go.AM
section
variable {P:Program} {ρ:bI} {m:Mem} {w:World} {aX:List CV} {a:Act} {K:CV->Mem->Prop}
theorem AZ{t e:TypeId}{esz:Nat}(hu:P.underlying t=some (.slice e))(hs:eL P e=some esz)(ad:Option Addr)(len cap:Nat)(oT:len<=cap){lo hi:Option Value}{l h:Nat}(iT:(lo=none/\l=0)\/∃k,lo=some (.int k (l:Int)))(A0:(hi=none/\h=len)\/∃k,hi=some (.int k (h:Int)))(h1:l<=h)(h2:h<=cap):
  (Instr.sliceAt t (.slice ad len cap) lo hi none).run P w= .ok (sliced ad l h cap esz) w:=by
 have he:P.elem t=e:=by simp[Program.elem,hu]
 have vK:P.underlying t=some (.slice (P.elem t)):=by rw[he];exact hu
 have dk:(sizeOf (P.elem t)).run P w= .ok esz w:=by rw[he];exact fq hs
 rw[run_sliceAt_slice _ _ _ _ _ _ vK];rcases iT with⟨rfl,rfl⟩|⟨k,rfl⟩<;>rcases A0 with⟨rfl,rfl⟩|⟨k',rfl⟩
 .rw[run_slice_all w t ad _ cap vK,dk];rfl
 .rw[run_slice_h w t ad len cap vK k' h om om,dk];simp[Result.andThen]
 .rw[run_slice_l w t ad _ cap vK k l om om,dk];simp[Result.andThen]
 .rw[run_slice_lh w t ad len cap vK k k' l h om om om,dk];simp[Result.andThen]
theorem Qm{t e:TypeId}{esz:Nat}(hu:P.underlying t=some (.slice e))(hs:eL P e=some esz)(ad:Option Addr)(len cap:Nat){k k':IntKind}:
  ∃b,(Instr.sliceAt t (.slice ad len cap) none (some (.int k 0)) (some (.int k' 0))).run P w= .ok (.slice b 0 0) w:=by
 have he:P.elem t=e:=by simp[Program.elem,hu]
 have vK:P.underlying t=some (.slice (P.elem t)):=by rw[he];exact hu
 have dk:(sizeOf (P.elem t)).run P w= .ok esz w:=by rw[he];exact fq hs
 rw[run_sliceAt_slice _ _ _ _ _ _ vK,run_slice_hm w t ad len cap vK k k' 0 0 om om om,dk];exact⟨_,rfl⟩
theorem C0{c:CV}{v:Value}{k:Nat}(h:qV c=some k)(hd:ce ρ w c v):∃kd,v= .int kd (k:Int):=by
 unfold qV at h;split at h
 .cases h;exact⟨_,pR hd⟩
 .cases h
theorem HO{c:CV}{v:Value}(h:Zt c=true)(hd:ce ρ w c v):∃kd,v= .int kd 0:=by
 unfold Zt at h;split at h
 .have:=of_decide_eq_true h;subst this;exact⟨_,pR hd⟩
 .cases h
theorem jB(hE:bl ρ w aX a.tmps){o:Option Operand}{o':Option X}(h:iA o=some o'){d k:Nat}(hk:li aX o' d=some k):
  (o.map a.eval=none/\k=d)\/∃kd,o.map a.eval=some (.int kd (k:Int)):=by
 cases o with
 |none=>
  simp[iA]at h;subst h;simp[li]at hk;exact .inl ⟨rfl,hk.symm⟩
 |some x=>
  simp only[iA,U6,N7]at h;obtain⟨x',hx,h⟩:=h;cases h;obtain⟨kd,hv⟩:=C0 hk (aR hE hx);exact .inr ⟨kd,by simp[hv]⟩
theorem Fp(hM:ay ρ m w)(hE:bl ρ w aX a.tmps){t:TypeId}{x:Operand}{lo hi:Option Operand}{x':X}{Fq eO:Option X}(hu:P.underlying t=some .string)(hx:bn x=some x')(iT:iA lo=some Fq)(A0:iA hi=some eO)(h:step P (.Jb x' Fq eO) aX m K):dd P (do pure (Next.value (<-Instr.sliceAt t (a.eval x) (lo.map a.eval) (hi.map a.eval) none))) ρ m w K:=by
 have hd:=aR hE hx;generalize a.eval x=v at hd|-;simp only[step]at h;generalize x'.ev aX=c at hd h;split at h
 .rename_i s;have hv:=(bF hd).1;subst hv;obtain⟨l,hl,h⟩:=aU.1 h;obtain⟨hh,hk,h⟩:=aU.1 h;rcases cn.1 h with⟨hb,hK⟩|⟨_,g⟩
  case inr=>exact g.elim
  rw[aab,aa9,aa9]at hb;have hL:=jB hE iT hl;have hH:=jB hE A0 hk;have cP:(Instr.sliceAt t (.string s) (lo.map a.eval) (hi.map a.eval) none).run P w= .ok (.string (s.extract l hh)) w:=by
   rw[run_sliceAt_string w t _ _ _ _ hu];rcases hL with⟨e1,rfl⟩|⟨k1,e1⟩<;>rcases hH with⟨e2,rfl⟩|⟨k2,e2⟩<;>rw[e1,e2]
   .exact run_slice_string_all w t s hu
   .rw[run_slice_string_h w t s hu k2 _ om om];simp
   .rw[run_slice_string_l w t s hu k1 _ om om];simp
   .rw[run_slice_string w t s k1 k2 _ _ hu om om om];simp
  exact dd.pure hM (by rw[Sem.run_bind,cP];rfl) hK (de.val _ rfl)
 .exact h.elim
theorem Jr(hM:ay ρ m w)(hE:bl ρ w aX a.tmps){t e:TypeId}{esz:Nat}{x:Operand}{lo hi mx:Option Operand}{x':X}{Fq eO mx':Option X}(hu:P.underlying t=some (.slice e))(hs:eL P e=some esz)(hx:bn x=some x')(iT:iA lo=some Fq)(A0:iA hi=some eO)(PU:iA mx=some mx')(h:step P (.oG esz x' Fq eO mx') aX m K):dd P (do pure (Next.value (<-Instr.sliceAt t (a.eval x) (lo.map a.eval) (hi.map a.eval) (mx.map a.eval)))) ρ m w K:=by
 have hd:=aR hE hx;generalize a.eval x=v at hd|-;cases mx with
 |none=>
  simp[iA]at PU;subst PU;simp only[step]at h;simp only[Option.map_none];obtain⟨l,hl,h⟩:=aU.1 h;have hL:=jB hE iT hl;generalize x'.ev aX=c at hd h;split at h
  .rename_i e2 elems;rcases cn.1 h with⟨he,g1⟩|⟨_,g1⟩
   case inr=>exact g1.elim
   have he:e2=esz:=aai he;subst he;obtain⟨hh,hk,g2⟩:=aU.1 g1;rcases cn.1 g2 with⟨hb,hK⟩|⟨_,g3⟩
   case inr=>exact g3.elim
   rw[aab,aa9,aa9]at hb;have hH:=jB hE A0 hk;cases hd with
   |nil _ ad cap hc=>
    simp at hb;have hz:hh=0:=om;have SE:l=0:=om;subst hz SE;refine dd.pure hM (by rw[Sem.run_bind,AZ hu hs ad 0 cap (aaj _) hL hH (Ym _) (aaj _)];rfl) hK ?_
    exact de.nil e2 _ (cap-0) om
   |sl _ _ b off cap u hS oT be dk hc cq=>
    refine dd.pure hM (by rw[Sem.run_bind,AZ hu hs _ _ cap oT hL hH hb.1 om];rfl) hK ?_
    show de ρ.S w _ (.slice (if cap=l then _ else _) (hh-l) (cap-l))
    have hlen:((elems.take hh).drop l).length=hh-l:=by simp;omega
    rcases Nat.eq_or_lt_of_le hb.1 with rfl|aC
    .have:(elems.take l).drop l=[]:=aag (by rw[hlen];omega)
     rw[this,ac3];exact .nil e2 _ _ om
    .rw[if_neg om];have T6:(Option.map (λx:Addr=>x.add (l*e2)) (some ⟨b,off,none⟩))=some ⟨b,off+l*e2,none⟩:=by
      simp only[aaD,Addr.add];split
      .rename_i h0;simp[h0]
      .rfl
     rw[T6,<-hlen];have get:∀(i:Nat)cs,((elems.take hh).drop l)[i]? =some cs->elems[l+i]? =some cs:=λi cs hi=>by
      rw[abj,aaM]at hi;split at hi
      .exact hi
      .cases hi
     exact de.sl e2 _ b (off+l*e2) (cap-l) (λi j=>u (l+i) j) hS om om (λcs fe=>dk cs (abo (acN fe)))
      (λi cs j d hi hj=>by rw[<-hc (l+i) cs j d (get i cs hi) hj];congr 2;rw[abf];omega)
      (λi cs j d hi hj=>cq (l+i) cs j d (get i cs hi) hj)
  .rename_i id e2 E5 we;obtain⟨bk,hb,h⟩:=aU.1 h;rw[aT]at hb;cases bk<;>simp only at h
   rename_i rQ elems;rcases cn.1 h with⟨he,g1⟩|⟨_,g1⟩
   case inr=>exact g1.elim
   have he:e2=esz:=aai he;subst he;obtain⟨hh,hk,g2⟩:=aU.1 g1;rcases cn.1 g2 with⟨hbb,hK⟩|⟨_,g3⟩
   case inr=>exact g3.elim
   rw[aab,aa9,aa9]at hbb;obtain⟨h2,h3,h4,h5,rM⟩:=hM.bk id _ hb;clear rM;rw[iW,h2]at hk;rw[h2]at hbb;have hH:=jB hE A0 hk;obtain⟨q1,q2,q3,q4,q5,ad,rfl,tN⟩:=hd;have b1:we.getD (ρ.aI (.aj id)).len-E5<=(ρ.aI (.aj id)).cap-E5:=om;have b2:hh<=(ρ.aI (.aj id)).cap-E5:=om;refine dd.pure hM (by rw[Sem.run_bind,AZ hu hs ad _ _ b1 hL hH hbb.1 b2];rfl) hK ?_
   rw[mf,mf];refine⟨q1,by simp;omega,by simp;omega,q4,q5,(if(ρ.aI (.aj id)).cap-E5=l then ad else ad.map (λx:Addr=>x.add (l*e2))),?_,?_⟩
   .have c1:hh-l=(some (E5+hh)).getD (ρ.aI (.aj id)).len-(E5+l):=by simp;omega
    have c2:(ρ.aI (.aj id)).cap-E5-l=(ρ.aI (.aj id)).cap-(E5+l):=om;show Value.slice _ (hh-l) ((ρ.aI (.aj id)).cap-E5-l)=_;rw[c1,c2]
   .intro aC;rw[if_neg om,tN om];simp only[aaD,Addr.add];split
    .rename_i h0;simp[abf,h0]
    .simp[abf,abg]
  .exact h.elim
 |some mo=>
  simp only[iA,U6,N7]at PU;obtain⟨m',T7,PU⟩:=PU;cases PU;simp only[step]at h;rcases cn.1 h with⟨hc,hK⟩|⟨_,g⟩
  case inr=>
   obtain⟨l,hl,g⟩:=aU.1 g;obtain⟨E,hE',g⟩:=aU.1 g;obtain⟨hh,hk,g⟩:=aU.1 g;obtain⟨Ww,PU,g⟩:=aU.1 g;rcases cn.1 g with⟨hc,hK⟩|⟨_,g⟩
   case inr=>exact g.elim
   simp only[aab,aa9]at hc;obtain⟨c1,c2,c3,c4,c5⟩:=hc;have hL:=jB hE iT hl;have hH:=jB hE A0 hk;obtain⟨kd,hmv⟩:=C0 PU (aR hE T7);obtain⟨ad,cap,vs,rfl,hle,PV,_⟩:=nO hM hE' hd;cases lo with
   |none=>
    simp[iA]at iT;subst iT;simp at c1
   |some E5=>
    cases hi with
    |none=>
     simp[iA]at A0;subst A0;simp at c2
    |some we=>
     rcases hL with⟨hL,_⟩|⟨k1,hL⟩
     .simp at hL
     rcases hH with⟨hH,_⟩|⟨k2,hH⟩
     .simp at hH
     have he:P.elem t=e:=by simp[Program.elem,hu]
     have vK:P.underlying t=some (.slice (P.elem t)):=by rw[he];exact hu
     have dk:(sizeOf (P.elem t)).run P w= .ok esz w:=by rw[he];exact fq hs
     refine dd.pure hM (v:=sliced ad l hh Ww esz) ?_ hK trivial;rw[hL,hH,aaD,hmv,Sem.run_bind,run_sliceAt_slice _ _ _ _ _ _ vK,run_slice_lhm w t ad E.length cap vK k1 k2 kd l hh Ww om om om om,dk];simp[Result.andThen]
  simp only[aab]at hc;obtain⟨⟨⟨c1,c2⟩,c3⟩,c4⟩:=hc;obtain⟨k',hmv⟩:=HO c3 (aR hE T7);cases lo with
  |some l0=>
   simp only[iA,U6,N7]at iT;obtain⟨l',_,iT⟩:=iT;cases iT;simp at c1
  |none=>
   cases hi with
   |none=>
    simp[iA]at A0;subst A0;simp[E4]at c2
   |some h0=>
    simp only[iA,U6,N7]at A0;obtain⟨h',hh',A0⟩:=A0;cases A0;obtain⟨k,hhv⟩:=HO c2 (aR hE hh');have hv:∃ad len cap,v= .slice ad len cap:=by
     generalize x'.ev aX=c at hd c4;unfold L8 at c4;split at c4
     .cases hd with
      |nil _ ad cap hc=>exact⟨_,_,_,rfl⟩
      |sl _ _ b off cap u hS oT be dk hc cq=>exact⟨_,_,_,rfl⟩
     .obtain⟨_,_,_,_,_,ad,rfl,_⟩:=hd;exact⟨_,_,_,rfl⟩
     .obtain⟨ad,rfl⟩:=hd;exact⟨_,_,_,rfl⟩
     .cases c4
    obtain⟨ad,len,cap,rfl⟩:=hv;obtain⟨b,hb⟩:=Qm (w:=w) hu hs ad len cap (k:=k) (k':=k');refine dd.pure hM (v:= .slice b 0 0) ?_ hK ⟨b,rfl⟩;simp only[Option.map_none,aaD,hhv,hmv];rw[Sem.run_bind,hb];rfl
theorem wW(hM:ay ρ m w)(hE:bl ρ w aX a.tmps){neg:Bool}{t e:TypeId}{x:Operand}{x':X}(hu:P.underlying t=some (.slice e))(hx:bn x=some x')(h:step P (.yP neg x') aX m K):dd P (do let v<-(do eqGuard (if neg then .neq else .eql) t x (.const (.slice none 0 0)) (a.eval x) (.slice none 0 0);binOp (if neg then .neq else .eql) t (a.eval x) (.slice none 0 0));pure (Next.value v)) ρ m w K:=by
 have hd:=aR hE hx;simp only[step]at h;generalize a.eval x=v at hd|-;generalize x'.ev aX=c at hd h;have gQ:∀(ad:Option Addr)(n cp:Nat),v= .slice ad n cp->K (aD (if neg then !ad.isNone else ad.isNone)) m->
   dd P (do let v<-(do eqGuard (if neg then .neq else .eql) t x (.const (.slice none 0 0)) v (.slice none 0 0);binOp (if neg then .neq else .eql) t v (.slice none 0 0));pure (Next.value v)) ρ m w K:=by
  intro ad n cp hv hK;subst hv;refine dd.pure hM (v:= .bool (if neg then !ad.isNone else ad.isNone)) ?_ hK (cA rfl)
  have hg:∀op,(eqGuard op t x (.const (.slice none 0 0)) (.slice ad n cp) (.slice none 0 0)).run P w= .ok () w:=λop=>by
   cases op<;>simp[eqGuard]
  rw[Sem.run_bind,Sem.run_bind,hg];cases neg
  .simp only[Result.andThen_ok,abL,if_false,Lib.run_eql_slice_nil w t e ad n cp 0 0 hu,Sem.run_pure]
  .simp only[Result.andThen_ok,if_true,run_neq_slice_nil_any w t e ad n cp 0 0 hu,Sem.run_pure]
 have both:∀(ad:Option Addr)(n cp:Nat),v= .slice ad n cp->(K (aD true) m/\K (aD false) m)->_:=λad n cp hv hK=>gQ ad n cp hv (by
  generalize (if neg then !ad.isNone else ad.isNone)=b
  cases b
  .exact hK.2
  .exact hK.1)
 split at h
 .rename_i e2 elems;rcases cn.1 h with⟨_,g⟩|⟨dh,g⟩
  .cases hd with
   |nil _ ad cap hc=>exact both _ _ _ rfl g
   |sl _ _ b off cap u hS oT be dk hc cq=>exact both _ _ _ rfl g
  .cases hd with
   |nil _ ad cap hc=>simp at dh
   |sl _ _ b off cap u hS oT be dk hc cq=>exact gQ _ _ _ rfl (by cases neg<;>simpa using g)
 .rename_i id e2 lo hi;obtain⟨bk,hb,h⟩:=aU.1 h;rw[aT]at hb;cases bk<;>simp only at h
  rename_i rQ elems;obtain⟨h2,h3,h4,h5,rM⟩:=hM.bk id _ hb;clear rM;obtain⟨q1,q2,q3,q4,q5,ad,rfl,tN⟩:=hd;rw[iW,h2]at h;rcases cn.1 h with⟨_,g⟩|⟨dh,g⟩
  .exact both _ _ _ rfl g
  .have WC:=adj dh;have:=tN om;subst this;exact gQ _ _ _ rfl (by cases neg<;>simpa using g)
 .obtain⟨ad,rfl⟩:=hd;exact both _ _ _ rfl h
 .exact h.elim
end
end Go.AM
