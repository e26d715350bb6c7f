/- Part 16 of 16. -/
import Derived.Test.YtodckkkbiidffaaGreatDoorK11
import Derived.Test.YtodckkkbiidffaaGreatDoorK12
import Derived.Test.YtodckkkbiidffaaGreatDoorK15
set_option linter.unusedVariables false
set_option linter.unusedSimpArgs false
set_option maxRecDepth 100000
set_option maxHeartbeats 0
namespace Go.Proofs.YtodckkkbiidffaaGreatDoor
open Proofs.Tryz
open Go.AM Go.ChangeShapes Go.WideShapes Go.ChangeAt Go.RowKit
namespace Kn
theorem Pw(k:Kr)(p:Nat)(l:List eh)(e:Int):(eC k p l e).l=k.l:=by unfold eC;split<;>rfl
theorem R5(k:Kr)(z a:Int):(px k z a).l=k.l:=rfl
theorem Px{k:Kr}(h:KI k){p:Nat}{c:Cl}(he:(gg k p c).2.eS=0):∃N,OX N k.l (gg k p c).1.l:=by
 refine⟨λ_=>False,?_⟩
 unfold gg kI at he|-;split at he
 .rename_i h1;exact absurd he h1
 rename_i h1;rw[if_neg h1];obtain⟨n,op,j,x,e1,e2,e3,e4,e5,e6,_⟩:=h.bo (Yk h1);have P4:lI k.l (Kn.bo k p c.fd (ow c.ag)).2.1=x:=by rw[e3,lI,Y6,e5];rfl
 rw[P4]at he|-;split at he
 .rename_i h4;rw[if_pos h4];unfold py;split
  .exact .refl _ _
  .exact .refl _ _
 rename_i h4;rw[if_neg h4];split at he
 .rename_i h5;rw[if_pos h5];unfold mP at he|-;split at he
  .rename_i h6;exact absurd he h6
  rename_i h6;rw[if_neg h6];obtain⟨_,_,_,_,_,w6⟩:=sZ (h.sm x (Tp e5)) (Yk h6);rw[R5,e3,setObj,Y6];exact OX.set _ e5 (by rw[w6];exact⟨rfl,rfl,rfl⟩)
 .rename_i h5;rw[if_neg h5];unfold n8;split
  .exact .refl _ _
  .exact .refl _ _
theorem R6{k:Kr}(h:KI k){p:Nat}{c:Cl}(he:(iJ k p c).2.eS=0):∃N,OX N k.l (iJ k p c).1.l:=by
 have he:(il k c (Kn.bo k p c.fd (s8 c))).2=0:=he;show ∃N,OX N k.l (il k c (Kn.bo k p c.fd (s8 c))).1.l;unfold il at he|-;split at he
 .rename_i h1;exact absurd he h1
 rename_i h1;rw[if_neg h1];split at he
 .rename_i h2;exact absurd he h2.2
 rename_i h2;rw[if_neg h2];unfold mA at he|-;split at he
 .rename_i h3;exact absurd he h3
 rename_i h3;rw[if_neg h3];split at he
 .cases he
 rename_i h4;rw[if_neg h4];split at he
 .rename_i h5;rw[if_pos h5];split at he
  .cases he
  rename_i h6;rw[if_neg h6];have he:(Ei k (gV k (Kn.bo k p c.fd (s8 c)).2.1 c.cE true false)).2.2=0:=he;show ∃N,OX N k.l (bv k _ _).l;rw[bv,if_pos he];exact⟨λ_=>False,Lp h _ he⟩
 rename_i h5;rw[if_neg h5];split at he
 .cases he
 rename_i h6;rw[if_neg h6];split at he
 .rename_i h7;rw[if_pos h7];obtain⟨j,_,g,_⟩:=uJ h (IQ _) he;exact⟨_,g⟩
 .rename_i h7;rw[if_neg h7];obtain⟨j,_,g,_⟩:=uJ h Pb he;exact⟨_,g⟩
theorem R7{l:List eh}{fd:Int}(h:(ut l fd).2.2=0):∀s,s∈l->s.has=true->s∈(ut l fd).1:=by
 unfold ut Tb.sL at h|-;split at h
 .rename_i h1;simp only[if_pos h1];exact(yv (l:=l) (o:=(Tb.dV (l.map jm) fd).1.dF) (r:=(Tb.dV (l.map jm) fd).1.bU) h).2
 .rename_i h1;exact absurd h h1
theorem R9{l:List eh}{fd n:Int}(h:(vW l fd n).2=0):∀s,s∈l->s.has=true->∃s',s'∈(vW l fd n).1/\s'.has=true/\s'.dF=s.dF:=by
 intro s hs hh;unfold vW Tb.xP at h|-;split at h
 .rename_i h1;obtain⟨i,t,hi,h3,h4,h5,h6⟩:=iK (l:=l) (fd:=fd) h1;split at h
  .cases h
  rename_i h2;split at h
  .cases h
  rename_i h9;simp only[if_pos h1,if_neg h2,if_neg h9];obtain⟨q,hq⟩:=aaa hs;have yU:i<l.length:=(Km.1 h3).1;have e1:(Tb.dV (l.map jm) fd).1.dF=t.dF:=by rw[h6]
  by_cases e:q=i
  .subst e;rw[h3]at hq;cases hq;refine⟨It ⟨true,⟨(Tb.dV (l.map jm) fd).1.dF,n⟩⟩,aal.2 ⟨_,?_,rfl⟩,rfl,e1⟩;rw[hi,Y6];exact List.mem_set (by simpa using yU) _
  .refine⟨s,aal.2 ⟨jm s,?_,rfl⟩,hh,rfl⟩;rw[hi,Y6];refine Tp (i:=q) ?_;rw[U7 (λe2=>e e2.symm),Tm,hq];rfl
 .rename_i h1;exact absurd h h1
theorem tn{k:Kr}{p:Nat}{y:bi}(hp:k.ps[p]? =some y)(bC:y.aL=true){c:Cl}(he:(iI k p c).2.eS=0)(h7:c.ag≠7):oF k (iI k p c).1/\∃z,(iI k p c).1.ps[p]? =some z/\z.aL=true:=by
 have uj:an k.ps p=y.aQ:=by rw[an,hp]
 have he:(jg (an k.ps p) c).2.2=0:=he;show oF k (eC k p _ _)/\∃z,(eC k p _ _).ps[p]? =some z/\z.aL=true;rw[eC,if_pos he];refine⟨Lr hp bC ?_,⟨_,fy hp _,bC⟩⟩;rw[uj]at he|-;unfold jg at he|-;rw[if_neg h7]at he|-;split
 .rename_i h8;rw[if_pos h8]at he;intro s hs hh;exact⟨s,R7 he s hs hh,hh,rfl⟩
 .rename_i h8;rw[if_neg h8]at he;exact R9 he
theorem yz{k:Kr}(h:KI k){p:Nat}{y:bi}(hp:k.ps[p]? =some y)(bC:y.aL=true)(he:(gW k p).2.eS=0):
  (∃N,OX N k.l (gW k p).1.l)/\oF k (gW k p).1/\∃z,(gW k p).1.ps[p]? =some z/\z.aL=true:=by
 unfold Kn.gW yi at he|-;split at he
 .rename_i h1;exact absurd he h1
 rename_i h1;rw[if_neg h1];obtain⟨_,a,b,_,C,_⟩:=yp h.ll (Yk h1);generalize fD k.l=P at*
 obtain⟨l1,⟨ea,eb⟩,e0⟩:=P;have hea:ea=a:=C.ea;have Wh:eb=b:=C.eb;subst hea Wh;unfold tc at he|-;split at he
 .rename_i h2;exact absurd he h2
 rename_i h2;rw[if_neg h2];obtain⟨i1,S1,O1⟩:=jj (k:=⟨l1,k.ops,k.ps⟩) hp (Yk h2);simp only at he h2 O1|-;generalize aF ⟨l1,k.ops,k.ps⟩ p (a:Nat) 896=RR at*
 obtain⟨⟨l2,o2,p2⟩,fd1,e1⟩:=RR;have XK:l2=l1:=O1.l;subst XK;have ia:∀m:Nat,o2[m]? =if m=i1 then some ⟨(a:Int),0⟩else k.ops[m]? :=O1.o
 have G0:p2=cS k.ps p S1:=O1.ps;have VF:p2[p]? =some {y with aQ:=S1}:=by rw[G0];exact fy hp S1
 split at he
 .rename_i h3;exact absurd he h3
 rename_i h3;rw[if_neg h3];obtain⟨i2,S2,O2⟩:=jj (k:=⟨l2,o2,p2⟩) VF (Yk h3);simp only at h3 O2|-;generalize aF ⟨l2,o2,p2⟩ p (b:Nat) 896=RR at*
 obtain⟨⟨l3,o3,p3⟩,fE,e2⟩:=RR;have ZA:l3=l2:=O2.l;subst ZA;have Z9:∀m:Nat,o3[m]? =if m=i2 then some ⟨(b:Int),0⟩else o2[m]? :=O2.o
 have hp3:p3=cS p2 p S2:=O2.ps;have Ls:p3[p]? =some {y with aQ:=S2}:=by rw[hp3];exact fy VF S2
 have Zj:i1≠i2:=λe=>by
  have:=O2.yS ⟨(a:Int),0⟩ (by show o2[i2]? =_;rw[ia,if_pos e.symm])
  have this:(a:Int)<0:=this;omega
 have VG:∀o,k.ops[i1]? =some o->o.bm<0:=O1.yS;have VH:∀o,k.ops[i2]? =some o->o.bm<0:=λo ho=>O2.yS o (by show o2[i2]? =_;rw[ia,if_neg Zj.symm];exact ho)
 have dh:∀i o,k.l[i]? =some o->o.ag≠0->i≠a/\i≠b:=λi o ho hk=>⟨λe=>hk (C.za o (e▸ho)),λe=>hk (C.zb o (e▸ho))⟩
 have go:∀i,i≠a->i≠b->l3[i]? =k.l[i]? :=C.go;have ga:l3[a]? =some (bP b):=C.ga;have gb:l3[b]? =some (bP a):=C.gb;refine⟨⟨λi=>i=a\/i=b,λi o ho hk=>⟨o,by rw[go i (dh i o ho hk).1 (dh i o ho hk).2];exact ho,rfl,rfl,rfl⟩,λi o ho hk=>?_⟩,⟨λj o ho hk=>⟨o,by rw[show(Kr.mk l3 o3 p3).l=l3 from rfl,go j (dh j o ho hk).1 (dh j o ho hk).2];exact ho,rfl,rfl,λ_ h=>h,λ_ h=>.inl h⟩,λm o ho h0=>?_,λt z hz hl=>?_,λj o ho hk=>?_,λm o ho=>?_,λt z hz hl=>?_⟩,⟨_,Ls,bC⟩⟩
 .by_cases e:i=a
  .subst e;rw[ga]at ho;cases ho;exact .inr ⟨.inl rfl,rfl⟩
  by_cases e2:i=b
  .subst e2;rw[gb]at ho;cases ho;exact .inr ⟨.inr rfl,rfl⟩
  .rw[go i e e2]at ho;exact .inl ⟨o,ho,hk⟩
 .refine⟨o,?_,rfl⟩;show o3[m]? =_;rw[Z9,if_neg (λe=>by subst e;have:=VH o ho;omega),ia,if_neg (λe=>by subst e;have:=VG o ho;omega)]
  exact ho
 .by_cases e:t=p
  .subst e;rw[hp]at hz;cases hz;exact⟨_,Ls,hl,λs hs hh=>⟨s,O2.old s (O1.old s hs hh) hh,hh,rfl⟩⟩
  .exact⟨z,by show p3[t]? =_;rw[hp3,kn e,G0,kn e];exact hz,hl,λs hs hh=>⟨s,hs,hh,rfl⟩⟩
 .have ho:l3[j]? =some o:=ho;by_cases e:j=a
  .subst e;exact .inr ⟨p,_,⟨true,i1,896⟩,i1,⟨(j:Int),0⟩,Ls,bC,O2.old _ O1.new rfl,rfl,rfl,by show o3[i1]? =_;rw[Z9,if_neg Zj,ia,if_pos rfl],rfl⟩
  by_cases e2:j=b
  .subst e2;exact .inr ⟨p,_,⟨true,i2,896⟩,i2,⟨(j:Int),0⟩,Ls,bC,O2.new,rfl,rfl,by show o3[i2]? =_;rw[Z9,if_pos rfl],rfl⟩
  .rw[go j e e2]at ho;exact .inl ⟨o,ho,hk⟩
 .have ho:o3[m]? =some o:=ho;rw[Z9]at ho;split at ho
  .rename_i e;subst e;exact .inr ⟨p,_,⟨true,m,896⟩,Ls,bC,O2.new,rfl,rfl⟩
  .rw[ia]at ho;split at ho
   .rename_i e;subst e;exact .inr ⟨p,_,⟨true,m,896⟩,Ls,bC,O2.old _ O1.new rfl,rfl,rfl⟩
   .exact .inl ho
 .have hz:p3[t]? =some z:=hz;rw[hp3,jQ VF]at hz;split at hz
  .rename_i e;subst e;exact .inl ⟨y,hp,bC⟩
  .rename_i e;rw[G0,kn e]at hz;exact .inl ⟨z,hz,hl⟩
end Kn
namespace Kn
theorem uK{k:Kr}{p:Nat}{fd need:Int}(h:(bo k p fd need).2.2=0):(cH (an k.ps p) fd).2=0/\(bo k p fd need).2.1=lP k p fd/\(bo k p fd need).1=(cH (an k.ps p) fd).1/\Tb.cZ need (cH (an k.ps p) fd).1.2=true:=by
 have key:(gU (an k.ps p) fd need).2=0->gU (an k.ps p) fd need=cH (an k.ps p) fd/\Tb.cZ need (cH (an k.ps p) fd).1.2=true:=λh=>by
  unfold gU Tb.ov at h|-;split at h
  .cases h
  .rename_i hn;rw[if_neg hn];refine⟨rfl,?_⟩;cases hx:Tb.cZ need (cH (an k.ps p) fd).1.2 with
   |true=>rfl
   |false=>exact absurd ⟨h,hx⟩ hn
 unfold bo at h|-;split at h
 .rename_i hn;exact absurd h hn
 .rename_i hn;rw[if_neg hn];obtain⟨e,hw⟩:=key (Yk hn);rw[e];refine⟨?_,rfl,rfl,hw⟩;rw[<-e];exact Yk hn
theorem ED{k:Kr}(h:KI k){p:Nat}{x:bi}(hp:k.ps[p]? =some x)(bC:x.aL=true)(he:(fU k p).2.2.2=0):
  ∃c:Nat,(fU k p).2.1=c/\c≠p/\(∃N,OX N k.l (fU k p).1.l)/\oF k (fU k p).1/\(∃S,(fU k p).1.ps[p]? =some {x with aQ:=S})/\(fU k p).1.ps[c]? =some ⟨true,x.fenced,0,x.aQ⟩:=by
 obtain⟨c,C⟩:=rD hp bC he;obtain⟨g1,g2,g3,g4⟩:=uC hp C.le;obtain⟨j,j1,j2,j3,j4,-,-⟩:=gh C.em h.ll;have HP:(gm k.ps p c)[p]? =some x:=by rw[g3 p C.ne];exact hp
 obtain⟨i,S,O⟩:=jj (k:=⟨(aH k.l (c7 c)).1,k.ops,gm k.ps p c⟩) HP C.eo;have jv:∀y,k.ps[c]? =some y->y.aL=false:=λy hy=>by have:=C.aS (Km.1 hy).1;unfold sN at this;rw[hy]at this;have this:(!y.aL&& !(k.l.any (dJ (c:Nat))))=true:=this;rw[aab]at this;simpa using this.1
 rw[C.R];refine⟨c,rfl,C.ne.symm,?_⟩;generalize (aF ⟨(aH k.l (c7 c)).1,k.ops,gm k.ps p c⟩ p (aH k.l (c7 c)).2.1 3200).1=R at O;have el:R.l=(aH k.l (c7 c)).1:=O.l;have eo:∀m:Nat,R.ops[m]? =if m=i then some ⟨(aH k.l (c7 c)).2.1,0⟩else k.ops[m]? :=O.o
 have ep:R.ps=cS (gm k.ps p c) p S:=O.ps;have hRc:R.ps[c]? =some ⟨true,x.fenced,0,x.aQ⟩:=by rw[ep,kn C.ne.symm];exact g2
 have TM:R.ps[p]? =some {x with aQ:=S}:=by rw[ep];exact fy HP S
 have hRt:∀t:Nat,t≠c->t≠p->R.ps[t]? =k.ps[t]? :=λt h1 h2=>by rw[ep,kn h2,g3 t h1]
 have dh:∀(i:Nat)(o:Obj),k.l[i]? =some o->o.ag≠0->i≠j:=λi o ho hk e=>hk (j4 o (e▸ho))
 have Wj:∀(i:Nat)(o:Obj),k.l[i]? =some o->o.ag≠0->R.l[i]? =some o:=λi o ho hk=>by rw[el,j3 i (dh i o ho hk)];exact ho
 refine⟨⟨λi=>i=j,λi o ho hk=>⟨o,Wj i o ho hk,rfl,rfl,rfl⟩,λi o ho hk=>?_⟩,⟨λi o ho hk=>⟨o,Wj i o ho hk,rfl,rfl,λ_ h=>h,λ_ h=>.inl h⟩,λm o ho h0=>?_,λt y hy hl=>?_,λn o ho hk=>?_,λm o ho=>?_,λt y hy hl=>?_⟩,⟨S,TM⟩,hRc⟩
 .rw[el]at ho;by_cases e:i=j
  .subst e;rw[j2]at ho;cases ho;exact .inr ⟨rfl,rfl⟩
  .rw[j3 i e]at ho;exact .inl ⟨o,ho,hk⟩
 .refine⟨o,?_,rfl⟩;rw[eo,if_neg λe=>?_]
  .exact ho
  .subst e;have:=O.yS o ho;omega
 .by_cases e:t=p
  .subst e;rw[hp]at hy;cases hy;exact⟨_,TM,hl,λs hs hh=>⟨s,O.old s hs hh,hh,rfl⟩⟩
  .refine⟨y,?_,hl,λs hs hh=>⟨s,hs,hh,rfl⟩⟩
   rw[hRt t (λe2=>?_) e]
   .exact hy
   .subst e2;rw[jv y hy]at hl;cases hl
 .rw[el]at ho;by_cases e:n=j
  .subst e;exact .inr ⟨p,_,⟨true,i,3200⟩,i,⟨(aH k.l (c7 c)).2.1,0⟩,TM,bC,O.new,rfl,rfl,by rw[eo,if_pos rfl],j1⟩
  .rw[j3 n e]at ho;exact .inl ⟨o,ho,hk⟩
 .rw[eo]at ho;split at ho
  .rename_i e;subst e;exact .inr ⟨p,_,⟨true,m,3200⟩,TM,bC,O.new,rfl,rfl⟩
  .exact .inl ho
 .by_cases e:t=c
  .subst e;exact .inr ⟨c7 t,Tp (by rw[el];exact j2),by simp[dJ,c7]⟩
  .by_cases e2:t=p
   .subst e2;exact .inl ⟨x,hp,bC⟩
   .rw[hRt t e e2]at hy;exact .inl ⟨y,hy,hl⟩
theorem yA{k:Kr}(h:KI k){p:Nat}{y:bi}(hp:k.ps[p]? =some y)(bC:y.aL=true){c:Cl}(he:(fN k p c).2.eS=0):
  ∃(n:Nat)(o:Obj)(x:di)(r:List di),(cH (an k.ps p) c.fd).2=0/\lP k p c.fd=n/\k.l[n]? =some o/\o.ag=4/\o.ar=x::r/\(fN k p c).1.l=k.l.set n {o with ar:=r}/\oF k (fN k p c).1/\
   ∃z,(fN k p c).1.ps[p]? =some z/\z.aL=true:=by
 unfold Kn.fN vA at he|-;split at he
 .rename_i h1;exact absurd he h1
 rename_i h1;rw[if_neg h1];obtain⟨w1,w2,_⟩:=uK (Yk h1);rw[w2]at he|-;unfold vz at he|-;split at he
 .rename_i h2;exact absurd he h2
 rename_i h2;rw[if_neg h2];obtain⟨n,o,x,r,e1,e2,e3,e4,e5,e6⟩:=oa (Yk h2);have uj:an k.ps p=y.aQ:=by rw[an,hp]
 have kG:=(Km.1 e2).1;refine⟨n,o,x,r,w1,e1,e2,e3,e4,?_⟩;rw[e6]at he|-;have ext:∀oH,(∀(t:Nat)z,k.ps[t]? =some z->z.aL=true->∃z':bi,oH[t]? =some z'/\z'.aL=true/\∀s,s∈z.aQ->s.has=true->∃s',s'∈z'.aQ/\s'.has=true/\s'.dF=s.dF)->
   (∀(t:Nat)z,oH[t]? =some z->z.aL=true->∃z0,k.ps[t]? =some z0/\z0.aL=true)->
   (x.has=true->∃(t:Nat)(y:bi)(s:eh),oH[t]? =some y/\y.aL=true/\s∈y.aQ/\s.has=true/\s.dF=x.dF)->oF k ⟨k.l.set n {o with ar:=r},k.ops,oH⟩:=λoH a1 a2 a3=>by
  refine⟨λi b hb hk=>?_,λm b hb h0=>⟨b,hb,rfl⟩,a1,λi b hb hk=>?_,λm b hb=>.inl hb,λt z hz hl=>.inl (a2 t z hz hl)⟩
  .by_cases e:n=i
   .subst e;rw[e2]at hb;cases hb;refine⟨_,TH kG,rfl,rfl,λ_ h=>h,λz⟨q,hq,hh,hz⟩=>?_⟩
    rw[e4]at hq;rcases aaJ.1 hq with rfl|hq
    .obtain⟨t,y,s,b1,b2,b3,b4,b5⟩:=a3 hh;exact .inr ⟨t,y,s,b1,b2,b3,b4,b5.trans hz⟩
    .exact .inl ⟨q,hq,hh,hz⟩
   .exact⟨b,by show(k.l.set n _)[i]? =_;rw[U7 e];exact hb,rfl,rfl,λ_ h=>h,λ_ h=>.inl h⟩
  .have hb:(k.l.set n {o with ar:=r})[i]? =some b:=hb
   by_cases e:n=i
   .subst e;rw[TH kG]at hb;cases hb;exact .inl ⟨o,e2,hk⟩
   .rw[U7 e]at hb;exact .inl ⟨b,hb,hk⟩
 split at he
 .rename_i h3;rw[if_pos h3];split at he
  .rename_i h4;exact absurd he h4
  rename_i h4;rw[if_neg h4];have h4:=Yk h4;show(bv (eC k p _ 0) _ 0).l=_/\oF k (bv (eC k p _ 0) _ 0)/\∃z,(bv (eC k p _ 0) _ 0).ps[p]? =some z/\z.aL=true;rw[bv,if_pos rfl,eC,if_pos rfl,e5];rw[uj]at h4|-;obtain⟨b1,b2⟩:=yv h4;refine⟨rfl,ext _ (λt z hz hl=>?_) (λt z hz hl=>?_) (λ_=>⟨p,_,⟨true,x.dF,x.bU⟩,fy hp _,bC,b1,rfl,rfl⟩),⟨_,fy hp _,bC⟩⟩
  .rw[jQ hp];by_cases e:t=p
   .subst e;rw[hp]at hz;cases hz;rw[if_pos rfl];exact⟨_,rfl,hl,λs hs hh=>⟨s,b2 s hs hh,hh,rfl⟩⟩
   .rw[if_neg e];exact⟨z,hz,hl,λs hs hh=>⟨s,hs,hh,rfl⟩⟩
  .rw[jQ hp]at hz;split at hz
   .rename_i e;subst e;exact⟨y,hp,bC⟩
   .exact⟨z,hz,hl⟩
 .rename_i h3;rw[if_neg h3];show(bv k _ 0).l=_/\oF k (bv k _ 0)/\∃z,(bv k _ 0).ps[p]? =some z/\z.aL=true;rw[bv,if_pos rfl,e5];exact⟨rfl,ext k.ps (λt z hz hl=>⟨z,hz,hl,λs hs hh=>⟨s,hs,hh,rfl⟩⟩) (λt z hz hl=>⟨z,hz,hl⟩) (λhh=>absurd hh h3),⟨y,hp,bC⟩⟩
theorem Py{k:Kr}{p:Nat}{c:Cl}(he:(gF k p c).2.eS=0):
  ∃(n q:Nat)(o qo:Obj)(m:di),(cH (an k.ps p) c.fd).2=0/\lP k p c.fd=n/\k.l[n]? =some o/\o.bp=q/\k.l[q]? =some qo/\qo.ag=4/\(gF k p c).1.l=k.l.set q {qo with ar:=qo.ar++ [m]}:=by
 have key:∀r:List Obj×Int,(jh k c r).2.eS=0->r.2=0:=λr hr=>by
  unfold jh at hr;by_cases h1:r.2=0
  .exact h1
  .rw[if_pos h1]at hr;exact absurd hr h1
 unfold Kn.gF s9 at he|-;split at he
 .rename_i h1;exact absurd he h1
 rename_i h1;rw[if_neg h1];obtain⟨w1,w2,_⟩:=uK (Yk h1);rw[w2]at he|-;have gQ:∀(m:di),(jh k c (eZ k.l (lP k p c.fd) m)).2.eS=0->∃(n q:Nat)(o qo:Obj)(m':di),(cH (an k.ps p) c.fd).2=0/\lP k p c.fd=n/\k.l[n]? =some o/\o.bp=q/\k.l[q]? =some qo/\qo.ag=4/\(jh k c (eZ k.l (lP k p c.fd) m)).1.l=k.l.set q {qo with ar:=qo.ar++ [m']}:=λm hr=>by have h1:=key _ hr;obtain⟨n,q,o,qo,e1,e2,_,e4,e5,e6,_,_,e9⟩:=rC h1;refine⟨n,q,o,qo,m,w1,e1,e2,e4,e5,e6,?_⟩;show(bv k _ _).l=_;rw[bv,if_pos h1];exact e9
 unfold qI at he|-;split at he
 .rename_i h2;rw[if_pos h2];split at he
  .rename_i h3;exact absurd he h3
  rename_i h3;rw[if_neg h3];exact gQ _ he
 .rename_i h2;rw[if_neg h2];exact gQ _ he
theorem Pz{k:Kr}(h:KI k){p:Nat}{y:bi}(hp:k.ps[p]? =some y)(bC:y.aL=true){c:Cl}(he:(dP k p c).2.eS=0):∃N,OX N k.l (dP k p c).1.l:=by
 have hf:∀l',l'=k.l->∃N,OX N k.l l':=λl' e=>⟨λ_=>False,e▸ .refl _ _⟩
 have ex:∀z n:Int,(im k (gE k z n)).1.l=k.l:=λz n=>by
  unfold im;split
  .rename_i h1;unfold gE at h1|-;split
   .rename_i h2;rw[if_pos h2]at h1;cases h1
   .rename_i h2;rw[if_neg h2]at h1;split
    .rename_i h3;rw[if_pos h3]at h1;cases h1
    .rfl
  .rfl
 unfold dP at he|-;split at he
 .rename_i h1;rw[if_pos h1];exact hf _ rfl
 rename_i h1;rw[if_neg h1];split at he
 .rename_i h2;rw[if_pos h2];exact hf _ rfl
 rename_i h2;rw[if_neg h2];split at he
 .rename_i h3;rw[if_pos h3];unfold pA at he|-;split at he
  .rename_i h4;exact absurd he h4
  .rename_i h4;rw[if_neg h4];obtain⟨_,_,_,g,_⟩:=ED h hp bC (Yk h4);exact g
 rename_i h3;rw[if_neg h3];split
 .exact hf _ (ex _ _)
 .generalize Kn.bo k p c.fd (if c.ag=20 then 2048 else 1024)=w
  unfold lM;split
  .exact hf _ rfl
  .unfold rz;split
   .exact hf _ rfl
   .split
    .split<;>exact hf _ rfl
    .exact hf _ (ex _ _)
theorem TN{k:Kr}(h:KI k){p:Nat}{y:bi}(hp:k.ps[p]? =some y)(bC:y.aL=true){c:Cl}(he:(eJ k p c).2.eS=0)(CI:c.ag≠16)(yM:c.ag≠17):∃N,OX N k.l (eJ k p c).1.l:=by
 have hf:∀l',l'=k.l->∃N,OX N k.l l':=λl' e=>⟨λ_=>False,e▸ .refl _ _⟩
 unfold eJ at he|-;split at he
 .rename_i a;rw[if_pos a];exact(pH h hp bC he).1
 rename_i a;rw[if_neg a];split at he
 .rename_i a;rw[if_pos a];exact Px h he
 rename_i a;rw[if_neg a];split at he
 .rename_i a;rw[if_pos a];exact hf _ (Pw _ _ _ _)
 rename_i a;rw[if_neg a];split at he
 .rename_i a;rw[if_pos a];exact hf _ rfl
 rename_i a;rw[if_neg a];split at he
 .rename_i a;rw[if_pos a];exact R6 h he
 rename_i a;rw[if_neg a];split at he
 .rename_i a;rw[if_pos a];exact(yz h hp bC he).1
 rename_i a;rw[if_neg a,if_neg CI,if_neg yM];exact Pz h hp bC he
theorem Cm{k:Kr}(h:KI k){p:Nat}{y:bi}(hp:k.ps[p]? =some y)(bC:y.aL=true){c:Cl}(he:(eJ k p c).2.eS=0)(ht:vD c.ag):
  oF k (eJ k p c).1/\(∃z,(eJ k p c).1.ps[p]? =some z/\z.aL=true)/\(c.ag=18->∃n:Nat,(eJ k p c).2.n=n/\n≠p/\(eJ k p c).1.ps[n]? =some ⟨true,y.fenced,0,y.aQ⟩):=by
 unfold eJ at he|-;rcases ht with hk|hk|hk|hk|hk|hk|hk
 .rw[if_pos (.inl hk)]at he|-;exact⟨(pH h hp bC he).2.1,(pH h hp bC he).2.2,λe=>om⟩
 .rw[if_pos (.inr hk)]at he|-;exact⟨(pH h hp bC he).2.1,(pH h hp bC he).2.2,λe=>om⟩
 .rw[if_neg om,if_neg om,if_pos om]at he|-;exact⟨(tn hp bC he om).1,(tn hp bC he om).2,λe=>om⟩
 .rw[if_neg om,if_neg om,if_pos om]at he|-;exact⟨(tn hp bC he om).1,(tn hp bC he om).2,λe=>om⟩
 .rw[if_neg om,if_neg om,if_neg om,if_neg om,if_neg om,if_pos om]at he|-;exact⟨(yz h hp bC he).2.1,(yz h hp bC he).2.2,λe=>om⟩
 .rw[if_neg om,if_neg om,if_neg om,if_neg om,if_neg om,if_neg om,if_neg om,if_pos om]at he|-;obtain⟨_,_,_,_,_,_,_,_,_,_,g1,g2⟩:=yA h hp bC he;exact⟨g1,g2,λe=>om⟩
 .rw[if_neg om,if_neg om,if_neg om,if_neg om,if_neg om,if_neg om,if_neg om,if_neg om]at he|-;unfold dP at he|-;rw[if_neg om,if_neg om,if_pos hk]at he|-;unfold pA at he|-;split at he
  .rename_i h4;exact absurd he h4
  .rename_i h4;rw[if_neg h4];obtain⟨n,a1,a2,_,a3,⟨S,a4⟩,a5⟩:=ED h hp bC (Yk h4);exact⟨a3,⟨_,a4,bC⟩,λ_=>⟨n,a1,a2,a5⟩⟩
end Kn
namespace Kn
structure GI(k:Kr)(W:Wt):Prop where
 ki:KI k
 sw:LW k
 nd:(W.map (·.1)).Nodup
 ky:∀e,e∈W->∃(j:Nat)(o:Obj),e.1=j/\k.l[j]? =some o/\o.ag=4
 ln:∀(j:Nat)o,k.l[j]? =some o->o.ag=4->((gH j W).getD []).length=o.ar.length
 nn:∀e,e∈W->∀x,x∈e.2->0<=x.1
theorem GI.EE:GI dS []:=by
 refine⟨RT,Pp,aE,aE,λj o ho hk=>?_,aE⟩
 have:o=gp:=by have hm:=Tp ho;simpa[dS]using hm
 subst this;simp[gp]at hk
theorem I1(i j:Int)(p:Nat)(c:Cl)(a:An)(b k:Kr)(W:Wt):(dK i p c a b k W).1=(dK j p c a b k W).1:=by
 unfold dK;repeat' split
 all_goals rfl
def qK(prog:List dH)(c:Cl)(k:Kr)(W:Wt):Wt:=if(iz prog k c).2.eS=0 then(dK 0 c.ba.toNat c (iz prog k c).2 k (iz prog k c).1 W).1 else W
theorem pI{x:Int}:∀{W:Wt}{v:List (Int×Int)},gH x W=some v->(x,v)∈W
 | [],_,h=>by cases h
 |e::r,v,h=>by
  rw[gH]at h;split at h
  .rename_i hx;cases h;obtain⟨a,b⟩:=e;simp at hx;subst hx;simp
  .exact aby _ (pI h)
theorem I2{x:Int}{v:List (Int×Int)}:∀{W:Wt},(W.map (·.1)).Nodup->(x,v)∈W->gH x W=some v
 | [],_,h=>by cases h
 |e::r,hn,h=>by
  rw[aaL,abH]at hn;rw[gH];rcases aaJ.1 h with h1|h1
  .rw[<-h1,if_pos rfl]
  .have dh:¬x=e.1:=λh2=>hn.1 (h2▸aal.2 ⟨(x,v),h1,rfl⟩)
   rw[if_neg dh];exact I2 hn.2 h1
theorem yB(x:Int)(v:List (Int×Int)):∀W:Wt,gH x (jO x v W)=some v
 | []=>by rw[jO,gH,if_pos rfl]
 |e::r=>by
  rw[jO];split
  .rw[gH,if_pos rfl]
  .rename_i h;rw[gH,if_neg h];exact yB x v r
theorem pJ{x z:Int}(dh:z≠x)(v:List (Int×Int)):∀W:Wt,gH z (jO x v W)=gH z W
 | []=>by simp[jO,gH,dh]
 |e::r=>by
  rw[jO];split
  .rename_i h;rw[gH,gH,if_neg dh,if_neg (by rw[<-h];exact dh)]
  .rw[gH,gH,pJ dh v r]
theorem nF{x:Int}{v:List (Int×Int)}:∀{W:Wt}{e:Int×List (Int×Int)},e∈jO x v W->e=(x,v)\/e∈W
 | [],e,h=>by rw[jO]at h;exact .inl (by simpa using h)
 |y::r,e,h=>by
  rw[jO]at h;split at h
  .rcases aaJ.1 h with h|h
   .exact .inl h
   .exact .inr (aby _ h)
  .rcases aaJ.1 h with h|h
   .exact .inr (h▸acb)
   .exact(nF h).imp id (aby _)
theorem Cn{x:Int}{v:List (Int×Int)}:∀{W:Wt},(W.map (·.1)).Nodup->((jO x v W).map (·.1)).Nodup
 | [],_=>by rw[jO];simp
 |y::r,h=>by
  rw[aaL,abH]at h;rw[jO];split
  .rename_i hx;rw[aaL,abH];exact⟨by rw[hx];exact h.1,h.2⟩
  .rename_i hx;rw[aaL,abH];refine⟨λhm=>?_,Cn h.2⟩
   obtain⟨e,he,e1⟩:=aal.1 hm;rcases nF he with rfl|he
   .exact hx e1
   .exact h.1 (e1▸aal.2 ⟨e,he,rfl⟩)
theorem uL{l:List Obj}{x:Int}(hk:gk l x=true):∀W:Wt,gH x (tk l W)=gH x W
 | []=>rfl
 |e::r=>by
  rw[tk,ab0,gH];split
  .rename_i h1;rw[gH];split
   .rfl
   .exact uL hk r
  .rename_i h1;rw[if_neg (λh2=>h1 (by rw[<-h2];exact hk))]
   exact uL hk r
theorem Sa{k:Kr}(h:KI k){n:Nat}{o:bH}(ho:(eB k).ops[n]? =some o)(h0:0<=o.bm):k.ops[n]? =some o:=by
 obtain⟨a,c,h1,h2,h3⟩:=(gq h.kr).ex;have one:∀{x y:Kr}{en:Bool},cW x.l x.ops x.ps y.l y.ops y.ps en->∀o,y.ops[n]? =some o->0<=o.bm->x.ops[n]? =some o:=λhx o ho h0=>by
  obtain⟨b,_,_,hP⟩:=hx.ex;obtain⟨o',g1,g2⟩:=hP.get ho;unfold Bw at g2;split at g2
  .rw[g2]at h0;simp at h0
  .rw[g2];exact g1
 have hc:c.ops[n]? =some o:=by obtain⟨n1,n2,n3,P,_,_,_,_,e⟩:=h3.ex;rw[e]at ho;exact(yn ho).1
 have ha:=one h2 o hc h0;clear hc h2 h3 ho
 induction h1 with
 |refl=>exact ha
 |step h ho ih=>exact ih (one ho o ha h0)
theorem I3{k:Kr}(h:KI k){n:Nat}{o:Obj}(ho:(eB k).l[n]? =some o)(hk:o.ag≠0):∃o':Obj,k.l[n]? =some o'/\o'.ag=o.ag/\o'.ar=o.ar:=by
 obtain⟨a,c,h1,h2,h3⟩:=(gq h.kr).ex;obtain⟨o',g1,g2⟩:=(xH h.kr h1 h2 h3).1.2 n o ho hk;exact⟨o',g1,by rw[g2],by rw[g2]⟩
def LN(l:List Obj)(W:Wt):Prop:=∀(j:Nat)o,l[j]? =some o->o.ag=4->((gH j W).getD []).length=o.ar.length
theorem LN.ox{N:Nat->Prop}{k:Kr}{W:Wt}(h:GI k W){l':List Obj}(hx:OX N k.l l'):LN l' W:=λj o' fa fZ=>by
 rcases hx.n j o' fa om with⟨o,ho,hk⟩|⟨_,hq⟩
 .obtain⟨b,g1,g2,_,g4⟩:=hx.m j o ho hk;rw[fa]at g1;cases g1;rw[g4];exact h.ln j o ho om
 .by_cases hex:∃o,k.l[j]? =some o/\o.ag=4
  .obtain⟨o,ho,hk⟩:=hex;obtain⟨b,g1,g2,_,g4⟩:=hx.m j o ho om;rw[fa]at g1;cases g1;rw[g4];exact h.ln j o ho hk
  .rw[hq];cases hw:gH j W with
   |none=>rfl
   |some v=>
    obtain⟨j',o,e1,e2,e3⟩:=h.ky _ (pI hw);have:j'=j:=by simp at e1;omega
    subst this;exact absurd ⟨o,e2,e3⟩ hex
theorem GI.op{prog:List dH}{k:Kr}{W:Wt}(h:GI k W){p:Nat}{c:Cl}(hc:c.ba=p)(hp:p<k.ps.length)(bC:k.ps[p].aL=true)(he:(eJ k p c).2.eS=0)(a:An)(k2:Kr):
  LN (eJ k p c).1.l (dK 0 p c a k k2 W).1/\((dK 0 p c a k k2 W).1.map (·.1)).Nodup/\(∀e,e∈(dK 0 p c a k k2 W).1->∃j:Nat,e.1=j)/\(∀e,e∈(dK 0 p c a k k2 W).1->∀x,x∈e.2->0<=x.1)/\
   ((c.ag=16\/c.ag=17)->(cH (an k.ps p) c.fd).2=0)/\(c.ag=17->∃x r,gH (lP k p c.fd) W=some (x::r)):=by
 have y9:=vU hp;have Zk:∀e,e∈W->∃j:Nat,e.1=j:=λe he=>by obtain⟨j,_,h1,_⟩:=h.ky e he;exact⟨j,h1⟩
 by_cases CI:c.ag=16
 .have dA:eJ k p c=gF k p c:=by unfold eJ;rw[if_neg om,if_neg om,if_neg om,if_neg om,if_neg om,if_neg om,if_pos CI]
  rw[dA]at he|-;obtain⟨n,q,o,qo,m,w1,e1,e2,e3,e4,e5,e6⟩:=Py he;have yV:lO k.l (lP k p c.fd)=q:=by rw[e1,lO,Y6,e2];exact e3
  have lV:(dK 0 p c a k k2 W).1=jO (q:Nat) ((gH (q:Nat) W).getD []++ [(c.ba,c.fE)]) W:=by unfold dK;rw[if_neg om,if_neg om,if_neg om,if_neg om,if_pos CI,yV]
  rw[lV,e6];refine⟨λj o' fa fZ=>?_,Cn h.nd,λe he=>?_,λe he x hx=>?_,λ_=>w1,λe=>om⟩
  .by_cases e:q=j
   .subst e;rw[TH (Km.1 e4).1]at fa;cases fa;rw[yB];have:=h.ln q qo e4 e5;simp[this]
   .rw[U7 e]at fa;rw[pJ om];exact h.ln j o' fa fZ
  .rcases nF he with rfl|he
   .exact⟨q,rfl⟩
   .exact Zk e he
  .rcases nF he with rfl|he
   .rcases abu.1 hx with hx|hx
    .cases hw:gH (q:Nat) W with
     |none=>rw[hw]at hx;simp at hx
     |some v=>rw[hw]at hx;exact h.nn _ (pI hw) x hx
    .have:x=(c.ba,c.fE):=by simpa using hx
     rw[this,hc];show(0:Int)<=(p:Nat);omega
   .exact h.nn e he x hx
 by_cases yM:c.ag=17
 .have dA:eJ k p c=fN k p c:=by unfold eJ;rw[if_neg om,if_neg om,if_neg om,if_neg om,if_neg om,if_neg om,if_neg om,if_pos yM]
  rw[dA]at he|-;obtain⟨n,o,x,r,w1,e1,e2,e3,e4,e5,_,_⟩:=yA h.ki y9 bC he;have E0:=h.ln n o e2 e3;rw[e4]at E0;cases hw:gH (n:Nat) W with
  |none=>rw[hw]at E0;simp at E0
  |some v=>
   rw[hw]at E0;cases v with
   |nil=>simp at E0
   |cons z v=>
    have E0:v.length=r.length:=by simpa using E0
    have lV:(dK 0 p c a k k2 W).1=jO (n:Nat) v W:=by unfold dK;rw[if_neg om,if_neg om,if_neg om,if_neg om,if_neg om,if_pos yM,e1,hw]
    rw[lV,e5,e1];refine⟨λj o' fa fZ=>?_,Cn h.nd,λe he=>?_,λe he x hx=>?_,λ_=>w1,λ_=>⟨z,v,hw⟩⟩
    .by_cases e:n=j
     .subst e;rw[TH (Km.1 e2).1]at fa;cases fa;rw[yB];exact E0
     .rw[U7 e]at fa;rw[pJ om];exact h.ln j o' fa fZ
    .rcases nF he with rfl|he
     .exact⟨n,rfl⟩
     .exact Zk e he
    .rcases nF he with rfl|he
     .exact h.nn _ (pI hw) x (aby _ hx)
     .exact h.nn e he x hx
 .have lV:(dK 0 p c a k k2 W).1=W:=by
   unfold dK;rw[if_neg CI,if_neg yM];repeat' split
   all_goals rfl
  rw[lV];obtain⟨N,hx⟩:=TN h.ki y9 bC he CI yM;exact⟨LN.ox h hx,h.nd,Zk,h.nn,λe=>om,λe=>absurd e yM⟩
theorem uM{prog:List dH}{k:Kr}(h:KI k)(hs:LW k){p:Nat}{c:Cl}(hp:p<k.ps.length)(bC:k.ps[p].aL=true)(he:(eJ k p c).2.eS=0)(ht:vD c.ag):eB (eJ k p c).1=Kb (eJ k p c).1:=
 h.Zi hs (h.op (vU hp) bC he) (Cm h (vU hp) bC he ht).1
theorem GI.in_{prog:List dH}{k:Kr}{W:Wt}(h:GI k W){c:Cl}(he:(iz prog k c).2.eS=0):Cj c (iz prog k c).2 k (iz prog k c).1 W c.ba.toNat:=by
 obtain⟨p,hc,hp,hl,_,_,ho,e⟩:=pF he;have BX:c.ba.toNat=p:=by rw[hc];rfl
 rw[BX];have H6:=h.ki.Z6 prog c;obtain⟨g1,g2,g3,g4,g5,g6⟩:=h.op (prog:=prog) hc hp hl ho (iz prog k c).2 (iz prog k c).1;have Bv:=λht=>Cm h.ki (vU hp) hl ho ht
 have d9:vD c.ag->∀(t:Nat)z,(eJ k p c).1.ps[t]? =some z->z.aL=true->(iz prog k c).1.ps[t]? =some z:=λht t z hz hlz=>by rw[e];show(eB (eJ k p c).1).ps[t]? =some z;rw[uM (prog:=prog) h.ki h.sw hp hl ho ht];exact yu hz hlz
 refine⟨h.ki,H6,hc,hp,λht=>?_,g5,λx hx=>?_,g6,λLY=>?_⟩
 .obtain⟨z,hz,hlz⟩:=(Bv ht).2.1;exact(Km.1 (d9 ht p z hz hlz)).1
 .obtain⟨j,o,e1,e2,e3⟩:=h.ky x hx;have hw:gH (j:Nat) W=some x.2:=I2 h.nd (by rw[<-e1];exact hx)
  have:=h.ln j o e2 e3;rw[hw]at this;have hq:=(h.ki.sm o (Tp e2)).q;have this:x.2.length=o.ar.length:=this;omega
 .have ht:vD c.ag:= .inr (.inr (.inr (.inr (.inr (.inr LY)))));obtain⟨n,a1,_,a2⟩:=(Bv ht).2.2 LY;refine⟨n,by rw[e];exact a1,(Km.1 (d9 ht n _ a2 rfl)).1⟩
theorem GI.mid{prog:List dH}{k:Kr}{W:Wt}(h:GI k W)(c:Cl):((qK prog c k W).map (·.1)).Nodup/\∀e,e∈qK prog c k W->∃j:Nat,e.1=j:=by
 unfold qK;by_cases he:(iz prog k c).2.eS=0
 .rw[if_pos he];obtain⟨p,hc,hp,hl,_,_,ho,e⟩:=pF he;have BX:c.ba.toNat=p:=by rw[hc];rfl
  rw[BX];obtain⟨g1,g2,g3,g4,g5,g6⟩:=h.op (prog:=prog) hc hp hl ho (iz prog k c).2 (iz prog k c).1;exact⟨g2,g3⟩
 .rw[if_neg he];exact⟨h.nd,λe he=>by obtain⟨j,_,h1,_⟩:=h.ky e he;exact⟨j,h1⟩⟩
theorem GI.next{prog:List dH}{k:Kr}{W:Wt}(h:GI k W)(c:Cl):GI (iz prog k c).1 (tk (iz prog k c).1.l (qK prog c k W)):=by
 have hm:=h.mid (prog:=prog) c;have E0:LN (iz prog k c).1.l (qK prog c k W)/\∀e,e∈qK prog c k W->∀x,x∈e.2->0<=x.1:=by
  unfold qK;by_cases he:(iz prog k c).2.eS=0
  .rw[if_pos he];obtain⟨p,hc,hp,hl,_,_,ho,e⟩:=pF he;have BX:c.ba.toNat=p:=by rw[hc];rfl
   rw[BX];obtain⟨g1,g2,g3,g4,g5,g6⟩:=h.op (prog:=prog) hc hp hl ho (iz prog k c).2 (iz prog k c).1;refine⟨λj o hj hk=>?_,g4⟩
   have hj:(eB (eJ k p c).1).l[j]? =some o:=by rw[e]at hj;exact hj
   obtain⟨o',q1,q2,q3⟩:=I3 (h.ki.op (vU hp) hl ho) hj om;rw[<-q3];exact g1 j o' q1 om
  .rw[if_neg he];obtain⟨e,h2⟩:=wt he;rw[h2];exact⟨h.ln,h.nn⟩
 refine⟨h.ki.Z6 prog c,RX h.ki h.sw c,(List.filter_sublist.map _).nodup hm.1,λe he=>?_,λj o ho hk=>?_,λe he=>E0.2 e (aca.1 he).1⟩
 .obtain⟨Qf,kL⟩:=aca.1 he;obtain⟨j,hj⟩:=hm.2 e Qf;rw[hj]at kL;unfold gk at kL;rw[Y6]at kL;cases ho:(iz prog k c).1.l[j]? with
  |none=>rw[ho]at kL;cases kL
  |some o=>rw[ho]at kL;exact⟨j,o,hj,ho,by simpa using kL⟩
 .have oW:gk (iz prog k c).1.l (j:Nat)=true:=by unfold gk;rw[Y6,ho];simpa using hk
  rw[uL oW];exact E0.1 j o ho hk
theorem EF(k:Kr)(i:Int)(p:Nat)(fd h f g:Int):(dt k i p fd h f g).length<=1:=by unfold dt;split<;>simp
theorem EG(k:Kr)(i:Int)(n:Nat)(f:Int):∀L:List Int,(eR k i n f L).length<=L.length
 | []=>by simp[eR]
 |y::r=>by
  have h1:eR k i n f (y::r)=dt k i n y 3 f y++eR k i n f r:=by rw[eR,eR,ad0]
  have:=EG k i n f r;have:=EF k i n y 3 f y;rw[h1,aa3,aau];omega
theorem Lt{i:Int}{c:Cl}{a:An}{b k:Kr}{W:Wt}{p:Nat}(h:Cj c a b k W p):(dK i p c a b k W).2.length<=12:=by
 have hc:=λfd h f g=>EF k i p fd h f g
 have zK:(an b.ps p).length<=10:=by rw[eD h.pb];exact h.kb.sl _ (aaw h.pb)
 have hL:(zm (an b.ps p)).length<=10:=by have:=Tb.sM ((an b.ps p).map jm) 0;rw[Pj]at this;exact abD this zK
 unfold dK;split
 .have:=hc a.n 1 (-1) 0;show(dt k i p a.n 1 (-1) 0).length<=12;omega
 split
 .have:=hc a.n 3 c.ba c.fd;show(dt k i p a.n 3 c.ba c.fd).length<=12;omega
 split
 .have:=hc c.fd 3 c.ba c.fd;show(dt k i p c.fd 3 c.ba c.fd).length<=12;omega
 split
 .have:=hc a.n 2 (-1) 0;have:=hc a.m 2 (-1) 0;show(dt k i p a.n 2 (-1) 0++dt k i p a.m 2 (-1) 0).length<=12;rw[aa3];omega
 split
 .simp
 split
 .split
  .rename_i x r _;show(if a.m>=0 then dt k i p a.m 3 x.1 x.2 else []).length<=12
   split
   .have:=hc a.m 3 x.1 x.2;omega
   .simp
  .simp
 split
 .have:=EG k i a.n.toNat c.ba (zm (an b.ps p));have:=hc a.m 2 (-1) 0;show(eR k i a.n.toNat c.ba (zm (an b.ps p))++dt k i p a.m 2 (-1) 0).length<=12;rw[aa3];omega
 .simp
theorem Sb(prog:List dH)(i:Nat)(c:Cl)(g:Gs):(kO prog i c g).W=tk (iz prog g.k c).1.l (qK prog c g.k g.W):=by
 unfold kO qK;simp only;split
 .rw[I1 i 0]
 .rfl
theorem GI.step{prog:List dH}{g:Gs}(h:GI g.k g.W)(i:Nat)(c:Cl):GI (kO prog i c g).k (kO prog i c g).W:=by rw[Sb];exact h.next c
theorem GI.run{prog:List dH}:∀{g:Gs}(i:Nat)(cs:List Cl),GI g.k g.W->GI (lQ prog g i cs).k (lQ prog g i cs).W
 |_,_,[],h=>h
 |_,i,c::r,h=>GI.run (i+1) r (h.step i c)
theorem Lu{prog:List dH}{g:Gs}(h:GI g.k g.W)(i:Nat)(c:Cl):(kO prog i c g).out.length<=g.out.length+12:=by
 show(g.out++_).length<=_;rw[aa3];by_cases he:(iz prog g.k c).2.eS=0
 .rw[if_pos he];have:=Lt (i:=i) (h.in_ he);omega
 .rw[if_neg he];simp
theorem yC{prog:List dH}:∀{g:Gs}(i:Nat)(cs:List Cl),GI g.k g.W->(lQ prog g i cs).out.length<=g.out.length+12*cs.length
 |_,_,[],_=>by simp[lQ]
 |g,i,c::r,h=>by have h1:=yC (prog:=prog) (i+1) r (h.step (prog:=prog) i c);have h2:=Lu (prog:=prog) h i c;show(lQ prog (kO prog i c g) (i+1) r).out.length<=_;rw[aau];omega
end Kn
def c14:LF:= ⟨96,[.tmp 4,.tmp 5],(.seq (.ai [qu 4 (.aM qe),qu 5 (.aM (qi 0))]) (.seq (.ai [qm 16 0,qu 17 (qc 17 [16]),qm 15 17,qu 18 (.ext 15 0),qu 19 (.ext 15 1),qu 7 (.alloc [qd 0,qd 0]),qm 6 18,qw (.store 2 7 19)]) (.seq (.seq (.ai [qf 20 0 7,ql 21 20,qu 22 (.aJ .neq 21 (qi 0))]) (.cond 22 (.seq (.bV [qf 23 0 7,ql 24 23,qu 4 (.aM qe),qm 5 24] [eK 4 0 .nil]) .ret) .skip)) (.seq (.seq (.ai [qm 25 1,qu 26 (.len 1 25),qu 27 (.aJ .gtr 26 (qi 80))]) (.cond 27 (.seq (.ai [qu 4 (.aM qe),qu 5 (.aM (qi 5))]) .ret) .skip)) (.seq (.ai [qu 28 (qc 18 []),qu 29 (.rN),qu 30 (.build [.aO,.aO,.aO,(.ah (.val (.map none))),.aO] [(0,3,28),(3,1,29)]),qu 31 (.box 30),qm 8 31]) (.seq (.seq (.ai [qm 32 1,qu 33 (.len 1 32),qu 34 (.aM (qi 0))]) (.block 0 (.loop (.seq (.ai [qu 35 (.aJ .lss 34 33)]) (.seq (.cond 35 .skip (.exit 0)) (.seq (.block 1 (.seq (.ai [qm 36 34,qu 37 (.cz 9 32 34),qL 38 9 37,qu 10 (.alloc [qd 0,qd 0,qd 0,qd 0,qd 0,qd 0,qd 0,(.ah (.val (.string ⟨#[]⟩))),.aO]),qm 9 36,qw (.store 9 10 38)]) (.seq (.ai [qm 39 8,qu 40 (.aP 39),qf 41 0 40,qL 42 3 41,qu 11 (.alloc [.aO,.aO,.aO]),qw (.store 3 11 42)]) (.seq (.bV [qm 44 6,qm 45 8,qu 46 (.aP 45),qf 47 0 46,qL 48 3 47,qL 49 9 10,qu 50 (qc 19 [44,48,49]),qm 43 50,qu 51 (.ext 43 0),qu 52 (.ext 43 1),qu 12 (.alloc [.aO,.aO,.aO]),qu 13 (.alloc [qd 0,qd 0,qd 0,.aO]),qw (.store 3 12 51),qw (.store 4 13 52)] [(eK 6 0 (.ww (.cons 6 (some []) (eK 3 7 (.ww (.cons 10 (some [5,4]) (.cons 11 (some [5,4]) (.cons 12 (some []) (.cons 13 (some []) .nil)))) (.cons 11 (some [5,4]) (.cons 10 (some [5,4]) (.cons 12 (some []) (.cons 13 (some []) .nil))))))) (.ww (.cons 10 (some [5,4]) (.ww (.cons 6 (some []) (eK 3 7 (.cons 11 (some [5,4]) (.cons 12 (some []) (.cons 13 (some []) .nil))))) (.cons 11 (some [5,4]) (.cons 6 (some []) (eK 3 7 (.cons 12 (some []) (.cons 13 (some []) .nil))))))) (.cons 11 (some [5,4]) (.ww (.cons 6 (some []) (eK 3 7 (.cons 10 (some [5,4]) (.cons 12 (some []) (.cons 13 (some []) .nil))))) (.cons 10 (some [5,4]) (.cons 6 (some []) (eK 3 7 (.cons 12 (some []) (.cons 13 (some []) .nil))))))))))]) (.cX (.seq (.ai [qm 53 8,qL 54 3 12,qu 55 (.aP 53),qf 56 0 55,qw (.store 3 56 54)]) (.seq (.seq (.ai [qf 57 0 13,ql 58 57,qu 59 (.aJ .eql 58 (qi 0))]) (.cond 59 (.ai [qm 60 8,qm 61 9,qu 62 (qc 20 [60,61,10,13,11])]) .skip)) (.cX (.seq (.ai [qm 63 8,qu 64 (.aP 63),qf 65 3 64,ql 66 65,qu 67 (.Ws 66)]) (.block 2 (.loop (.seq (.ai [qu 68 (.tC 67),qu 69 (.ext 68 0)]) (.seq (.cond 69 .skip (.exit 2)) (.block 3 (.seq (.ai [qu 70 (.Wu 67),qu 71 (.ext 70 0),qm 14 71]) (.seq (.ai [qm 72 14,qf 73 0 12,ql 74 73,qu 75 (.len 1 74),qu 76 (.aJ .geq 72 75),qm 77 76,qg 78 (.b8 0 12) 77 false,qg 79 (.load false 1 78) 77 false,qg 80 (.aM 14) 77 false,qg 81 (.cz 9 79 80) 77 false,qg 82 (.b8 0 81) 77 false,qg 83 (.load false 1 82) 77 false,qg 84 (.aJ .neq 83 (qi 4)) 77 false,qu 85 (.pick 77 (qb true) 84)]) (.cond 85 (.ai [qm 86 8,qu 87 (.aP 86),qf 88 3 87,ql 89 88,qm 90 14,qw (.L4 (.i .i64) 89 90)]) .skip))))))))))))))))) (.ai [qu 91 (.aJ .add 34 (qi 1)),qm 34 91]))))))) (.seq (.ai [qm 92 8,qu 93 (.aP 92),qf 94 4 93,ql 95 94,qm 4 95,qu 5 (.aM (qi 0))]) .ret)))))))⟩
namespace Kn
def ac2(L:List Sp):Dt:= .sl 8 (L.map Sp.enc)
def rI(L:List Sp)(e:Int):CV:= .bD [.one (.ah (ac2 L)),cK e]
theorem EH{m:Mem}{e:Int}:cV m (.bD [.one .aO,cK e]) (rI [] e):=by
 refine .bD rfl λi r r' h1 h2=>?_
 match i,h1,h2 with
 |0,h1,h2=>cases h1;cases h2;exact .one (.aO 8)
 |1,h1,h2=>cases h1;cases h2;exact fu.self rfl
 |n+2,h1,h2=>simp at h1
def g0:Gs:=⟨dS,[],[]⟩
def TrQ(l:List dy)(cs:List Cl)(r:CV)(m:Mem):Prop:=((dq l).1≠0->cV m r (rI [] (dq l).1))/\((dq l).1=0->cs.length>80->cV m r (rI [] 5))/\
   ((dq l).1=0->cs.length<=80->∃l',l'.Perm l/\rF l'/\cV m r (rI (lQ (nD l') g0 0 cs).out 0))
theorem moS(Y:Nat->Nat)(m:Mem)(Z:Nat->Prop)(id:Nat)(W:Wt)(so:Option (List Nat×Nat)):mH Y m Z id (.mo 2 (pG W) so) (.mo 2 (pG W) so):=by have:=mH.mo (Y:=Y) (m:=m) (Z:=Z) (id:=id) 2 (pG W) so;rwa [IZ]at this
theorem Lv(W:Wt)(i:Nat):(pG W).eraseIdx i=pG (W.eraseIdx i):=(Go.ChangeMaps.map_eraseIdx _ _ _).symm
theorem AI{Y:Nat->Nat}{m:Mem}(c:Cl)(a2:An)(k k2:Kr)(W:Wt)(out:List Sp)(h0:cF m (Y 0)=some (.var [.ah (dm k.l),.ah (ff k.ops),.ah (gG k.ps),.map (Y 1),.row (Y 2) 8 0 none]))(h1:cF m (Y 1)=some (lR W))(h2:cF m (Y 2)=some (e8 out))(h3:cF m (Y 3)=some (cB c))(h4:cF m (Y 4)=some (aB a2))(h5:cF m (Y 5)=some (kB k))(h6:cF m (Y 6)=some (kB k2)):eH Y m (λk=>br [] k=true) 0 [gB k 1 2,lR W,e8 out,cB c,aB a2,kB k,kB k2]:=
 .put (dE rfl) h0 (.eq rfl (jA _ _ _)) (.put (dE rfl) h1 (.eq (fG _ _) (jP _)) (.put (dE rfl) h2 (.bL rfl) (.put (dE rfl) h3 (.eq rfl (jz _)) (.put (dE rfl) h4 (.eq rfl (yw _)) (.put (dE rfl) h5 (.eq rfl (jk _)) (.put (dE rfl) h6 (.eq rfl (jk _)) (.nil _)))))))
theorem l14:bz prog Tryz.f14=some c14.er:=by kernel_rfl
theorem Ht(l:List dy)(cs:List Cl)(fe:Pn cs):body Tryz.prog c14 [fh l,tj cs] [] (TrQ l cs):=by
 refine RQ l (λhw=>?_) (λhw l' hp hr=>?_)
 .refine bx (λhe=>?_) (λhe=>absurd he hw)
  exact⟨λ_=>EH,λh=>absurd h hw,λh=>absurd h hw⟩
 .generalize hpg:nD l'=prog;refine aN (λPA=>?_) (λPA=>?_)
  .have PA:cs.length>80:=by have PA:((cs.map Cl.enc).length:Int)>80:=PA;rw[Pj]at PA;omega
   exact⟨λh=>absurd hw h,λ_ _=>EH,λ_ h=>om⟩
  have PA:cs.length<=80:=by have PA:¬((cs.map Cl.enc).length:Int)>80:=PA;rw[Pj]at PA;omega
  refine RS ?_;refine bc (λi=>i<=cs.length) [6,32,33] (λi=>[(34,am .i64 (i:Nat)),(8,.rv (.one (.ptr 0 0)))])
   (λi=>[gB (lQ prog g0 0 (cs.take i)).k 1 2,lR (lQ prog g0 0 (cs.take i)).W,e8 (lQ prog g0 0 (cs.take i)).out]) (λi=>cs.length-i) 0 (aaj _) ?_ (λi hi=>?_)
  .refine View.trans (View.abp 2 4 8 3 rfl rfl rfl rfl) (View.o1 4 [2,1,3] [] ?_)
   .exact .pt rfl rfl (.eq rfl (jA _ _ _)) (.pt rfl rfl (.mo0 2) (.pn rfl rfl rfl))
  have hi:i<=cs.length:=hi;refine aN (λh=>?_) (λh=>?_)
  .have aC:i<cs.length:=by have h:(i:Int)<((cs.map Cl.enc).length:Int):=h;rw[Pj]at h;omega
   have hgi:=GI.run (prog:=prog) (g:=g0) 0 (cs.take i) GI.EE;have C1:=yC (prog:=prog) (g:=g0) 0 (cs.take i) GI.EE;have ht:cs.take (i+1)=cs.take i++ [cs[i]]:=sD (vU aC);have hgs:=AG prog (cs.take i) g0 0 cs[i];rw[<-ht,aaA,aaP,ads hi]at hgs;rw[aaA]at C1;have C1:(lQ prog g0 0 (cs.take i)).out.length<=960:=by have:g0.out.length=0:=rfl;omega
   have ir:=GI.in_ (prog:=prog) hgi (c:=cs[i]);have zg:=GI.mid (prog:=prog) hgi cs[i];have hd:=fe.d _ (aaw aC);refine af (Pm aC) ?_;generalize cs[i]=c at*
   generalize lQ prog g0 0 (cs.take i)=g at*
   obtain⟨k,W,out⟩:=g;have Zl:∀{m:Mem}{K:CV->Mem->Prop},K (Wl (iz prog k c)) m->ap Tryz.prog 19 [.rv (.one (.ah (yk prog))),eI k.l k.ops k.ps,c.cv] m K:=λhK=>Vx prog k hgi.ki c hd hK
   unfold kO at hgs;unfold qK at zg;generalize iz prog k c=D at*
   obtain⟨k2,a2⟩:=D;refine⟨Zl ⟨trivial,⟨⟨rfl,rfl,trivial⟩,⟨rfl,rfl,trivial⟩,trivial,trivial,⟨kS 96 [(6,.rv (.one (.ah (yk prog)))),(8,.rv (.one (.ptr 0 0))),(9,am .i64 (i:Nat)),(10,.rv (.one (.ptr 3 0))),(11,.rv (.one (.ptr 5 0))),(12,.rv (.one (.ptr 6 0))),(13,.rv (.one (.ptr 4 0))),(32,tj cs),(33,am .i64 ((cs.map Cl.enc).length:Nat)),(34,am .i64 (i:Nat))],[gB k 1 2,lR W,e8 out,cB c,aB a2,kB k,kB k2]⟩,?v1,?rest⟩,⟨⟨rfl,rfl,trivial⟩,⟨rfl,rfl,trivial⟩,trivial,trivial,⟨kS 96 [(6,.rv (.one (.ah (yk prog)))),(8,.rv (.one (.ptr 0 0))),(9,am .i64 (i:Nat)),(10,.rv (.one (.ptr 3 0))),(11,.rv (.one (.ptr 5 0))),(12,.rv (.one (.ptr 6 0))),(13,.rv (.one (.ptr 4 0))),(32,tj cs),(33,am .i64 ((cs.map Cl.enc).length:Nat)),(34,am .i64 (i:Nat))],[gB k 1 2,lR W,e8 out,cB c,aB a2,kB k,kB k2]⟩,?v2,?rest⟩⟩,⟨⟨rfl,rfl,trivial⟩,Zl ⟨trivial,⟨rfl,rfl,trivial⟩,trivial,trivial,⟨kS 96 [(6,.rv (.one (.ah (yk prog)))),(8,.rv (.one (.ptr 0 0))),(9,am .i64 (i:Nat)),(10,.rv (.one (.ptr 3 0))),(11,.rv (.one (.ptr 5 0))),(12,.rv (.one (.ptr 6 0))),(13,.rv (.one (.ptr 4 0))),(32,tj cs),(33,am .i64 ((cs.map Cl.enc).length:Nat)),(34,am .i64 (i:Nat))],[gB k 1 2,lR W,e8 out,cB c,aB a2,kB k,kB k2]⟩,?v3,?rest⟩,⟨⟨rfl,rfl,trivial⟩,Zl ⟨trivial,trivial,trivial,⟨kS 96 [(6,.rv (.one (.ah (yk prog)))),(8,.rv (.one (.ptr 0 0))),(9,am .i64 (i:Nat)),(10,.rv (.one (.ptr 3 0))),(11,.rv (.one (.ptr 5 0))),(12,.rv (.one (.ptr 6 0))),(13,.rv (.one (.ptr 4 0))),(32,tj cs),(33,am .i64 ((cs.map Cl.enc).length:Nat)),(34,am .i64 (i:Nat))],[gB k 1 2,lR W,e8 out,cB c,aB a2,kB k,kB k2]⟩,?v4,?rest⟩⟩⟩,⟨⟨rfl,rfl,trivial⟩,Zl ⟨trivial,⟨rfl,rfl,trivial⟩,trivial,trivial,⟨kS 96 [(6,.rv (.one (.ah (yk prog)))),(8,.rv (.one (.ptr 0 0))),(9,am .i64 (i:Nat)),(10,.rv (.one (.ptr 3 0))),(11,.rv (.one (.ptr 5 0))),(12,.rv (.one (.ptr 6 0))),(13,.rv (.one (.ptr 4 0))),(32,tj cs),(33,am .i64 ((cs.map Cl.enc).length:Nat)),(34,am .i64 (i:Nat))],[gB k 1 2,lR W,e8 out,cB c,aB a2,kB k,kB k2]⟩,?v5,?rest⟩,⟨⟨rfl,rfl,trivial⟩,Zl ⟨trivial,trivial,trivial,⟨kS 96 [(6,.rv (.one (.ah (yk prog)))),(8,.rv (.one (.ptr 0 0))),(9,am .i64 (i:Nat)),(10,.rv (.one (.ptr 3 0))),(11,.rv (.one (.ptr 5 0))),(12,.rv (.one (.ptr 6 0))),(13,.rv (.one (.ptr 4 0))),(32,tj cs),(33,am .i64 ((cs.map Cl.enc).length:Nat)),(34,am .i64 (i:Nat))],[gB k 1 2,lR W,e8 out,cB c,aB a2,kB k,kB k2]⟩,?v6,?rest⟩⟩⟩⟩
   case v1=>
    refine View.o1 7 [0,1,2,3,6,4,5] [] (AI c a2 k k2 W out rfl rfl rfl rfl rfl rfl rfl)
   case v2=>
    refine View.o1 7 [0,1,2,3,5,4,6] [] (AI c a2 k k2 W out rfl rfl rfl rfl rfl rfl rfl)
   case v3=>
    refine View.o1 7 [0,1,2,3,6,4,5] [] (AI c a2 k k2 W out rfl rfl rfl rfl rfl rfl rfl)
   case v4=>
    refine View.o1 7 [0,1,2,3,6,4,5] [] (AI c a2 k k2 W out rfl rfl rfl rfl rfl rfl rfl)
   case v5=>
    refine View.o1 7 [0,1,2,3,5,4,6] [] (AI c a2 k k2 W out rfl rfl rfl rfl rfl rfl rfl)
   case v6=>
    refine View.o1 7 [0,1,2,3,5,4,6] [] (AI c a2 k k2 W out rfl rfl rfl rfl rfl rfl rfl)
   obtain⟨s,hs⟩:∃s:Wt×List Sp,s=if a2.eS=0 then dK i c.ba.toNat c a2 k k2 W else(W,[]):=⟨_,rfl⟩
   have ac4:lQ prog g0 0 (cs.take (i+1))=⟨k2,tk k2.l s.1,out++s.2⟩:=by rw[hgs,hs]
   have lX:(s.1.map (·.1)).Nodup/\∀e,e∈s.1->∃j:Nat,e.1=j:=by
    rw[hs];by_cases he:a2.eS=0
    .rw[if_pos he]at zg|-;rw[I1 i 0];exact zg
    .rw[if_neg he]at zg|-;exact zg
   clear hgs zg;refine bs (λhe=>?y1) (λhe=>?y2)
   case' y1=>
    have he:a2.eS=0:=he;rw[if_pos he]at hs;refine BU i c a2 k k2 W out (by have:out.length<=960:=C1;omega) _ (ir he) (kB k2) s hs ?_
    refine⟨⟨kS 96 [(6,.rv (.one (.ah (yk prog)))),(8,.rv (.one (.ptr 0 0))),(12,.rv (.one (.ptr 3 0))),(32,tj cs),(33,am .i64 ((cs.map Cl.enc).length:Nat)),(34,am .i64 (i:Nat))],[gB k2 1 2,lR s.1,e8 (out++s.2),kB k2]⟩,
     View.o 8 [0,1,7,6] [] ?v7 (.pt rfl rfl (.eq rfl (jA _ _ _)) (.pt rfl rfl (.eq (fG _ _) (jP _)) (.pr rfl rfl rfl (.pt rfl rfl (.eq rfl (jk _)) (.nil _))))),?_⟩
    case v7=>repeat(first|exact .nil|refine .aA ?_|refine .eq rfl ?_)
   case' y2=>
    have he:¬a2.eS=0:=he;rw[if_neg he]at hs;refine⟨⟨kS 96 [(6,.rv (.one (.ah (yk prog)))),(8,.rv (.one (.ptr 0 0))),(12,.rv (.one (.ptr 3 0))),(32,tj cs),(33,am .i64 ((cs.map Cl.enc).length:Nat)),(34,am .i64 (i:Nat))],[gB k2 1 2,lR s.1,e8 (out++s.2),kB k2]⟩,
     View.o 7 [0,1,2,6] [] ?v8 (.pt rfl rfl (.eq rfl (jA _ _ _)) (.pt rfl rfl (.eq (by rw[hs];exact fG _ _) (jP _)) (.pt rfl rfl (.bL (by rw[hs,abO])) (.pt rfl rfl (.eq rfl (jk _)) (.nil _))))),?_⟩
    case v8=>repeat(first|exact .nil|refine .aA ?_|refine .eq rfl ?_)
   all_goals
    clear ir hs;refine λst ip hl ac5 ahf=>?_
    obtain⟨L0,P0⟩:∃L0:Pr,L0=s.1.zip st:=⟨_,rfl⟩;have hl:st.length=s.1.length:=by rw[hl];exact Pj _
    have PR:wL L0=s.1:=by rw[P0,wL,List.map_fst_zip om]
    have SE:L0.map (·.2)=st:=by rw[P0,List.map_snd_zip om]
    have HK:(L0.map (·.2)).Nodup:=by rw[SE];exact ac5
    have Zk:∀x,x∈L0->∃j:Nat,x.1.1=j:=λx hx=>lX.2 _ (by rw[<-PR];exact aal.2 ⟨x,hx,rfl⟩)
    have GF:∀seen,((wL (vZ k2.l L0 seen)).map (·.1)).Nodup:=λseen=>by
     have h1:((wL L0).map (·.1)).Nodup:=by rw[PR];exact lX.1
     exact((List.filter_sublist.map _).map _).nodup h1
    have d9:∀seen,(∀x,x∈(vZ k2.l L0 seen).map (·.2)->x∈seen)->wL (vZ k2.l L0 seen)=tk k2.l s.1:=λseen h=>by rw[VE h,PR]
    refine bc (λ_:List Nat=>True) [6,32,33,34] (λ_=>[(8,.rv (.one (.ptr 0 0))),(12,.rv (.one (.ptr 3 0))),(67,.rv (.one (.ptr 4 0)))])
     (λseen=>[gB k2 1 2,.mo 2 (pG (wL (vZ k2.l L0 seen))) (some ((vZ k2.l L0 seen).map (·.2),ip)),e8 (out++s.2),kB k2,.iw 1 ip seen]) (λseen=>left L0 seen) [] trivial ?_ (λseen _=>?_)
    .refine View.o1 5 [0,1,2,3,4] [] (.pt rfl rfl (.eq rfl (jA _ _ _)) (.pt rfl rfl ?_ (.pr rfl rfl rfl (.pt rfl rfl (.eq rfl (jk _)) (.pm rfl rfl rfl)))))
     .rw[R0,PR,SE];exact moS _ _ _ _ _ _
    refine⟨rfl,λf8=>?_,λj x sj hx J1 hns=>?_⟩
    .refine⟨i+1,aC,(show cs.length-(i+1)<cs.length-i by omega),View.o2 5 [0,1,2] [] ?_⟩
     .rw[ac4];refine .pt rfl rfl (.eq rfl (jA _ _ _)) (.pt rfl rfl (.eq ?_ (jP _)) (.pn rfl rfl rfl));rw[fG,lR,<-d9 seen f8]
    .obtain⟨y,hy,JK⟩:∃y,(vZ k2.l L0 seen)[j]? =some y/\x=wM y.1:=by rw[pG,wL,abF,Tm]at hx;obtain⟨y,h1,h2⟩:=aaz.1 hx;exact⟨y,h1,h2.symm⟩
     have hsy:sj=y.2:=by rw[Tm,hy]at J1;simpa using J1.symm
     subst JK hsy;have hyL:y∈L0:=(aca.1 (Tp hy)).1;obtain⟨q,hq⟩:=Zk y hyL;refine⟨rfl,j,_,hx,J1,?_⟩;obtain⟨⟨z,v⟩,sj⟩:=y;have hq:z=q:=hq;subst hq;have hF:iV (.int .i64 (q:Nat)) (pG (wL (vZ k2.l L0 seen))) 0=some (some (j,.ei (v.map wE))):=by
      rw[tm,Pu (q:Nat) _ 0 j ((q:Nat),v) (GF seen) (by rw[wL,Tm,hy];rfl) rfl,aaP];rfl
     have Zm:gk k2.l (q:Nat)=false-> .mo 2 ((pG (wL (vZ k2.l L0 seen))).eraseIdx j) (some (((vZ k2.l L0 seen).map (·.2)).eraseIdx j,ip))=Bk.mo 2 (pG (wL (vZ k2.l L0 (sj::seen)))) (some ((vZ k2.l L0 (sj::seen)).map (·.2),ip)):=λhk=>by rw[R2 (x:=((((q:Nat):Int),v),sj)) hy HK hk,Lv,wL,wL,Go.ChangeMaps.map_eraseIdx,Go.ChangeMaps.map_eraseIdx]
     have Ae:gk k2.l (q:Nat)=true->vZ k2.l L0 (sj::seen)=vZ k2.l L0 seen:=λhk=>R1 (x:=((((q:Nat):Int),v),sj)) hyL rfl HK hk
     have VI:=R3 hyL hns;have hlen:((k2.l.map Obj.enc).length:Int)=(k2.l.length:Nat):=by rw[Pj]
     refine aN (λd8=>?_) (λd8=>?_)
     .have d8:((q:Nat):Int)>=((k2.l.map Obj.enc).length:Int):=d8;have hk:gk k2.l (q:Nat)=false:=by unfold gk;rw[Y6,aaE om]
      refine af hF ?_;refine⟨sj::seen,trivial,VI,View.o1 5 [0,1,2,3,4] [] (.pt rfl rfl (.eq rfl (jA _ _ _)) (.pt rfl rfl ?_ (.pr rfl rfl rfl (.pt rfl rfl (.eq rfl (jk _)) (.pm rfl rfl rfl)))))⟩
      .rw[Zm hk];exact moS _ _ _ _ _ _
     .have d8:¬((q:Nat):Int)>=((k2.l.map Obj.enc).length:Int):=d8;have Ic:q<k2.l.length:=om;have UA:gk k2.l (q:Nat)=decide (k2.l[q].ag=4):=by unfold gk;rw[Y6,vU Ic]
      refine af (Bq Ic) ?_;refine bx (λVJ=>?_) (λVJ=>?_)
      .have VJ:k2.l[q].ag≠4:=VJ;have hk:gk k2.l (q:Nat)=false:=by rw[UA];exact decide_eq_false VJ
       refine af hF ?_;refine⟨sj::seen,trivial,VI,View.o1 5 [0,1,2,3,4] [] (.pt rfl rfl (.eq rfl (jA _ _ _)) (.pt rfl rfl ?_ (.pr rfl rfl rfl (.pt rfl rfl (.eq rfl (jk _)) (.pm rfl rfl rfl)))))⟩
       .rw[Zm hk];exact moS _ _ _ _ _ _
      .have VJ:k2.l[q].ag=4:=VJ;have hk:gk k2.l (q:Nat)=true:=by rw[UA];exact decide_eq_true VJ
       refine⟨sj::seen,trivial,VI,View.o1 5 [0,1,2,3,4] [] (.pt rfl rfl (.eq rfl (jA _ _ _)) (.pt rfl rfl ?_ (.pr rfl rfl rfl (.pt rfl rfl (.eq rfl (jk _)) (.pm rfl rfl rfl)))))⟩
       .rw[Ae hk];exact moS _ _ _ _ _ _
  .have me:i=cs.length:=by have h:¬(i:Int)<((cs.map Cl.enc).length:Int):=h;rw[Pj]at h;omega
   subst me;rw[aaV];subst hpg;refine⟨λh=>absurd hw h,λ_ h=>om,λ_ _=>⟨l',hp,hr,?_⟩⟩
   refine .bD rfl λi r r' h1 h2=>?_
   match i,h1,h2 with
   |0,h1,h2=>cases h1;cases h2;exact .one (fk.fl (ds:=(lQ (nD l') g0 0 cs).out.map Sp.enc) rfl 0 none)
   |1,h1,h2=>cases h1;cases h2;exact fu.self rfl
   |n+2,h1,h2=>simp at h1
theorem EI(l:List dy)(cs:List Cl)(fe:Pn cs){m:Mem}{K:CV->Mem->Prop}(h1:(dq l).1≠0->K (rI [] (dq l).1) m)(h2:(dq l).1=0->cs.length>80->K (rI [] 5) m)(h3:(dq l).1=0->cs.length<=80->∀l',l'.Perm l->rF l'->K (rI (lQ (nD l') g0 0 cs).out 0) m):ap prog 14 [fh l,tj cs] m K:=
 bh (ct func14 l14 (Ht l cs fe)) (by simp[fh,tj,CV.dB,CC.dB,RV.dB]) λr m1 hf=>by
  by_cases hw:(dq l).1=0
  .by_cases h8:cs.length<=80
   .obtain⟨l',hp,hr,hf⟩:=hf.2.2 hw h8;exact⟨_,hf,h3 hw h8 l' hp hr⟩
   .exact⟨_,hf.2.1 hw om,h2 hw om⟩
  .exact⟨_,hf.1 hw,h1 hw⟩
end Kn
def c13:LF:= ⟨39,[.tmp 0],(.seq (.ai [qu 0 (.aM (qb false))]) (.seq (.ai [qu 4 (.build [qd 0,qd 0,qd 0,qd 0,qd 0,qd 0,qd 0,(.ah (.val (.string ⟨#[]⟩))),.aO] [(1,1,qi 8)]),qu 5 (.build [qd 0,qd 0,qd 0,qd 0,qd 0,qd 0,qd 0,(.ah (.val (.string ⟨#[]⟩))),.aO] [(1,1,qi 9),(2,1,qi 1),(6,1,qi 5)]),qu 6 (.build [qd 0,qd 0,qd 0,qd 0,qd 0,qd 0,qd 0,(.ah (.val (.string ⟨#[]⟩))),.aO] [(1,1,qi 18)]),qu 7 (.od 9 [qd 0,qd 0,qd 0,qd 0,qd 0,qd 0,qd 0,(.ah (.val (.string ⟨#[]⟩))),.aO] 3 [(0,4),(1,5),(2,6)]),qu 8 (qc 14 [qe,7]),qm 3 8,qu 9 (.ext 3 0),qu 10 (.ext 3 1),qm 1 9,qm 2 10]) (.seq (.ai [qm 11 2,qu 12 (.aJ .eql 11 (qi 0)),qm 13 12,qg 14 (.aM 1) 13 true,qg 15 (.len 1 14) 13 true,qg 16 (.aJ .eql 15 (qi 5)) 13 true,qu 17 (.pick 13 16 (qb false)),qm 18 17,qg 19 (.aM 1) 18 true,qg 20 (.cz 8 19 (qi 1)) 18 true,qg 21 (.load true 8 20) 18 true,qg 22 (.build [qd 0,qd 0,qd 0,qd 0,qd 0,qd 0,qd 0,qd 0] [(0,1,qi 1),(2,1,qi 1),(3,1,qi 3),(5,1,qi 1),(6,1,qi 5)]) 18 true,qg 23 (.PN false [.i,.i,.i,.i,.i,.i,.i,.i] 21 22) 18 true,qu 24 (.pick 18 23 (qb false)),qm 25 24,qg 26 (.aM 1) 25 true,qg 27 (.cz 8 26 (qi 4)) 25 true,qg 28 (.b8 3 27) 25 true,qg 29 (.load false 1 28) 25 true,qg 30 (.aJ .eql 29 (qi 2)) 25 true,qu 31 (.pick 25 30 (qb false)),qm 32 31,qg 33 (.aM 1) 32 true,qg 34 (.cz 8 33 (qi 2)) 32 true,qg 35 (.b8 1 34) 32 true,qg 36 (.load false 1 35) 32 true,qg 37 (.aJ .eql 36 (qi 1)) 32 true,qu 38 (.pick 32 37 (qb false)),qm 0 38]) .ret)))⟩
namespace Kn
theorem VK:(dq []).1=0:=by kernel_rfl
def csG:List Cl:=[{clN with ag:=8},{clN with ag:=9,fd:=1,aW:=5},{clN with ag:=18}]
theorem ac8:(lQ (nD []) g0 0 csG).out=[⟨0,0,1,3,0,0,4095,0⟩,⟨1,0,1,3,0,1,5,0⟩,⟨2,1,0,3,0,0,4095,0⟩,⟨2,1,1,3,0,1,5,0⟩,⟨2,0,2,2,-1,0,3200,1⟩]:=by kernel_rfl
theorem l13:bz prog f13=some c13.er:=by kernel_rfl
theorem Co:body prog c13 [] [] (λr m=>r=aD true):=by
 refine pW (qB:=[fh [],tj csG]) (m':=[.aS]) (View.o 1 [0] [0] ?_ (.aS (.nil _))) ?_
 .refine .put (.rv (.one (.fQ (.aO 2)))) (.put (.rv (.one (.fQ (gZ.fQ (Z:=λk=>br [0] k=true) ?_ rfl rfl)))) .nil)
  repeat(first|exact kN.nil|exact gZ.nil|refine gZ.cons ?_ ?_|refine kN.cons ?_ ?_|exact .ah _|exact .aO 1)
 refine EI [] csG ⟨by decide,by decide⟩ (λh=>absurd VK h) (λ_ h=>absurd h (by decide)) λ_ _ l' hp hr=>?_
 rw[List.Perm.eq_nil hp,ac8];exact rfl
theorem Hu{m:Mem}{K:CV->Mem->Prop}(h:K (aD true) m):ap prog 13 [] m K:=
 vm func13 l13 rfl (aad rfl) Co rfl rfl h
end Kn
namespace Kn
structure Fr(T:Nat->Nat->Prop)(k x:Kr):Prop where
 ps:∀(t:Nat)y',x.ps[t]? =some y'->y'.aL=true->∀(i:Nat)s,y'.aQ[i]? =some s->s.has=true->T t i\/∃y,k.ps[t]? =some y/\y.aL=true/\y.aQ[i]? =some s
 ops:∀(n:Nat)o,k.ops[n]? =some o->0<=o.bm->∃o',x.ops[n]? =some o'/\o'.bm=o.bm
theorem Fr.refl(T:Nat->Nat->Prop)(k:Kr):Fr T k k:=⟨λt y hy hl i s hs _=>.inr ⟨y,hy,hl,hs⟩,λn o ho _=>⟨o,ho,rfl⟩⟩
theorem Fr.of(T:Nat->Nat->Prop){k x:Kr}(hp:x.ps=k.ps)(ho:x.ops=k.ops):Fr T k x:=
 ⟨λt y hy hl i s hs _=>.inr ⟨y,hp▸hy,hl,hs⟩,λn o h _=>⟨o,ho▸h,rfl⟩⟩
theorem Fr.mono{T T':Nat->Nat->Prop}{k x:Kr}(h:Fr T k x)(hT:∀t i,T t i->T' t i):Fr T' k x:=
 ⟨λt y hy hl i s hs hh=>(h.ps t y hy hl i s hs hh).imp (hT t i) id,h.ops⟩
theorem Fr.trans{T:Nat->Nat->Prop}{a b c:Kr}(h:Fr T a b)(g:Fr T b c):Fr T a c:=
 ⟨λt y hy hl i s hs hh=>(g.ps t y hy hl i s hs hh).elim .inl λ⟨z,h1,h2,h3⟩=>h.ps t z h1 h2 i s h3 hh,λn o ho h0=>by
  obtain⟨o1,g1,g2⟩:=h.ops n o ho h0;obtain⟨o2,g3,g4⟩:=g.ops n o1 g1 (by rw[g2];exact h0)
  exact⟨o2,g3,g4.trans g2⟩⟩
theorem Cp{l:List eh}{o r:Int}(h:(fw l o r).2.2=0):∃j:Nat,(fw l o r).2.1=j/\(fw l o r).1[j]? =some ⟨true,o,r⟩/\∀(i:Nat)s,(fw l o r).1[i]? =some s->i=j\/l[i]? =some s:=by
 have Nk:∀s:eh,It (jm s)=s:=λs=>rfl
 have Lw:∀i:Nat,((l.map jm)[i]?).map It=l[i]? :=λi=>by rw[Tm];cases l[i]? <;>rfl
 unfold fw at h|-;simp only[]at h|-;unfold Tb.iR at h|-;split at h
 .cases h
 .rename_i h1;simp only[if_neg h1];split at h
  .rename_i j hj;have mh:=(aaN.1 hj).1;refine⟨j,rfl,?_,λi s hs=>?_⟩
   .rw[Tm,TH mh];rfl
   .by_cases e:j=i
    .exact .inl e.symm
    .rw[Tm,U7 e,Lw]at hs;exact .inr hs
  .split at h
   .cases h
   .rename_i h2;simp only[if_neg h2];have E0:(l.map jm).length=l.length:=aE;refine⟨l.length,by rw[E0],?_,λi s hs=>?_⟩
    .rw[Tm,<-E0,ZZ (Ym _)];simp;rfl
    .rcases adk i l.length with e|e|e
     .rw[Tm,aac om,Lw]at hs;exact .inr hs
     .exact .inl e
     .rw[Tm,aaE (by simp;omega)]at hs;cases hs
theorem PB{l:List eh}{fd:Int}{i:Nat}{s:eh}(hs:(ru l fd).1[i]? =some s)(hh:s.has=true):l[i]? =some s:=by
 have Lw:∀i:Nat,((l.map jm)[i]?).map It=l[i]? :=λi=>by rw[Tm];cases l[i]? <;>rfl
 unfold ru Tb.mL at hs;split at hs
 .rw[Tm]at hs;cases h1:(((l.map jm).set fd.toNat Tb.pf).take (Tb.qF ((l.map jm).set fd.toNat Tb.pf)))[i]? with
  |none=>rw[h1]at hs;cases hs
  |some t=>
   rw[h1]at hs;have h2:=(yn h1).1;by_cases e:fd.toNat=i
   .subst e;have aC:fd.toNat<(l.map jm).length:=by have:=(Km.1 h2).1;simpa using this
    rw[TH aC]at h2;cases h2;cases hs;cases hh
   .rw[U7 e]at h2;rw[<-Lw,h2];exact hs
 .simp at hs
theorem VL{l:List eh}{fd:Int}(h:(ut l fd).2.2=0):(cH l fd).2=0/\∃j:Nat,(ut l fd).2.1=j/\(ut l fd).1[j]? =some ⟨true,(cH l fd).1.1,(cH l fd).1.2⟩/\∀(i:Nat)s,(ut l fd).1[i]? =some s->i=j\/l[i]? =some s:=by
 unfold ut Tb.sL at h|-;split at h
 .rename_i h1;simp only[if_pos h1];exact⟨h1,Cp (l:=l) (o:=(Tb.dV (l.map jm) fd).1.dF) (r:=(Tb.dV (l.map jm) fd).1.bU) h⟩
 .rename_i h1;exact absurd h h1
theorem VM{l:List eh}{fd n:Int}(h:(vW l fd n).2=0):(cH l fd).2=0/\Tb.cZ n (cH l fd).1.2=true/\∃j:Nat,fd=j/\(vW l fd n).1[j]? =some ⟨true,(cH l fd).1.1,n⟩/\∀(i:Nat)s,(vW l fd n).1[i]? =some s->i=j\/l[i]? =some s:=by
 have Lw:∀i:Nat,((l.map jm)[i]?).map It=l[i]? :=λi=>by rw[Tm];cases l[i]? <;>rfl
 unfold vW Tb.xP at h|-;split at h
 .rename_i h1;obtain⟨j,t,hj,h3,h4,h5,h6⟩:=iK (l:=l) (fd:=fd) h1;split at h
  .cases h
  rename_i h2;split at h
  .cases h
  rename_i h9;simp only[if_pos h1,if_neg h2,if_neg h9];have mh:j<(l.map jm).length:=by simpa using(Km.1 h3).1
  refine⟨h1,by simpa[cH]using h9,j,hj,?_,λi s hs=>?_⟩
  .rw[Tm,hj,Y6,TH mh];rfl
  .by_cases e:j=i
   .exact .inl e.symm
   .rw[Tm,hj,Y6,U7 e,Lw]at hs;exact .inr hs
 .rename_i h1;exact absurd h h1
theorem Fr.cS{k:Kr}{p:Nat}{y:bi}(hp:k.ps[p]? =some y)(bC:y.aL=true){S:List eh}{T:Nat->Nat->Prop}(hS:∀(i:Nat)s,S[i]? =some s->s.has=true->T p i\/y.aQ[i]? =some s){l:List Obj}:Fr T k ⟨l,k.ops,cS k.ps p S⟩:=by
 refine⟨λt y' hy hl i s hs hh=>?_,λn o ho _=>⟨o,ho,rfl⟩⟩
 have Sc:(Go.Proofs.YtodckkkbiidffaaGreatDoor.cS k.ps p S)[t]? =some y':=hy;clear hy;rw[jQ hp]at Sc;split at Sc
 .rename_i e;subst e;cases Sc;exact(hS i s hs hh).imp id λh=>⟨y,hp,bC,h⟩
 .exact .inr ⟨y',Sc,hl,hs⟩
theorem Fr.mR{k:Kr}{p:Nat}{y:bi}(hp:k.ps[p]? =some y)(bC:y.aL=true){bm bU:Int}(he:(aF k p bm bU).2.2=0):∃j:Nat,(aF k p bm bU).2.1=j/\Fr (λt i=>t=p/\i=j) k (aF k p bm bU).1/\
  ∃z,(aF k p bm bU).1.ps[p]? =some z/\z.aL=true/\z.aQ[j]? =some ⟨true,cY k.ops,bU⟩:=by
 have uj:an k.ps p=y.aQ:=by rw[an,hp]
 obtain⟨i0,S,O⟩:=jj hp he;unfold aF at he O|-;split at he
 .cases he
 rename_i h1;rw[if_neg h1]at O|-;split at he
 .rename_i h2;exact absurd he h2
 rename_i h2;rw[if_neg h2]at O|-;have h2:(fw (an k.ps p) (cY k.ops) bU).2.2=0:=Yk h2;rw[uj]at h2 O|-;obtain⟨j,g1,g2,g3⟩:=Cp h2;refine⟨j,g1,⟨λt y' hy hl i s hs hh=>?_,λn o ho h0=>?_⟩,⟨_,fy hp _,bC,g2⟩⟩
 .have Sc:(Go.Proofs.YtodckkkbiidffaaGreatDoor.cS k.ps p _)[t]? =some y':=hy;clear hy;rw[jQ hp]at Sc;split at Sc
  .rename_i e;subst e;cases Sc;exact(g3 i s hs).imp (λe=>⟨rfl,e⟩) λh=>⟨y,hp,bC,h⟩
  .exact .inr ⟨y',Sc,hl,hs⟩
 .refine⟨o,?_,rfl⟩;rw[O.o,if_neg λe=>?_]
  .exact ho
  .subst e;have:=O.yS o ho;omega
theorem Fr.im(T:Nat->Nat->Prop)(k:Kr)(z n:Int):Fr T k (Kn.im k (gE k z n)).1:=by
 unfold Kn.im;show Fr T k (if _ then _ else _)
 split
 .unfold gE;split
  .rename_i h1 h2;rw[gE,if_pos h2]at h1;cases h1
  .split
   .rename_i h1 h2 h3;rw[gE,if_neg h2,if_pos h3]at h1;cases h1
   .refine⟨λt y' hy hl i s hs hh=>?_,λn o ho _=>⟨o,ho,rfl⟩⟩
    have hy:(k.ps.set z.toNat _)[t]? =some y':=hy;by_cases e:z.toNat=t
    .subst e;have aC:z.toNat<k.ps.length:=by simpa using(Km.1 hy).1
     rw[TH aC]at hy;cases hy;cases hl
    .rw[U7 e]at hy;exact .inr ⟨y',hy,hl,hs⟩
 .exact .refl _ _
theorem Fr.YQ(T:Nat->Nat->Prop)(k:Kr)(p:Nat):Fr T k ⟨k.l,k.ops,lL k.ps p⟩:=by
 refine⟨λt y' hy hl i s hs hh=>?_,λn o ho _=>⟨o,ho,rfl⟩⟩
 have hy:(lL k.ps p)[t]? =some y':=hy;unfold lL at hy;split at hy
 .rename_i x hx;by_cases e:p=t
  .subst e;rw[TH (Km.1 hx).1]at hy;cases hy;exact .inr ⟨x,hx,hl,hs⟩
  .rw[U7 e]at hy;exact .inr ⟨y',hy,hl,hs⟩
 .exact .inr ⟨y',hy,hl,hs⟩
theorem Cq(k:Kr)(l:List Obj)(e:Int):(bv k l e).ops=k.ops:=by unfold bv;split<;>rfl
theorem yD(k:Kr)(f:R4)(o:Obj):(b7 k f o).1.ops=k.ops:=by
 unfold b7;split
 .rfl
 .exact Cq _ _ _
theorem Hv(k:Kr)(c:Cl)(f:R4):(bT k c f).1.ops=k.ops:=by
 unfold bT;split
 .rfl
 split
 .split
  .rfl
  .exact yD _ _ _
 split<;>rfl
def Zn(c:Cl)(p:Nat)(a:An)(t i:Nat):Prop:=
 (t=p/\(c.ag=2\/c.ag=3\/c.ag=8\/c.ag=15)/\(i:Int)=a.n)\/(t=p/\c.ag=9/\(i:Int)=c.fd)\/(t=p/\(c.ag=15\/c.ag=17\/c.ag=18)/\(i:Int)=a.m)\/(c.ag=18/\(t:Int)=a.n)
theorem tp{k:Kr}{p:Nat}{y:bi}(hp:k.ps[p]? =some y)(bC:y.aL=true){c:Cl}{aq:Int}{ax:Bool}(he:(eM k p c aq ax).2.eS=0):
  Fr (λt i=>t=p/\(i:Int)=(eM k p c aq ax).2.n) k (eM k p c aq ax).1/\∃(z:bi)(j:Nat)(s:eh),(eM k p c aq ax).1.ps[p]? =some z/\z.aL=true/\(eM k p c aq ax).2.n=j/\z.aQ[j]? =some s/\s.has=true/\s.bU=c.aW:=by
 unfold eM jd at he|-;split at he
 .rename_i h1;exact absurd he h1
 rename_i h1;rw[if_neg h1];have e1:=Hv k c (gV k aq c.cE ax true);have e2:=Ln k c (gV k aq c.cE ax true);generalize bT k c (gV k aq c.cE ax true)=X at*
 split at he
 .rename_i h2;exact absurd he h2
 rename_i h2;rw[if_neg h2];have h2:=Yk h2;obtain⟨j,g1,g2,z,g3,g4,g5⟩:=Fr.mR (k:=X.1) (by rw[e2];exact hp) bC h2
 have va:Fr (λt i=>t=p/\i=j) k (aF X.1 p X.2.1 c.aW).1:=(Fr.of _ e2 e1).trans g2
 have d9:∀(x:Kr)(a:An),x.ps=(aF X.1 p X.2.1 c.aW).1.ps->x.ops=(aF X.1 p X.2.1 c.aW).1.ops->a.n=(aF X.1 p X.2.1 c.aW).2.1->
   Fr (λt i=>t=p/\(i:Int)=a.n) k x/\∃(z:bi)(j:Nat)(s:eh),x.ps[p]? =some z/\z.aL=true/\a.n=j/\z.aQ[j]? =some s/\s.has=true/\s.bU=c.aW:=λx a h3 h4 h5=>
  ⟨(va.mono λt i⟨a1,a2⟩=>⟨a1,by rw[h5,g1,a2]⟩).trans (.of _ h3 h4),z,j,_,by rw[h3];exact g3,g4,h5.trans g1,g5,rfl,rfl⟩
 split
 .exact d9 _ _ rfl rfl rfl
 .exact d9 _ _ rfl rfl rfl
end Kn
namespace Kn
theorem I4{k:Kr}{p:Nat}{y:bi}(hp:k.ps[p]? =some y)(bC:y.aL=true){c:Cl}(he:(fx k p c).2.eS=0):
  Fr (λt i=>t=p/\(i:Int)=(fx k p c).2.n) k (fx k p c).1/\(∃(z:bi)(j:Nat)(s:eh),(fx k p c).1.ps[p]? =some z/\z.aL=true/\(fx k p c).2.n=j/\z.aQ[j]? =some s/\s.has=true/\s.bU=c.aW)/\
   (c.ag≠2->(cH (an k.ps p) c.fd).2=0/\Tb.cZ (km c) (cH (an k.ps p) c.fd).1.2=true):=by
 unfold fx at he|-;split at he
 .cases he
 rename_i h1;rw[if_neg h1];split at he
 .rename_i h2;rw[if_pos h2];exact⟨(tp hp bC he).1,(tp hp bC he).2,λh=>absurd h2 h⟩
 rename_i h2;rw[if_neg h2];split at he
 .rename_i h3;exact absurd he h3
 rename_i h3;rw[if_neg h3];obtain⟨w1,_,_,w4⟩:=uK (Yk h3);exact⟨(tp hp bC he).1,(tp hp bC he).2,λ_=>⟨w1,w4⟩⟩
theorem Sd{k:Kr}{p:Nat}{y:bi}(hp:k.ps[p]? =some y)(bC:y.aL=true)(he:(gW k p).2.eS=0):
  Fr (λt i=>t=p/\((i:Int)=(gW k p).2.n\/(i:Int)=(gW k p).2.m)) k (gW k p).1:=by
 unfold Kn.gW yi at he|-;split at he
 .rename_i h1;exact absurd he h1
 rename_i h1;rw[if_neg h1];generalize fD k.l=P at*
 unfold tc at he|-;split at he
 .rename_i h2;exact absurd he h2
 rename_i h2;rw[if_neg h2];obtain⟨j1,g1,g2,z,g3,g4,g5⟩:=Fr.mR (k:=⟨P.1,k.ops,k.ps⟩) hp bC (Yk h2);split at he
 .rename_i h3;exact absurd he h3
 rename_i h3;rw[if_neg h3];obtain⟨j2,q1,q2,_⟩:=Fr.mR g3 g4 (Yk h3);exact Fr.trans (b:=⟨P.1,k.ops,k.ps⟩) (Fr.of _ rfl rfl) (Fr.trans (g2.mono λt i(h:t=p/\i=j1)=>⟨h.1,.inl (by rw[h.2];exact g1.symm)⟩) (q2.mono λt i(h:t=p/\i=j2)=>⟨h.1,.inr (by rw[h.2];exact q1.symm)⟩))
theorem Se{k:Kr}{p:Nat}{y:bi}(hp:k.ps[p]? =some y)(bC:y.aL=true){c:Cl}(he:(fN k p c).2.eS=0):
  Fr (λt i=>t=p/\(i:Int)=(fN k p c).2.m) k (fN k p c).1:=by
 have uj:an k.ps p=y.aQ:=by rw[an,hp]
 unfold Kn.fN vA at he|-;split at he
 .rename_i h1;exact absurd he h1
 rename_i h1;rw[if_neg h1];generalize fK k.l _=r at*
 unfold vz at he|-;split at he
 .rename_i h2;exact absurd he h2
 rename_i h2;rw[if_neg h2];split at he
 .rename_i h3;rw[if_pos h3];split at he
  .rename_i h4;exact absurd he h4
  rename_i h4;rw[if_neg h4];rw[uj]at h4|-;obtain⟨j,g1,g2,g3⟩:=Cp (Yk h4);unfold vy;rw[eC,if_pos rfl,bv,if_pos rfl];refine Fr.cS hp bC λi s hs hh=>?_
  rcases g3 i s hs with e|e
  .exact .inl ⟨rfl,by rw[e];exact g1.symm⟩
  .exact .inr e
 .rename_i h3;rw[if_neg h3];unfold vy;rw[bv,if_pos rfl];exact .of _ rfl rfl
theorem Sf{k:Kr}{p:Nat}{x:bi}(hp:k.ps[p]? =some x)(bC:x.aL=true)(he:(fU k p).2.2.2=0):
  Fr (λt i=>(t:Int)=(fU k p).2.1\/(t=p/\(i:Int)=(fU k p).2.2.1)) k (fU k p).1:=by
 obtain⟨c,C⟩:=rD hp bC he;obtain⟨g1,g2,g3,g4⟩:=uC hp C.le;have HP:(gm k.ps p c)[p]? =some x:=by rw[g3 p C.ne];exact hp
 obtain⟨j,j1,j2,_⟩:=Fr.mR (k:=⟨(aH k.l (c7 c)).1,k.ops,gm k.ps p c⟩) HP bC C.eo;rw[C.R];refine Fr.trans (b:=⟨(aH k.l (c7 c)).1,k.ops,gm k.ps p c⟩) ⟨λt y' hy hl i s hs hh=>?_,λn o ho _=>⟨o,ho,rfl⟩⟩ (j2.mono λt i⟨a,b⟩=>.inr ⟨a,by rw[b];exact j1.symm⟩)
 by_cases e:t=c
 .exact .inl (.inl (by rw[e]))
 .have hy:(gm k.ps p c)[t]? =some y':=hy;rw[g3 t e]at hy;exact .inr ⟨y',hy,hl,hs⟩
theorem I5{k:Kr}{p:Nat}{y:bi}(hp:k.ps[p]? =some y)(bC:y.aL=true){c:Cl}(he:(iI k p c).2.eS=0)(hk:c.ag=7\/c.ag=8\/c.ag=9):
  Fr (Zn c p (iI k p c).2) k (iI k p c).1/\(c.ag≠7->(cH (an k.ps p) c.fd).2=0/\∃(z:bi)(j:Nat)(s:eh),(iI k p c).1.ps[p]? =some z/\z.aL=true/\(j:Int)=(if c.ag=8 then(iI k p c).2.n else c.fd)/\z.aQ[j]? =some s/\s.has=true/\Tb.cZ s.bU (cH (an k.ps p) c.fd).1.2=true):=by
 have uj:an k.ps p=y.aQ:=by rw[an,hp]
 have hn:(iI k p c).2.n=(jg y.aQ c).2.1:=by rw[<-uj];rfl
 have he:(jg (an k.ps p) c).2.2=0:=he;show Fr (Zn c p (Ef k p (jg (an k.ps p) c)).2) k (eC k p _ _)/\(_->_/\∃z j s,(eC k p _ _).ps[p]? =some z/\_);rw[eC,if_pos he];rw[uj]at he|-;have Zo:∀r:Int,Tb.cZ r r=true:=λr=>by rw[rH];apply BitVec.eq_of_getLsbD_eq;intro i hi;simp[hi]
 unfold jg at he|-;rcases hk with h7|h8|h9
 .rw[if_pos h7]at he|-;refine⟨Fr.cS hp bC λi s hs hh=>.inr (PB hs hh),λh=>absurd h7 h⟩
 .rw[if_neg om,if_pos h8]at he|-;obtain⟨w1,j,g1,g2,g3⟩:=VL he;exact⟨Fr.cS hp bC λi s hs hh=>(g3 i s hs).imp (λe=>.inl ⟨rfl,.inr (.inr (.inl h8)),by rw[e];exact g1.symm⟩) id,λ_=>⟨w1,_,j,_,fy hp _,bC,by rw[if_pos h8,hn,jg,if_neg om,if_pos h8];exact g1.symm,g2,rfl,Zo _⟩⟩
 .rw[if_neg om,if_neg om]at he|-;obtain⟨w1,w2,j,g1,g2,g3⟩:=VM he;exact⟨Fr.cS hp bC λi s hs hh=>(g3 i s hs).imp (λe=>.inr (.inl ⟨rfl,h9,by rw[e];exact g1.symm⟩)) id,λ_=>⟨w1,_,j,_,fy hp _,bC,by rw[if_neg om];exact g1.symm,g2,rfl,w2⟩⟩
theorem Cr{k:Kr}{p:Nat}{c:Cl}(T:Nat->Nat->Prop):Fr T k (gg k p c).1:=by
 refine⟨λt y hy hl i s hs _=>.inr ⟨y,by rw[<-Po k p c];exact hy,hl,hs⟩,λn o ho _=>?_⟩
 have Mn:∀z a:Int,∃o',(px k z a).ops[n]? =some o'/\o'.bm=o.bm:=λz a=>by
  unfold px;show ∃o',(match k.ops[z.toNat]? with|some o=>k.ops.set z.toNat {o with dj:=a}|none=>k.ops)[n]? =some o'/\o'.bm=o.bm
  split
  .rename_i q hq;by_cases e:z.toNat=n
   .subst e;rw[TH (Km.1 hq).1];rw[ho]at hq;cases hq;exact⟨_,rfl,rfl⟩
   .rw[U7 e];exact⟨o,ho,rfl⟩
  .exact⟨o,ho,rfl⟩
 unfold gg kI;repeat' split
 all_goals first
  |exact⟨o,ho,rfl⟩
  |(unfold py;split<;>first|exact⟨o,ho,rfl⟩|exact Mn _ _)
  |(unfold mP;split<;>first|exact⟨o,ho,rfl⟩|exact Mn _ _)
  |(unfold n8;split<;>first|exact⟨o,ho,rfl⟩|exact Mn _ _)
theorem PC(k:Kr)(p:Nat)(c:Cl):(iJ k p c).1.ops=k.ops:=by
 unfold iJ OL il;show(if _ then _ else _:Kr×Int).1.ops=_
 split
 .rfl
 unfold mA;repeat' split
 all_goals first
  |rfl
  |exact Cq _ _ _
  |exact yD _ _ _
theorem PD(k:Kr)(p:Nat)(c:Cl):(gF k p c).1.ops=k.ops:=by
 unfold gF s9;split
 .rfl
 unfold qI jh;repeat' split
 all_goals first
  |rfl
  |exact Cq _ _ _
theorem PE{k:Kr}{p:Nat}{y:bi}(hp:k.ps[p]? =some y)(bC:y.aL=true){c:Cl}(he:(dP k p c).2.eS=0):
  Fr (λt i=>c.ag=18/\((t:Int)=(dP k p c).2.n\/(t=p/\(i:Int)=(dP k p c).2.m))) k (dP k p c).1:=by
 unfold dP at he|-;split at he
 .rename_i h1;rw[if_pos h1];exact .YQ _ _ _
 rename_i h1;rw[if_neg h1];split at he
 .rename_i h2;rw[if_pos h2];exact .refl _ _
 rename_i h2;rw[if_neg h2];split at he
 .rename_i h3;rw[if_pos h3];unfold pA at he|-;split at he
  .rename_i h4;exact absurd he h4
  .rename_i h4;rw[if_neg h4];exact(Sf hp bC (Yk h4)).mono λt i h=>⟨h3,h⟩
 rename_i h3;rw[if_neg h3];split
 .exact .im _ _ _ _
 generalize bo k p c.fd (if c.ag=20 then 2048 else 1024)=w
 unfold lM;split
 .exact .refl _ _
 unfold rz;split
 .exact .refl _ _
 split
 .split<;>exact .refl _ _
 .exact .im _ _ _ _
theorem TO{k:Kr}{p:Nat}{y:bi}(hp:k.ps[p]? =some y)(bC:y.aL=true){c:Cl}(he:(eJ k p c).2.eS=0):Fr (Zn c p (eJ k p c).2) k (eJ k p c).1:=by
 unfold eJ at he|-;split at he
 .rename_i a;rw[if_pos a];exact(I4 hp bC he).1.mono λt i⟨e1,e2⟩=>.inl ⟨e1,a.elim .inl λh=>.inr (.inl h),e2⟩
 rename_i a;rw[if_neg a];split at he
 .rename_i a2;rw[if_pos a2];exact Cr _
 rename_i a2;rw[if_neg a2];split at he
 .rename_i a3;rw[if_pos a3];exact(I5 hp bC he a3).1
 rename_i a3;rw[if_neg a3];split at he
 .rename_i a4;rw[if_pos a4];exact .refl _ _
 rename_i a4;rw[if_neg a4];split at he
 .rename_i a5;rw[if_pos a5];exact .of _ (RU k p c) (PC k p c)
 rename_i a5;rw[if_neg a5];split at he
 .rename_i a6;rw[if_pos a6];exact(Sd hp bC he).mono λt i⟨e1,e2⟩=>e2.elim (λe=>.inl ⟨e1,.inr (.inr (.inr a6)),e⟩) λe=>.inr (.inr (.inl ⟨e1,.inl a6,e⟩))
 rename_i a6;rw[if_neg a6];split at he
 .rename_i a7;rw[if_pos a7];exact .of _ (RW k p c) (PD k p c)
 rename_i a7;rw[if_neg a7];split at he
 .rename_i a8;rw[if_pos a8];exact(Se hp bC he).mono λt i⟨e1,e2⟩=>.inr (.inr (.inl ⟨e1,.inr (.inl a8),e2⟩))
 rename_i a8;rw[if_neg a8];exact(PE hp bC he).mono λt i⟨e1,e2⟩=>e2.elim (λe=>.inr (.inr (.inr ⟨e1,e⟩))) λe=>.inr (.inr (.inl ⟨e.1,.inr (.inr e1),e.2⟩))
theorem Sg{c:Cl}{r:Int}(h:Tb.cZ (km c) r=true):Tb.cZ c.aW r=true:=by
 have Si:∀{x y z:BitVec 64},(x|||y)&&&z=0#64->y&&&z=0#64:=λ{x y z}h=>Zc (x:=y) (y:=x) (by rw[BitVec.or_comm];exact h)
 rw[rH]at h|-;unfold km at h;split at h<;>split at h
 all_goals
  simp only[Zd]at h;generalize ~~~ BitVec.ofInt 64 r=z at h|-
 .exact Si (Zc (Zc h))
 .exact Si (Zc h)
 .exact Si (Zc h)
 .exact Si h
theorem Sj{k:Kr}{p:Nat}{y:bi}(hp:k.ps[p]? =some y)(bC:y.aL=true){c:Cl}(he:(eJ k p c).2.eS=0)(hk:c.ag=3\/c.ag=8\/c.ag=9):
  (cH (an k.ps p) c.fd).2=0/\∃(z:bi)(j:Nat)(s:eh),(eJ k p c).1.ps[p]? =some z/\z.aL=true/\(j:Int)=(if c.ag=9 then c.fd else(eJ k p c).2.n)/\z.aQ[j]? =some s/\s.has=true/\Tb.cZ s.bU (cH (an k.ps p) c.fd).1.2=true:=by
 unfold eJ at he|-;rcases hk with hk|hk
 .rw[if_pos (.inr hk)]at he|-;obtain⟨_,⟨z,j,s,g1,g2,g3,g4,g5,g6⟩,hw⟩:=I4 hp bC he;obtain⟨w1,w2⟩:=hw om;exact⟨w1,z,j,s,g1,g2,by rw[if_neg om];exact g3.symm,g4,g5,by rw[g6];exact Sg w2⟩
 .rw[if_neg om,if_neg om,if_pos om]at he|-;obtain⟨w1,z,j,s,g1,g2,g3,g4⟩:=(I5 hp bC he om).2 om;refine⟨w1,z,j,s,g1,g2,?_,g4⟩;rw[g3];rcases hk with h|h
  .rw[if_pos h,if_neg om]
  .rw[if_neg om,if_pos h]
theorem VN{x:Kr}(h:KI x){z r:Int}(hc:fO (eB x) z r):dR (eB x).ops z=dR x.ops z:=by
 obtain⟨_,n,o,rfl,ho,j,_,hj,_⟩:=hc;have:=Sa h ho (by rw[hj];omega)
 unfold dR;rw[Y6,ho,this]
theorem Zp{prog:List dH}{k:Kr}(h:KI k){c:Cl}(he:(iz prog k c).2.eS=0){t:Nat}{y':bi}(hy:(iz prog k c).1.ps[t]? =some y')(hl:y'.aL=true){i:Nat}{s:eh}(hs:y'.aQ[i]? =some s)(hh:s.has=true):
  Zn c c.ba.toNat (iz prog k c).2 t i\/∃y,k.ps[t]? =some y/\y.aL=true/\y.aQ[i]? =some s/\dR (iz prog k c).1.ops s.dF=dR k.ops s.dF:=by
 obtain⟨p,hc,hp,bC,_,_,ho,e⟩:=pF he;have BX:c.ba.toNat=p:=by rw[hc];rfl
 rw[BX];have y9:=vU hp;have H6:=h.op y9 bC ho;have LG:=H6.O3;rw[e]at hy|-;have hy1:(eB (eJ k p c).1).ps[t]? =some y':=hy;have hx:=(EA H6).2 t y' hy1 hl;have be:=LG.cap y' (Tp hy1) s (Tp hs) hh;rcases(TO y9 bC ho).ps t y' hx hl i s hs hh with g|⟨y,g1,g2,g3⟩
 .exact .inl g
 refine .inr ⟨y,g1,g2,g3,?_⟩;show dR (eB (eJ k p c).1).ops s.dF=_;rw[VN H6 be];obtain⟨_,n,o,en,h1,j,_,hj,_⟩:=h.cap y (Tp g1) s (Tp g3) hh;obtain⟨o',h2,h3⟩:=(TO y9 bC ho).ops n o h1 (by rw[hj];omega)
 unfold dR;rw[en,Y6,h1,h2];exact h3
end Kn
namespace Kn
abbrev Mp:=List ((Int×Int)×Sp)
def tq(x:Int×Int)(v:Sp):Mp->Mp
 | []=>[(x,v)]
 |e::r=>if x=e.1 then(x,v)::r else e::tq x v r
def yN(x:Int×Int):Mp->Option Sp
 | []=>none
 |e::r=>if x=e.1 then some e.2 else yN x r
theorem I6(x:Int×Int)(v:Sp):∀M:Mp,yN x (tq x v M)=some v
 | []=>by rw[tq,yN,if_pos rfl]
 |e::r=>by
  rw[tq];split
  .rw[yN,if_pos rfl]
  .rename_i h;rw[yN,if_neg h];exact I6 x v r
theorem yE{x z:Int×Int}(dh:z≠x)(v:Sp):∀M:Mp,yN z (tq x v M)=yN z M
 | []=>by simp[tq,yN,dh]
 |e::r=>by
  rw[tq];split
  .rename_i h;rw[yN,yN,if_neg dh,if_neg (by rw[<-h];exact dh)]
  .rw[yN,yN,yE dh v r]
def uN(s:Sp):Int×Int:=(s.p,s.s)
def tt:List Sp->Mp->Mp
 | [],M=>M
 |s::r,M=>tt r (tq (uN s) s M)
theorem pK:∀(a b:List Sp)(M:Mp),tt (a++b) M=tt b (tt a M)
 | [],_,_=>rfl
 |s::r,b,M=>pK r b (tq (uN s) s M)
theorem yF(x:Int×Int):∀(L:List Sp)(M:Mp),(∃s,s∈L/\uN s=x/\yN x (tt L M)=some s)\/((∀s,s∈L->uN s≠x)/\yN x (tt L M)=yN x M)
 | [],M=>.inr ⟨λs h=>(by cases h),rfl⟩
 |s::r,M=>by
  rcases yF x r (tq (uN s) s M)with⟨v,h1,h2,h3⟩|⟨h1,h2⟩
  .exact .inl ⟨v,aby _ h1,h2,h3⟩
  .by_cases e:uN s=x
   .refine .inl ⟨s,acb,e,h2.trans ?_⟩;rw[e];exact I6 x s M
   .exact .inr ⟨λv hv=>(aaJ.1 hv).elim (λh=>h▸e) (h1 v),h2.trans (yE (λh=>e h.symm) s M)⟩
def TL(k:Kr)(M:Mp):Prop:=∀(t:Nat)y,k.ps[t]? =some y->y.aL=true->∀(i:Nat)s,y.aQ[i]? =some s->s.has=true->∃v,yN ((t:Int),(i:Int)) M=some v/\v.r=s.bU/\v.o=dR k.ops s.dF
def M0:Mp:=[((0,0),⟨0,0,0,0,0,0,4095,0⟩)]
theorem TL.EE:TL dS M0:=λt y hy hl i s hs hh=>by
 match t,hy with
 |0,hy=>
  have hy:some (⟨true,false,0,[⟨true,0,4095⟩]⟩:bi)=some y:=hy;cases hy
  match i,hs with
  |0,hs=>cases hs;exact⟨_,rfl,rfl,rfl⟩
  |n+1,hs=>cases hs
 |n+1,hy=>cases hy
theorem Cs{l:List eh}{i:Nat}{s:eh}(h:l[i]? =some s)(hh:s.has=true):cH l (i:Int)=((s.dF,s.bU),0):=by
 have e:Tb.dV (l.map jm) (i:Int)=(⟨s.dF,s.bU⟩,0):=by
  rw[Tb.dV,if_pos om,Y6,Tm,h];show(if s.has=true then _ else _)=_
  rw[if_pos hh];rfl
 rw[cH,e]
theorem jR{ps:List bi}{t:Nat}{y:bi}(h:ps[t]? =some y):an ps t=y.aQ:=by rw[an,h]
theorem EJ{k:Kr}{c:Int}{p:Nat}{fd h f g:Int}{s:Sp}(hs:s∈dt k c p fd h f g):(cH (an k.ps p) fd).2=0/\s=⟨c,p,fd,h,f,g,(cH (an k.ps p) fd).1.2,dR k.ops (cH (an k.ps p) fd).1.1⟩:=by
 unfold dt at hs;split at hs
 .cases hs
 .rename_i h1;exact⟨Yk h1,abY.1 hs⟩
theorem jl{k:Kr}{t:Nat}{i:Int}(h:(cH (an k.ps t) i).2=0)(c h1 f g:Int):∃s,s∈dt k c t i h1 f g/\uN s=((t:Int),i):=by
 unfold dt;rw[if_neg (by rw[h];simp)]
 exact⟨_,abY.2 rfl,rfl⟩
theorem PF{k:Kr}{c:Int}{n:Nat}{f:Int}{L:List Int}{s:Sp}(hs:s∈eR k c n f L):∃fd,fd∈L/\s∈dt k c n fd 3 f fd:=by unfold eR at hs;obtain⟨y,h1,h2⟩:=List.mem_flatMap.1 hs;exact⟨y,h1,h2⟩
def Val(k:Kr)(s:Sp):Prop:=∃t:Nat,s.p=t/\(cH (an k.ps t) s.s).2=0/\s.r=(cH (an k.ps t) s.s).1.2/\s.o=dR k.ops (cH (an k.ps t) s.s).1.1
theorem ko{k:Kr}{c:Int}{p:Nat}{fd h f g:Int}{s:Sp}(hs:s∈dt k c p fd h f g):Val k s:=by obtain⟨h1,rfl⟩:=EJ hs;exact⟨p,rfl,h1,rfl,rfl⟩
theorem PG{k:Kr}{c:Int}{n:Nat}{f:Int}{L:List Int}{s:Sp}(hs:s∈eR k c n f L):Val k s:=by obtain⟨fd,_,h⟩:=PF hs;exact ko h
theorem Lx{n:Int}{p:Nat}{c:Cl}{a:An}{b k:Kr}{W:Wt}{s:Sp}(hs:s∈(dK n p c a b k W).2):Val k s:=by
 unfold dK at hs;split at hs
 .exact ko hs
 split at hs
 .exact ko hs
 split at hs
 .exact ko hs
 split at hs
 .exact(abu.1 hs).elim ko ko
 split at hs
 .cases hs
 split at hs
 .split at hs
  .split at hs
   .exact ko hs
   .cases hs
  .cases hs
 split at hs
 .exact(abu.1 hs).elim PG ko
 .cases hs
theorem EK:∀(l:List Tb.bR)(n i:Nat)(s:Tb.bR),l[i]? =some s->s.has=true->((n+i:Nat):Int)∈Tb.l6 n l
 | [],_,_,_,h,_=>by cases h
 |x::r,n,0,s,h,hh=>by cases h;rw[Tb.l6,if_pos hh];exact acb
 |x::r,n,i+1,s,h,hh=>by
  have:=EK r (n+1) i s h hh;rw[show n+1+i=n+(i+1) by omega]at this
  rw[Tb.l6];split
  .exact aby _ this
  .exact this
theorem I7:∀(l:List Tb.bR)(n:Nat)(fd:Int),fd∈Tb.l6 n l->∃(i:Nat)(s:Tb.bR),fd=((n+i:Nat):Int)/\l[i]? =some s/\s.has=true
 | [],_,_,h=>by cases h
 |x::r,n,fd,h=>by
  have go:fd∈Tb.l6 (n+1) r->∃(i:Nat)(s:Tb.bR),fd=((n+i:Nat):Int)/\(x::r)[i]? =some s/\s.has=true:=λh=>by
   obtain⟨i,s,h1,h2,h3⟩:=I7 r (n+1) fd h;exact⟨i+1,s,by rw[h1];congr 1;omega,h2,h3⟩
  rw[Tb.l6]at h;split at h
  .rename_i hx;rcases aaJ.1 h with h|h
   .exact⟨0,x,h,rfl,hx⟩
   .exact go h
  .exact go h
theorem PH{l:List eh}{i:Nat}{s:eh}(h:l[i]? =some s)(hh:s.has=true):(i:Int)∈zm l:=by
 have:=EK (l.map jm) 0 i (jm s) (by rw[Tm,h];rfl) hh
 rwa [aaP]at this
theorem Sl{l:List eh}{fd:Int}(h:fd∈zm l):∃(i:Nat)(s:eh),fd=i/\l[i]? =some s/\s.has=true:=by
 obtain⟨i,s,h1,h2,h3⟩:=I7 (l.map jm) 0 fd h;rw[Tm]at h2;cases h4:l[i]? with
 |none=>rw[h4]at h2;cases h2
 |some x=>rw[h4]at h2;cases h2;exact⟨i,x,by rw[h1,aaP],h4,h3⟩
theorem Sm{n:Int}{p:Nat}{c:Cl}{a:An}{b k:Kr}{W:Wt}{t i:Nat}(hT:Zn c p a t i)(hg:(cH (an k.ps t) i).2=0)(ada:c.ag=17->∃x r,gH (lP b p c.fd) W=some (x::r))(hch:c.ag=18->(t:Int)=a.n->(i:Int)∈zm (an b.ps p)):∃s,s∈(dK n p c a b k W).2/\uN s=((t:Int),(i:Int)):=by
 unfold dK;rcases hT with⟨rfl,hk,hi⟩|⟨rfl,hk,hi⟩|⟨rfl,hk,hi⟩|⟨hk,ht⟩
 .rw[hi]at hg|-;rcases hk with hk|hk|hk|hk
  .rw[if_pos hk];exact jl hg _ _ _ _
  .rw[if_neg om,if_pos (.inl hk)];exact jl hg _ _ _ _
  .rw[if_neg om,if_pos (.inr hk)];exact jl hg _ _ _ _
  .rw[if_neg om,if_neg om,if_neg om,if_pos hk];obtain⟨s,h1,h2⟩:=jl hg n 2 (-1) 0;exact⟨s,adO _ h1,h2⟩
 .rw[hi]at hg|-;rw[if_neg om,if_neg om,if_pos hk];exact jl hg _ _ _ _
 .rcases hk with hk|hk|hk
  .rw[hi]at hg|-;rw[if_neg om,if_neg om,if_neg om,if_pos hk];obtain⟨s,h1,h2⟩:=jl hg n 2 (-1) 0;exact⟨s,List.mem_append_right _ h1,h2⟩
  .rw[if_neg om,if_neg om,if_neg om,if_neg om,if_neg om,if_pos hk];obtain⟨x,r,hw⟩:=ada hk;rw[hw];show ∃s,s∈(if a.m>=0 then dt k n t a.m 3 x.1 x.2 else [])/\_
   rw[if_pos om];rw[hi]at hg|-;exact jl hg _ _ _ _
  .rw[hi]at hg|-;rw[if_neg om,if_neg om,if_neg om,if_neg om,if_neg om,if_neg om,if_pos hk];obtain⟨s,h1,h2⟩:=jl hg n 2 (-1) 0;exact⟨s,List.mem_append_right _ h1,h2⟩
 .have hm:=hch hk ht;rw[if_neg om,if_neg om,if_neg om,if_neg om,if_neg om,if_neg om,if_pos hk];obtain⟨s,h1,h2⟩:=jl hg n 3 c.ba i;refine⟨s,adO _ ?_,h2⟩;unfold eR;rw[<-ht,Y6];exact List.mem_flatMap.2 ⟨i,hm,h1⟩
def AJ(prog:List dH)(i:Nat)(c:Cl)(g:Gs):List Sp:=if(iz prog g.k c).2.eS=0 then(dK i c.ba.toNat c (iz prog g.k c).2 g.k (iz prog g.k c).1 g.W).2 else []
theorem AK(prog:List dH)(i:Nat)(c:Cl)(g:Gs):(kO prog i c g).out=g.out++AJ prog i c g:=by
 unfold kO AJ;simp only;split<;>rfl
theorem vE{prog:List dH}{k:Kr}(h:KI k)(hs:LW k){c:Cl}(he:(iz prog k c).2.eS=0)(hk:c.ag=18):∃n:Nat,(iz prog k c).2.n=n/\n≠c.ba.toNat/\an (iz prog k c).1.ps n=an k.ps c.ba.toNat:=by
 obtain⟨p,hc,hp,bC,_,_,ho,e⟩:=pF he;have BX:c.ba.toNat=p:=by rw[hc];rfl
 rw[BX];have y9:=vU hp;have ht:vD c.ag:= .inr (.inr (.inr (.inr (.inr (.inr hk)))));obtain⟨n,a1,a2,a3⟩:=(Cm h y9 bC ho ht).2.2 hk;refine⟨n,by rw[e];exact a1,a2,?_⟩
 have hz:(iz prog k c).1.ps[n]? =some ⟨true,k.ps[p].fenced,0,k.ps[p].aQ⟩:=by rw[e];show(eB (eJ k p c).1).ps[n]? =_;rw[uM (prog:=prog) h hs hp bC ho ht];exact yu a3 rfl
 rw[jR hz,jR y9]
theorem TL.step{prog:List dH}{g:Gs}(hG:GI g.k g.W){M:Mp}(hT:TL g.k M)(i:Nat)(c:Cl):TL (kO prog i c g).k (tt (AJ prog i c g) M):=by
 show TL (iz prog g.k c).1 _;unfold AJ;by_cases he:(iz prog g.k c).2.eS=0
 .rw[if_pos he];have ir:=hG.in_ (prog:=prog) he;intro t y' hy hl j s hs hh;have kD:cH (an (iz prog g.k c).1.ps t) j=((s.dF,s.bU),0):=by rw[jR hy];exact Cs hs hh
  rcases yF ((t:Int),(j:Int)) (dK i c.ba.toNat c (iz prog g.k c).2 g.k (iz prog g.k c).1 g.W).2 M with⟨v,h1,h2,h3⟩|⟨h1,h2⟩
  .obtain⟨t',e1,e2,e3,e4⟩:=Lx h1;have k1:v.p=t:=congrArg Prod.fst h2;have k2:v.s=j:=congrArg Prod.snd h2;have:t'=t:=om;subst this;rw[k2,kD]at e3 e4;exact⟨v,h3,e3,e4⟩
  .rcases Zp hG.ki he hy hl hs hh with g1|⟨y,g1,g2,g3,g4⟩
   .obtain⟨v,v1,v2⟩:=Sm (n:=i) (b:=g.k) (W:=g.W) g1 (by rw[kD]) ir.got (λhk ht=>by obtain⟨n,n1,_,n3⟩:=vE (prog:=prog) hG.ki hG.sw he hk;have:t=n:=om;subst this;rw[<-n3,jR hy];exact PH hs hh)
    exact absurd v2 (h1 v v1)
   .obtain⟨v,v1,v2,v3⟩:=hT t y g1 g2 j s g3 hh;exact⟨v,h2.trans v1,v2,v3.trans g4.symm⟩
 .rw[if_neg he];obtain⟨e,h2⟩:=wt he;rw[h2];exact hT
end Kn
namespace Kn
def NC(l:List Obj):Prop:=∀(j:Nat)o,l[j]? =some o->o.ag=4->∀m,m∈o.ar->m.has=false
theorem NC.EE:NC dS.l:=λj o ho hk=>by
 have:o=gp:=by have hm:=Tp ho;simpa[dS]using hm
 subst this;simp[gp]at hk
theorem Sn{k:Kr}{p:Nat}{c:Cl}(hn:NC k.l)(hc:c.fE<0)(he:(gF k p c).2.eS=0):NC (gF k p c).1.l:=by
 have key:∀r:List Obj×Int,(jh k c r).2.eS=0->r.2=0:=λr hr=>by
  unfold jh at hr;by_cases h1:r.2=0
  .exact h1
  .rw[if_pos h1]at hr;exact absurd hr h1
 unfold Kn.gF s9 at he|-;split at he
 .rename_i h1;exact absurd he h1
 rename_i h1;rw[if_neg h1];unfold qI at he|-;rw[if_neg om]at he|-;have h2:=key _ he;obtain⟨n,q,o,qo,e1,e2,_,e4,e5,e6,_,_,e9⟩:=rC h2;show NC (bv k _ _).l;rw[bv,if_pos h2];show NC (eZ k.l _ _).1;rw[e9];intro j x hx hk m hm;by_cases e:q=j
 .subst e;rw[TH (Km.1 e5).1]at hx;cases hx;rcases abu.1 hm with hm|hm
  .exact hn q qo e5 e6 m hm
  .rw[abY.1 hm];rfl
 .rw[U7 e]at hx;exact hn j x hx hk m hm
theorem So{k:Kr}{p:Nat}{c:Cl}(hn:NC k.l)(he:(fN k p c).2.eS=0):(fN k p c).2.m= -1:=by
 unfold Kn.fN vA at he|-;split at he
 .rename_i h1;exact absurd he h1
 rename_i h1;rw[if_neg h1];unfold vz at he|-;split at he
 .rename_i h2;exact absurd he h2
 rename_i h2;rw[if_neg h2];obtain⟨n,o,x,r,e1,e2,e3,e4,e5,e6⟩:=oa (Yk h2);rw[e6,if_neg]
 .rfl
 .rw[hn n o e2 e3 x (by rw[e4];exact acb)];simp
theorem NC.Z6{prog:List dH}{k:Kr}(h:KI k)(hn:NC k.l){c:Cl}(hc:¬(c.ag=16/\c.fE>=0)):NC (iz prog k c).1.l:=by
 by_cases he:(iz prog k c).2.eS=0
 .obtain⟨p,_,hp,bC,_,_,ho,e⟩:=pF he;have y9:=vU hp;rw[e];show NC (eB (eJ k p c).1).l;have hx:NC (eJ k p c).1.l:=by
   by_cases CI:c.ag=16
   .have dA:eJ k p c=gF k p c:=by unfold eJ;rw[if_neg om,if_neg om,if_neg om,if_neg om,if_neg om,if_neg om,if_pos CI]
    rw[dA]at ho|-;exact Sn hn om ho
   by_cases yM:c.ag=17
   .have dA:eJ k p c=fN k p c:=by unfold eJ;rw[if_neg om,if_neg om,if_neg om,if_neg om,if_neg om,if_neg om,if_neg om,if_pos yM]
    rw[dA]at ho|-;obtain⟨n,o,x,r,_,e1,e2,e3,e4,e5,_,_⟩:=yA h y9 bC ho;rw[e5];intro j y hy hk m hm;by_cases e:n=j
    .subst e;rw[TH (Km.1 e2).1]at hy;cases hy;exact hn n o e2 e3 m (by rw[e4];exact aby _ hm)
    .rw[U7 e]at hy;exact hn j y hy hk m hm
   .obtain⟨N,hx⟩:=TN h y9 bC ho CI yM;intro j o' fa fZ m hm;rcases hx.n j o' fa om with⟨o,ho,hk⟩|⟨_,hq⟩
    .obtain⟨b,g1,g2,_,g4⟩:=hx.m j o ho hk;rw[fa]at g1;cases g1;exact hn j o ho om m (by rw[<-g4];exact hm)
    .rw[hq]at hm;cases hm
  intro j o hj hk m hm;obtain⟨o',q1,q2,q3⟩:=I3 (h.op y9 bC ho) hj om;exact hx j o' q1 om m (by rw[q3];exact hm)
 .obtain⟨e,h2⟩:=wt he;rw[h2];exact hn
def okS(qM:Bool)(M:Mp)(s:Sp):Prop:=(s.h=3->qM=false->∃v,yN (s.f,s.g) M=some v/\Tb.cZ s.r v.r=true/\0<=v.r/\v.r<=4095)/\0<=s.r/\s.r<=4095/\1<=s.h/\s.h<=3/\(s.h=3↔0<=s.f)
def AQ(qM:Bool):Mp->List Sp->Prop
 |_,[]=>True
 |M,s::r=>okS qM M s/\AQ qM (tq (uN s) s M) r
theorem lS{qM:Bool}:∀{a b:List Sp}{M:Mp},AQ qM M a->AQ qM (tt a M) b->AQ qM M (a++b)
 | [],_,_,_,h=>h
 |s::r,b,M,h1,h2=>⟨h1.1,lS h1.2 h2⟩
theorem PI{qM:Bool}:∀{L:List Sp}{M:Mp},AQ qM M L->∀(i:Nat)(h:i<L.length),okS qM (tt (L.take i) M) L[i]
 | [],_,_,i,h=>absurd h (aaU i)
 |s::r,M,h1,0,_=>h1.1
 |s::r,M,h1,i+1,h=>PI h1.2 i (by simpa using h)
theorem pL{k:Kr}(hk:KI k){p:Nat}{fd:Int}(h:(cH (an k.ps p) fd).2=0):0<=(cH (an k.ps p) fd).1.2/\(cH (an k.ps p) fd).1.2<=4095:=by obtain⟨i,s,_,h1,h2,h3,_⟩:=iK h;rw[h3];exact(hk.eE (Tp h1) h2).1
theorem lT{qM:Bool}{M:Mp}{k:Kr}(hk:KI k){c:Int}{p:Nat}{fd h f g:Int}(hh:1<=h/\h<=3)(hf:h=3↔0<=f)(h3:(cH (an k.ps p) fd).2=0->h=3->qM=false->∃v,yN (f,g) M=some v/\Tb.cZ (cH (an k.ps p) fd).1.2 v.r=true/\0<=v.r/\v.r<=4095):AQ qM M (dt k c p fd h f g):=by
 unfold dt;split
 .trivial
 .rename_i h0;have h0:=Yk h0;obtain⟨b1,b2⟩:=pL hk h0;exact⟨⟨h3 h0,b1,b2,hh.1,hh.2,hf⟩,trivial⟩
theorem Sq(r:Int):Tb.cZ r r=true:=by rw[rH];apply BitVec.eq_of_getLsbD_eq;intro i hi;simp[hi]
theorem EL{qM:Bool}{k:Kr}(hk:KI k){c:Int}{n:Nat}{f:Int}(hf:0<=f)(dh:(n:Int)≠f):∀(L:List Int)(M:Mp),
  (∀fd,fd∈L->∃v,yN (f,fd) M=some v/\v.r=(cH (an k.ps n) fd).1.2)->AQ qM M (eR k c n f L)
 | [],_,_=>trivial
 |fd::r,M,h=>by
  rw[show eR k c n f (fd::r)=dt k c n fd 3 f fd++eR k c n f r by rw[eR,eR,ad0]]
  refine lS (lT hk ⟨om,om⟩ ⟨λ_=>hf,λ_=>rfl⟩ λh0 _ _=>?_) (EL hk hf dh r _ λx hx=>?_)
  .obtain⟨v,v1,v2⟩:=h fd acb;obtain⟨b1,b2⟩:=pL hk h0;rw[<-v2]at b1 b2|-;exact⟨v,v1,Sq _,b1,b2⟩
  .obtain⟨v,v1,v2⟩:=h x (aby _ hx);refine⟨v,?_,v2⟩;rcases yF (f,x) (dt k c n fd 3 f fd) M with⟨s,s1,s2,_⟩|⟨_,h2⟩
   .obtain⟨_,rfl⟩:=EJ s1;exact absurd (congrArg Prod.fst s2) dh
   .exact h2.trans v1
theorem TL.of{k:Kr}{M:Mp}(hT:TL k M)(hk:KI k){p:Nat}(hp:p<k.ps.length)(bC:k.ps[p].aL=true){fd:Int}(h:(cH (an k.ps p) fd).2=0):∃v,yN ((p:Int),fd) M=some v/\v.r=(cH (an k.ps p) fd).1.2/\0<=v.r/\v.r<=4095:=by
 have hb:=pL hk h;have y9:=vU hp;obtain⟨i,s,e1,h1,h2,h3,_⟩:=iK h;rw[jR y9]at h1;obtain⟨v,v1,v2,_⟩:=hT p _ y9 bC i s h1 h2;have:v.r=(cH (an k.ps p) fd).1.2:=by rw[h3];exact v2
 exact⟨v,by rw[e1];exact v1,this,by rw[this];exact hb⟩
theorem PJ{prog:List dH}{qM:Bool}{g:Gs}(hG:GI g.k g.W){M:Mp}(hT:TL g.k M)(hn:qM=false->NC g.k.l)(i:Nat)(c:Cl):AQ qM M (AJ prog i c g):=by
 unfold AJ;by_cases he:(iz prog g.k c).2.eS=0
 rotate_left
 .rw[if_neg he];trivial
 rw[if_pos he];have ir:=hG.in_ (prog:=prog) he;have u9:=ir.kk;obtain⟨p,hc,hp,bC,_,_,ho,e⟩:=pF he;have BX:c.ba.toNat=p:=by rw[hc];rfl
 rw[BX]at ir|-;have y9:=vU hp;have hf0:(0:Int)<=c.ba:=om;have Qo:(c.ag=3\/c.ag=8\/c.ag=9)->∀fd,fd=(if c.ag=9 then c.fd else(iz prog g.k c).2.n)->AQ qM M (dt (iz prog g.k c).1 i p fd 3 c.ba c.fd):=λhk fd QS=>by
  refine lT u9 ⟨om,om⟩ ⟨λ_=>hf0,λ_=>rfl⟩ λh0 _ _=>?_
  obtain⟨w1,z,j,s,z1,z2,z3,z4,z5,z6⟩:=Sj y9 bC ho hk;obtain⟨v,v1,v2,v3⟩:=hT.of hG.ki hp bC w1;have ht:vD c.ag:=by unfold vD;omega
  have hz:(iz prog g.k c).1.ps[p]? =some z:=by rw[e];show(eB (eJ g.k p c).1).ps[p]? =_;rw[uM (prog:=prog) hG.ki hG.sw hp bC ho ht];exact yu z1 z2
  have hfj:fd=(j:Int):=by rw[QS,z3,e]
  refine⟨v,by rw[hc];exact v1,?_,v3⟩
  rw[hfj,jR hz,Cs z4 z5,v2];exact z6
 unfold dK;split
 .exact lT u9 ⟨om,om⟩ ⟨λh=>om,λh=>om⟩ λ_ h=>om
 split
 .rename_i _ h;exact Qo om _ (by rw[if_neg om])
 split
 .rename_i _ _ h;exact Qo om _ (by rw[if_pos om])
 split
 .exact lS (lT u9 ⟨om,om⟩ ⟨λh=>om,λh=>om⟩ λ_ h=>om) (lT u9 ⟨om,om⟩ ⟨λh=>om,λh=>om⟩ λ_ h=>om)
 split
 .trivial
 split
 .rename_i yM;split
  .rename_i x r hw;show AQ qM M (if _ then _ else _)
   split
   .rename_i hm;refine lT u9 ⟨om,om⟩ ⟨λ_=>hG.nn _ (pI hw) x acb,λ_=>rfl⟩ λ_ _ hs=>?_
    have dA:eJ g.k p c=fN g.k p c:=by unfold eJ;rw[if_neg om,if_neg om,if_neg om,if_neg om,if_neg om,if_neg om,if_neg om,if_pos yM]
    have:=So (hn hs) (by rw[<-dA];exact ho)
    rw[e]at hm;have hm:(eJ g.k p c).2.m>=0:=hm;rw[dA,this]at hm;exact absurd hm (by decide)
   .trivial
  .trivial
 split
 .rename_i LY;obtain⟨n,n1,n2,n3⟩:=vE (prog:=prog) hG.ki hG.sw he LY;rw[BX]at n2 n3;rw[n1,Y6];refine lS (EL u9 hf0 om _ _ λfd QS=>?_) (lT u9 ⟨om,om⟩ ⟨λh=>om,λh=>om⟩ λ_ h=>om)
  obtain⟨j,s,e1,e2,e3⟩:=Sl QS;have h0:(cH (an g.k.ps p) fd).2=0:=by rw[e1,Cs e2 e3]
  obtain⟨v,v1,v2,_⟩:=hT.of hG.ki hp bC h0;exact⟨v,by rw[hc];exact v1,by rw[n3];exact v2⟩
 .trivial
theorem I8{prog:List dH}{qM:Bool}:∀(cs:List Cl){g:Gs}(i:Nat),GI g.k g.W->TL g.k (tt g.out M0)->(qM=false->NC g.k.l)->(∀c,c∈cs->(c.ag=16/\c.fE>=0)->qM=true)->AQ qM M0 g.out->AQ qM M0 (lQ prog g i cs).out
 | [],_,_,_,_,_,_,h=>h
 |c::r,g,i,hG,hT,hn,hs,h=>by
  refine I8 r (g:=kO prog i c g) (i+1) (hG.step i c) ?_ (λh0=>?_) (λx hx=>hs x (aby _ hx)) ?_
  .rw[AK,pK];exact TL.step hG hT i c
  .exact NC.Z6 hG.ki (hn h0) λhc=>by rw[hs c acb hc]at h0;cases h0
  .rw[AK];exact lS h (PJ hG hT hn i c)
theorem PK(prog:List dH)(cs:List Cl)(qM:Bool)(hs:∀c,c∈cs->(c.ag=16/\c.fE>=0)->qM=true):AQ qM M0 (lQ prog g0 0 cs).out:=
 I8 cs 0 GI.EE TL.EE (λ_=>NC.EE) hs trivial
end Kn
namespace Kn
def aK(x:Int×Int):Value:= .agg #[.int .i64 x.1,.int .i64 x.2]
def mM(f:Sp->RV)(e:(Int×Int)×Sp):ME:=⟨aK e.1,f e.2⟩
theorem TQ(x z:Int×Int):gz (aK x) (aK z)=some (decide (x=z)):=by
 show some (x.1==z.1&&x.2==z.2)=_;congr 1;obtain⟨a,b⟩:=x;obtain⟨c,d⟩:=z;by_cases h1:a=c
 .by_cases h2:b=d
  .subst h1 h2;simp
  .simp[h2]
 .simp[h1]
theorem I9(f:Sp->RV)(x:Int×Int):∀M:Mp,oe (aK x) (M.map (mM f))=some ((yN x M).map f)
 | []=>rfl
 |e::r=>by
  rw[aaL,oe,show gz (aK x) (mM f e).key=some (decide (x=e.1))from TQ x e.1,yN];by_cases h:x=e.1
  .rw[decide_eq_true h,if_pos h];rfl
  .rw[decide_eq_false h,if_neg h];exact I9 f x r
theorem Ct(f:Sp->RV)(x:Int×Int)(v:Sp):∀M:Mp,wA (aK x) (f v) (M.map (mM f))=some ((tq x v M).map (mM f))
 | []=>rfl
 |e::r=>by
  have ih:=Ct f x v r;rw[aaL,wA,show gz (aK x) (mM f e).key=some (decide (x=e.1))from TQ x e.1,tq];by_cases h:x=e.1
  .rw[decide_eq_true h,if_pos h];rfl
  .rw[decide_eq_false h,if_neg h];simp only;rw[ih];rfl
theorem nG{Y:Nat->Nat}{f:Sp->RV}(hf:∀s,(f s).bb Y=f s)(M:Mp):(Bk.mp (M.map (mM f))).bb Y= .mp (M.map (mM f)):=by
 have e:(M.map (mM f)).map (λe=>(⟨e.key,e.val.bb Y⟩:ME))=M.map (mM f):=by rw[abF];exact acO λe _=>by show(⟨aK e.1,(f e.2).bb Y⟩:ME)=⟨aK e.1,f e.2⟩;rw[hf]
 show Bk.mp _=Bk.mp _;exact congrArg _ e
theorem AL(l:List ME):Bk.mp l≠.aS:=by intro h;cases h
theorem Zq{L:List Sp}{i:Nat}(h:i<L.length):dD (L.map Sp.enc) (i:Nat)=some (L[i].enc):=by rw[bG,Tm,vU h];rfl
theorem uO{A:List Sp}{i:Nat}(h:i<A.length)(M:Mp):tt (A.take (i+1)) M=tq (uN A[i]) A[i] (tt (A.take i) M):=by rw[adb h,pK];rfl
def fR(s:Sp):RV:=cK s.r
theorem uP(Y:Nat->Nat)(s:Sp):(fR s).bb Y=fR s:=rfl
end Kn
def c4:LF:= ⟨119,[.tmp 4],(.seq (.ai [qu 4 (.aM (qb false))]) (.seq (.seq (.ai [qu 16 (qc 13 []),qu 17 (.un .not 16)]) (.cond 17 (.seq (.ai [qu 4 (.aM (qb false))]) .ret) .skip)) (.seq (.ai [qm 19 0,qm 20 1,qu 21 (qc 14 [19,20]),qm 18 21,qu 22 (.ext 18 0),qu 23 (.ext 18 1),qm 5 22,qm 6 23]) (.seq (.seq (.ai [qm 24 6,qu 25 (.aJ .neq 24 (qi 0))]) (.cond 25 (.seq (.ai [qm 26 5,qu 27 (.len 1 26),qu 28 (.aJ .eql 27 (qi 0)),qm 4 28]) .ret) .skip)) (.seq (.ai [qu 29 (.rN),qu 30 (.build [qd 0,qd 0] [(0,1,qi 0),(1,1,qi 0)]),qw (.tz (.a2 .i64) 29 30 (qi 4095)),qm 31 29,qm 7 31]) (.seq (.ai [qu 8 (.aM (qb false))]) (.seq (.seq (.ai [qm 32 1,qu 33 (.len 1 32),qu 34 (.aM (qi 0))]) (.block 0 (.loop (.seq (.ai [qu 35 (.aJ .lss 34 33)]) (.seq (.cond 35 .skip (.exit 0)) (.seq (.block 1 (.seq (.ai [qu 36 (.cz 9 32 34),qL 37 9 36,qu 10 (.alloc [qd 0,qd 0,qd 0,qd 0,qd 0,qd 0,qd 0,(.ah (.val (.string ⟨#[]⟩))),.aO]),qw (.store 9 10 37)]) (.ai [qm 38 8,qm 39 38,qg 40 (.b8 1 10) 39 false,qg 41 (.load false 1 40) 39 false,qg 42 (.aJ .eql 41 (qi 16)) 39 false,qg 43 (.aM 42) 39 false,qg 44 (.b8 3 10) 43 true,qg 45 (.load false 1 44) 43 true,qg 46 (.aJ .geq 45 (qi 0)) 43 true,qg 47 (.pick 43 46 (qb false)) 39 false,qu 48 (.pick 39 (qb true) 47),qm 8 48]))) (.ai [qu 49 (.aJ .add 34 (qi 1)),qm 34 49]))))))) (.seq (.seq (.ai [qm 50 5,qu 51 (.len 1 50),qu 52 (.aM (qi 0))]) (.block 2 (.loop (.seq (.ai [qu 53 (.aJ .lss 52 51)]) (.seq (.cond 53 .skip (.exit 2)) (.seq (.block 3 (.seq (.ai [qu 54 (.cz 8 50 52),qL 55 8 54,qu 12 (.alloc [qd 0,qd 0,qd 0,qd 0,qd 0,qd 0,qd 0,qd 0]),qw (.store 8 12 55)]) (.seq (.ai [qf 56 4 12,ql 57 56,qf 58 5 12,ql 59 58,qu 60 (.build [qd 0,qd 0] [(0,1,57),(1,1,59)]),qu 13 (.alloc [qd 0,qd 0]),qw (.store 2 13 60)]) (.seq (.seq (.ai [qf 61 3 12,ql 62 61,qu 63 (.aJ .eql 62 (qi 3)),qm 64 63,qg 65 (.aM 8) 64 true,qg 66 (.un .not 65) 64 true,qu 67 (.pick 64 66 (qb false))]) (.cond 67 (.seq (.ai [qm 69 7,qL 70 2 13,qu 71 (.yQ (.one (qd 0)) (.a2 .i64) 69 70 true),qm 68 71,qu 72 (.ext 68 0),qu 73 (.ext 68 1),qm 14 72,qm 15 73]) (.seq (.ai [qm 74 15,qu 75 (.un .not 74),qm 76 75,qg 77 (.b8 6 12) 76 false,qg 78 (.load false 1 77) 76 false,qg 79 (.aM 14) 76 false,qg 80 (qc 15 [78,79]) 76 false,qg 81 (.un .not 80) 76 false,qu 82 (.pick 76 (qb true) 81)]) (.cond 82 (.seq (.ai [qu 4 (.aM (qb false))]) .ret) .skip))) .skip)) (.seq (.seq (.ai [qf 83 6 12,ql 84 83,qu 85 (.aJ .lss 84 (qi 0)),qm 86 85,qg 87 (.b8 6 12) 86 false,qg 88 (.load false 1 87) 86 false,qg 89 (.aJ .gtr 88 (qi 4095)) 86 false,qu 90 (.pick 86 (qb true) 89),qm 91 90,qg 92 (.b8 3 12) 91 false,qg 93 (.load false 1 92) 91 false,qg 94 (.aJ .lss 93 (qi 1)) 91 false,qu 95 (.pick 91 (qb true) 94),qm 96 95,qg 97 (.b8 3 12) 96 false,qg 98 (.load false 1 97) 96 false,qg 99 (.aJ .gtr 98 (qi 3)) 96 false,qu 100 (.pick 96 (qb true) 99),qm 101 100,qg 102 (.b8 3 12) 101 false,qg 103 (.load false 1 102) 101 false,qg 104 (.aJ .eql 103 (qi 3)) 101 false,qg 105 (.b8 4 12) 101 false,qg 106 (.load false 1 105) 101 false,qg 107 (.aJ .geq 106 (qi 0)) 101 false,qg 108 (.beq true 104 107) 101 false,qu 109 (.pick 101 (qb true) 108)]) (.cond 109 (.seq (.ai [qu 4 (.aM (qb false))]) .ret) .skip)) (.ai [qm 110 7,qf 111 1 12,ql 112 111,qf 113 2 12,ql 114 113,qu 115 (.build [qd 0,qd 0] [(0,1,112),(1,1,114)]),qf 116 6 12,ql 117 116,qw (.tz (.a2 .i64) 110 115 117)])))))) (.ai [qu 118 (.aJ .add 52 (qi 1)),qm 52 118]))))))) (.seq (.ai [qu 4 (.aM (qb true))]) .ret)))))))))⟩
namespace Kn
theorem l4l:bz prog f4=some c4.er:=by kernel_rfl
def Ja(c:Cl):Bool:=c.ag==16&&decide (c.fE>=0)
theorem PL{cs:List Cl}{i:Nat}(h:i<cs.length):(cs.take (i+1)).any Ja=((cs.take i).any Ja||Ja cs[i]):=by rw[adb h,List.any_append];simp
theorem Hw(l:List dy)(cs:List Cl)(fe:Pn cs):body Tryz.prog c4 [fh l,tj cs] [] (λr m=>r=aD true):=by
 refine Hu ?_;refine EI l cs fe (λhw=>?_) (λhw PA=>?_) (λhw PA l1 hp1 xm=>?_)
 .exact bx (λh=>rfl) (λh=>absurd h hw)
 .exact rfl
 have hC:=PK (nD l1) cs (cs.any Ja) (λc hc⟨h1,h2⟩=>abc.2 ⟨c,hc,by rw[Ja,h1,decide_eq_true h2];rfl⟩)
 have hlA:(lQ (nD l1) g0 0 cs).out.length<=1048576:=by have:=yC (prog:=nD l1) (g:=g0) 0 cs GI.EE;have h0:g0.out.length=0:=rfl;omega
 generalize (lQ (nD l1) g0 0 cs).out=A at hC hlA|-;refine bc (λi=>i<=cs.length) [5,32,33] (λi=>[(7,.rv (.one (.map 0))),(8,aD ((cs.take i).any Ja)),(34,am .i64 (i:Nat))]) (λi=>[.mp (M0.map (mM fR))]) (λi=>cs.length-i) 0 (aaj _) ?_ (λi hi=>?_)
 .refine View.o1 1 [0] [] ?_
  .exact .au
 have hi:i<=cs.length:=hi;refine aN (λh=>?_) (λh=>?_)
 .have aC:i<cs.length:=by have h:(i:Int)<((cs.map Cl.enc).length:Int):=h;rw[Pj]at h;omega
  have hn:=PL aC;refine af (Pm aC) ?_;have gQ:∀b:Bool,((cs.take i).any Ja||Ja cs[i])=b->aD b=aD ((cs.take (i+1)).any Ja):=λb h=>by rw[hn,h]
  refine aG (λhb=>?_) (λhb=>?_)
  .have hb:(cs.take i).any Ja=true:=hb;refine⟨i+1,aC,(show cs.length-(i+1)<cs.length-i by omega),View.o 2 [0] [] ?_ ?_⟩
   .repeat(first|exact .nil|refine .aA ?_|refine .put (.bb (cj om).symm) ?_|refine .put (.bb (gQ true (by simp[hb])).symm) ?_|refine .eq rfl ?_)
   .exact .pt rfl rfl (.eq (nG (uP _) M0) (AL _)) (.nil _)
  .have hb:(cs.take i).any Ja=false:=hb;refine aG (λhk=>?_) (λhk=>?_)
   .have hk:(cs[i].ag==16)=true:=hk;refine⟨i+1,aC,(show cs.length-(i+1)<cs.length-i by omega),View.o 2 [0] [] ?_ ?_⟩
    .repeat(first|exact .nil|refine .aA ?_|refine .put (.bb (cj om).symm) ?_|refine .put (.bb (gQ (decide (cs[i].fE>=0)) (by simp only[hb,Ja,hk,acZ,adg,adS])).symm) ?_|refine .eq rfl ?_)
    .exact .pt rfl rfl (.eq (nG (uP _) M0) (AL _)) (.nil _)
   .have hk:(cs[i].ag==16)=false:=hk;refine⟨i+1,aC,(show cs.length-(i+1)<cs.length-i by omega),View.o 2 [0] [] ?_ ?_⟩
    .repeat(first|exact .nil|refine .aA ?_|refine .put (.bb (cj om).symm) ?_|refine .put (.bb (gQ false (by simp only[hb,Ja,hk,acZ,adg,adS])).symm) ?_|refine .eq rfl ?_)
    .exact .pt rfl rfl (.eq (nG (uP _) M0) (AL _)) (.nil _)
 have me:i=cs.length:=by have h:¬(i:Int)<((cs.map Cl.enc).length:Int):=h;rw[Pj]at h;omega
 subst me;rw[aaV];generalize cs.any Ja=qM at hC|-;refine bc (λi=>i<=A.length) [50,51] (λi=>[(7,.rv (.one (.map 0))),(8,aD qM),(52,am .i64 (i:Nat))]) (λi=>[.mp ((tt (A.take i) M0).map (mM fR))]) (λi=>A.length-i) 0 (aaj _) ?_ (λi hi=>?_)
 .refine View.o1 1 [0] [] ?_
  .exact .au
 have hi:i<=A.length:=hi;refine aN (λh=>?_) (λh=>?_)
 rotate_left
 .exact rfl
 have aC:i<A.length:=by have h:(i:Int)<((A.map Sp.enc).length:Int):=h;rw[Pj]at h;omega
 obtain⟨c3,cr,cR,c1,cM,cf⟩:=PI hC i aC;refine af (Zq aC) ?_;generalize hs:A[i]=s at c3 cr cR c1 cM cf|-;obtain⟨a,ha⟩:∃a:Nat,s.r=a:=⟨s.r.toNat,om⟩;have hbq:(!((s.h==3)==decide (s.f>=0)))=false:=by
  by_cases h:s.h=3
  .rw[decide_eq_true (cf.1 h),h];rfl
  .rw[decide_eq_false (λhf=>h (cf.2 hf)),show(s.h==3)=false by simpa using h];rfl
 refine bs (λh3=>?_) (λh3=>?_)
 .have h3:s.h=3:=h3;cases qM with
  |true=>
   refine ig (show decide (s.r<0)=false from decide_eq_false om) ?_;refine ig (show decide (s.r>4095)=false from decide_eq_false om) ?_;refine ig (show decide (s.h<1)=false from decide_eq_false om) ?_;refine ig (show decide (s.h>3)=false from decide_eq_false om) ?_;refine ig hbq ?_;refine af (Ct fR (uN s) s _) ?_;refine⟨i+1,aC,(show A.length-(i+1)<A.length-i by omega),View.o2 3 [0] [] ?_⟩
   .exact .pt rfl rfl (.eq (by rw[uO aC,hs];exact nG (uP _) _) (AL _)) (.nil _)
  |false=>
   obtain⟨v,v1,v2,v3,v4⟩:=c3 h3 rfl;obtain⟨b,hb⟩:∃b:Nat,v.r=b:=⟨v.r.toNat,om⟩;refine af (show oe (aK (s.f,s.g)) ((tt (A.take i) M0).map (mM fR))=some (some (fR v)) by rw[I9,v1];rfl) ?_
   have key:∀{m:Mem}{K:CV->Mem->Prop},K (aD true) m->ap Tryz.prog 15 [am .i64 s.r,am .i64 v.r] m K:=λh=>by
    rw[ha,hb]at v2|-;exact Hq a b om om (by rw[Hr a b om om,v2];exact h)
   refine key ?_;refine ig (show decide (s.r<0)=false from decide_eq_false om) ?_;refine ig (show decide (s.r>4095)=false from decide_eq_false om) ?_;refine ig (show decide (s.h<1)=false from decide_eq_false om) ?_;refine ig (show decide (s.h>3)=false from decide_eq_false om) ?_;refine ig hbq ?_;refine af (Ct fR (uN s) s _) ?_;refine⟨i+1,aC,(show A.length-(i+1)<A.length-i by omega),View.o2 3 [0] [] ?_⟩
   .exact .pt rfl rfl (.eq (by rw[uO aC,hs];exact nG (uP _) _) (AL _)) (.nil _)
 .have h3:s.h≠3:=h3;refine ig (show decide (s.r<0)=false from decide_eq_false om) ?_;refine ig (show decide (s.r>4095)=false from decide_eq_false om) ?_;refine ig (show decide (s.h<1)=false from decide_eq_false om) ?_;refine ig (show decide (s.h>3)=false from decide_eq_false om) ?_;refine ig hbq ?_;refine af (Ct fR (uN s) s _) ?_;refine⟨i+1,aC,(show A.length-(i+1)<A.length-i by omega),View.o2 3 [0] [] ?_⟩
  .exact .pt rfl rfl (.eq (by rw[uO aC,hs];exact nG (uP _) _) (AL _)) (.nil _)
theorem PM(l:List dy)(cs:List Cl)(fe:Y9 cs):ap prog 4 [fh l,tj cs] [] (λr _=>r=aD true):=
 vm func4 l4l rfl (aad rfl) (Hw l cs ⟨fe.l,fe.d⟩) rfl rfl rfl
end Kn
end Go.Proofs.YtodckkkbiidffaaGreatDoor
