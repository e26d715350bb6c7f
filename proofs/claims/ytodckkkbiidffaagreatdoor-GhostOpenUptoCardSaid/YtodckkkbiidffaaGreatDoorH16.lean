/- Part 16 of 16. -/
import Derived.Test.YtodckkkbiidffaaGreatDoorH11
import Derived.Test.YtodckkkbiidffaaGreatDoorH12
import Derived.Test.YtodckkkbiidffaaGreatDoorH15
set_option linter.unusedVariables false
set_option linter.unusedSimpArgs false
set_option maxRecDepth 100000
set_option maxHeartbeats 0
namespace Go.Proofs.YtodckkkbiidffaaGreatDoor
open Proofs.Tryz
open Go.AM Go.ChangeShapes Go.WideShapes Go.ChangeAt Go.RowKit
namespace Kn
theorem OU(k:Kr)(p:Nat)(l:List ft)(e:Int):(fq k p l e).l=k.l:=by unfold fq;split<;>rfl
theorem Re(k:Kr)(z a:Int):(sG k z a).l=k.l:=rfl
theorem OV{k:Kr}(h:KI k){p:Nat}{c:Cl}(he:(ik k p c).2.fC=0):∃N,OX N k.l (ik k p c).1.l:=by
 refine⟨λ_=>False,?_⟩
 unfold ik mA at he|-;split at he
 .rename_i h1;exact absurd he h1
 rename_i h1;rw[if_neg h1];obtain⟨n,op,j,x,e1,e2,e3,e4,e5,e6,_⟩:=h.bp (aaa h1);have Pj:lm k.l (Kn.bp k p c.fd (oc c.ag)).2.1=x:=by rw[e3,lm,aae,e5];rfl
 rw[Pj]at he|-;split at he
 .rename_i h4;rw[if_pos h4];unfold ua;split
  .exact .refl _ _
  .exact .refl _ _
 rename_i h4;rw[if_neg h4];split at he
 .rename_i h5;rw[if_pos h5];unfold pa at he|-;split at he
  .rename_i h6;exact absurd he h6
  rename_i h6;rw[if_neg h6];obtain⟨_,_,_,_,_,w6⟩:=sH (h.sm x (Sj e5)) (aaa h6);rw[Re,e3,setObj,aae];exact OX.set _ e5 (by rw[w6];exact⟨rfl,rfl,rfl⟩)
 .rename_i h5;rw[if_neg h5];unfold qX;split
  .exact .refl _ _
  .exact .refl _ _
theorem Rf{k:Kr}(h:KI k){p:Nat}{c:Cl}(he:(kj k p c).2.fC=0):∃N,OX N k.l (kj k p c).1.l:=by
 have he:(iU k c (Kn.bp k p c.fd (sJ c))).2=0:=he;show ∃N,OX N k.l (iU k c (Kn.bp k p c.fd (sJ c))).1.l;unfold iU at he|-;split at he
 .rename_i h1;exact absurd he h1
 rename_i h1;rw[if_neg h1];split at he
 .rename_i h2;exact absurd he h2.2
 rename_i h2;rw[if_neg h2];unfold od at he|-;split at he
 .rename_i h3;exact absurd he h3
 rename_i h3;rw[if_neg h3];split at he
 .cases he
 rename_i h4;rw[if_neg h4];split at he
 .rename_i h5;rw[if_pos h5];split at he
  .cases he
  rename_i h6;rw[if_neg h6];have he:(DI k (iS k (Kn.bp k p c.fd (sJ c)).2.1 c.cJ true false)).2.2=0:=he;show ∃N,OX N k.l (bP k _ _).l;rw[bP,if_pos he];exact⟨λ_=>False,KJ h _ he⟩
 rename_i h5;rw[if_neg h5];split at he
 .cases he
 rename_i h6;rw[if_neg h6];split at he
 .rename_i h7;rw[if_pos h7];obtain⟨j,_,g,_⟩:=uq h (Ic _) he;exact⟨_,g⟩
 .rename_i h7;rw[if_neg h7];obtain⟨j,_,g,_⟩:=uq h Ow he;exact⟨_,g⟩
theorem Rg{l:List ft}{fd:Int}(h:(Dy l fd).2.2=0):∀s,s∈l->s.has=true->s∈(Dy l fd).1:=by
 unfold Dy Tb.tS at h|-;split at h
 .rename_i h1;simp only[if_pos h1];exact(xY (l:=l) (o:=(Tb.eA (l.map mw) fd).1.dS) (r:=(Tb.eA (l.map mw) fd).1.cj) h).2
 .rename_i h1;exact absurd h h1
theorem Rh{l:List ft}{fd n:Int}(h:(Dz l fd n).2=0):∀s,s∈l->s.has=true->∃s',s'∈(Dz l fd n).1/\s'.has=true/\s'.dS=s.dS:=by
 intro s hs hh;unfold Dz Tb.yF at h|-;split at h
 .rename_i h1;obtain⟨i,t,hi,h3,h4,h5,h6⟩:=ng (l:=l) (fd:=fd) h1;split at h
  .cases h
  rename_i h2;split at h
  .cases h
  rename_i h9;simp only[if_pos h1,if_neg h2,if_neg h9];obtain⟨q,hq⟩:=X1 hs;have ym:i<l.length:=(JJ.1 h3).1;have e1:(Tb.eA (l.map mw) fd).1.dS=t.dS:=by rw[h6]
  by_cases e:q=i
  .subst e;rw[h3]at hq;cases hq;refine⟨Pm ⟨true,⟨(Tb.eA (l.map mw) fd).1.dS,n⟩⟩,aas.2 ⟨_,?_,rfl⟩,rfl,e1⟩;rw[hi,aae];exact List.mem_set (by simpa using ym) _
  .refine⟨s,aas.2 ⟨mw s,?_,rfl⟩,hh,rfl⟩;rw[hi,aae];refine Sj (i:=q) ?_;rw[Xg (λe2=>e e2.symm),Sf,hq];rfl
 .rename_i h1;exact absurd h h1
theorem sV{k:Kr}{p:Nat}{y:bm}(hp:k.ps[p]? =some y)(b9:y.aP=true){c:Cl}(he:(mc k p c).2.fC=0)(h7:c.ag≠7):oq k (mc k p c).1/\∃z,(mc k p c).1.ps[p]? =some z/\z.aP=true:=by
 have zE:aA k.ps p=y.aU:=by rw[aA,hp]
 have he:(ma (aA k.ps p) c).2.2=0:=he;show oq k (fq k p _ _)/\∃z,(fq k p _ _).ps[p]? =some z/\z.aP=true;rw[fq,if_pos he];refine⟨KL hp b9 ?_,⟨_,gy hp _,b9⟩⟩;rw[zE]at he|-;unfold ma at he|-;rw[if_neg h7]at he|-;split
 .rename_i h8;rw[if_pos h8]at he;intro s hs hh;exact⟨s,Rg he s hs hh,hh,rfl⟩
 .rename_i h8;rw[if_neg h8]at he;exact Rh he
theorem x6{k:Kr}(h:KI k){p:Nat}{y:bm}(hp:k.ps[p]? =some y)(b9:y.aP=true)(he:(jR k p).2.fC=0):
  (∃N,OX N k.l (jR k p).1.l)/\oq k (jR k p).1/\∃z,(jR k p).1.ps[p]? =some z/\z.aP=true:=by
 unfold Kn.jR zS at he|-;split at he
 .rename_i h1;exact absurd he h1
 rename_i h1;rw[if_neg h1];obtain⟨_,a,b,_,C,_⟩:=xP h.ll (aaa h1);generalize fz k.l=P at*
 obtain⟨l1,⟨ea,eb⟩,e0⟩:=P;have hea:ea=a:=C.ea;have U9:eb=b:=C.eb;subst hea U9;unfold uZ at he|-;split at he
 .rename_i h2;exact absurd he h2
 rename_i h2;rw[if_neg h2];obtain⟨i1,S1,O1⟩:=kM (k:=⟨l1,k.ops,k.ps⟩) hp (aaa h2);simp only at he h2 O1|-;generalize aL ⟨l1,k.ops,k.ps⟩ p (a:Nat) 896=RR at*
 obtain⟨⟨l2,o2,p2⟩,fd1,e1⟩:=RR;have WA:l2=l1:=O1.l;subst WA;have gQ:∀m:Nat,o2[m]? =if m=i1 then some ⟨(a:Int),0⟩else k.ops[m]? :=O1.o
 have yh:p2=dz k.ps p S1:=O1.ps;have Uy:p2[p]? =some {y with aU:=S1}:=by rw[yh];exact gy hp S1
 split at he
 .rename_i h3;exact absurd he h3
 rename_i h3;rw[if_neg h3];obtain⟨i2,S2,O2⟩:=kM (k:=⟨l2,o2,p2⟩) Uy (aaa h3);simp only at h3 O2|-;generalize aL ⟨l2,o2,p2⟩ p (b:Nat) 896=RR at*
 obtain⟨⟨l3,o3,p3⟩,fI,e2⟩:=RR;have Yo:l3=l2:=O2.l;subst Yo;have YX:∀m:Nat,o3[m]? =if m=i2 then some ⟨(b:Int),0⟩else o2[m]? :=O2.o
 have hp3:p3=dz p2 p S2:=O2.ps;have KM:p3[p]? =some {y with aU:=S2}:=by rw[hp3];exact gy Uy S2
 have Ya:i1≠i2:=λe=>by
  have:=O2.Am ⟨(a:Int),0⟩ (by show o2[i2]? =_;rw[gQ,if_pos e.symm])
  have this:(a:Int)<0:=this;omega
 have Uz:∀o,k.ops[i1]? =some o->o.bo<0:=O1.Am;have UA:∀o,k.ops[i2]? =some o->o.bo<0:=λo ho=>O2.Am o (by show o2[i2]? =_;rw[gQ,if_neg Ya.symm];exact ho)
 have du:∀i o,k.l[i]? =some o->o.ag≠0->i≠a/\i≠b:=λi o ho hk=>⟨λe=>hk (C.za o (e▸ho)),λe=>hk (C.zb o (e▸ho))⟩
 have go:∀i,i≠a->i≠b->l3[i]? =k.l[i]? :=C.go;have ga:l3[a]? =some (bN b):=C.ga;have gb:l3[b]? =some (bN a):=C.gb;refine⟨⟨λi=>i=a\/i=b,λi o ho hk=>⟨o,by rw[go i (du i o ho hk).1 (du i o ho hk).2];exact ho,rfl,rfl,rfl⟩,λi o ho hk=>?_⟩,⟨λj o ho hk=>⟨o,by rw[show(Kr.mk l3 o3 p3).l=l3 from rfl,go j (du j o ho hk).1 (du j o ho hk).2];exact ho,rfl,rfl,λ_ h=>h,λ_ h=>.inl h⟩,λm o ho h0=>?_,λt z hz hl=>?_,λj o ho hk=>?_,λm o ho=>?_,λt z hz hl=>?_⟩,⟨_,KM,b9⟩⟩
 .by_cases e:i=a
  .subst e;rw[ga]at ho;cases ho;exact .inr ⟨.inl rfl,rfl⟩
  by_cases e2:i=b
  .subst e2;rw[gb]at ho;cases ho;exact .inr ⟨.inr rfl,rfl⟩
  .rw[go i e e2]at ho;exact .inl ⟨o,ho,hk⟩
 .refine⟨o,?_,rfl⟩;show o3[m]? =_;rw[YX,if_neg (λe=>by subst e;have:=UA o ho;omega),gQ,if_neg (λe=>by subst e;have:=Uz o ho;omega)]
  exact ho
 .by_cases e:t=p
  .subst e;rw[hp]at hz;cases hz;exact⟨_,KM,hl,λs hs hh=>⟨s,O2.old s (O1.old s hs hh) hh,hh,rfl⟩⟩
  .exact⟨z,by show p3[t]? =_;rw[hp3,jS e,yh,jS e];exact hz,hl,λs hs hh=>⟨s,hs,hh,rfl⟩⟩
 .have ho:l3[j]? =some o:=ho;by_cases e:j=a
  .subst e;exact .inr ⟨p,_,⟨true,i1,896⟩,i1,⟨(j:Int),0⟩,KM,b9,O2.old _ O1.new rfl,rfl,rfl,by show o3[i1]? =_;rw[YX,if_neg Ya,gQ,if_pos rfl],rfl⟩
  by_cases e2:j=b
  .subst e2;exact .inr ⟨p,_,⟨true,i2,896⟩,i2,⟨(j:Int),0⟩,KM,b9,O2.new,rfl,rfl,by show o3[i2]? =_;rw[YX,if_pos rfl],rfl⟩
  .rw[go j e e2]at ho;exact .inl ⟨o,ho,hk⟩
 .have ho:o3[m]? =some o:=ho;rw[YX]at ho;split at ho
  .rename_i e;subst e;exact .inr ⟨p,_,⟨true,m,896⟩,KM,b9,O2.new,rfl,rfl⟩
  .rw[gQ]at ho;split at ho
   .rename_i e;subst e;exact .inr ⟨p,_,⟨true,m,896⟩,KM,b9,O2.old _ O1.new rfl,rfl,rfl⟩
   .exact .inl ho
 .have hz:p3[t]? =some z:=hz;rw[hp3,nr Uy]at hz;split at hz
  .rename_i e;subst e;exact .inl ⟨y,hp,b9⟩
  .rename_i e;rw[yh,jS e]at hz;exact .inl ⟨z,hz,hl⟩
end Kn
namespace Kn
theorem Ae{k:Kr}{p:Nat}{fd need:Int}(h:(bp k p fd need).2.2=0):(fB (aA k.ps p) fd).2=0/\(bp k p fd need).2.1=lO k p fd/\(bp k p fd need).1=(fB (aA k.ps p) fd).1/\Tb.g9 need (fB (aA k.ps p) fd).1.2=true:=by
 have key:(gI (aA k.ps p) fd need).2=0->gI (aA k.ps p) fd need=fB (aA k.ps p) fd/\Tb.g9 need (fB (aA k.ps p) fd).1.2=true:=λh=>by
  unfold gI Tb.oa at h|-;split at h
  .cases h
  .rename_i hn;rw[if_neg hn];refine⟨rfl,?_⟩;cases hx:Tb.g9 need (fB (aA k.ps p) fd).1.2 with
   |true=>rfl
   |false=>exact absurd ⟨h,hx⟩ hn
 unfold bp at h|-;split at h
 .rename_i hn;exact absurd h hn
 .rename_i hn;rw[if_neg hn];obtain⟨e,hw⟩:=key (aaa hn);rw[e];refine⟨?_,rfl,rfl,hw⟩;rw[<-e];exact aaa hn
theorem D3{k:Kr}(h:KI k){p:Nat}{x:bm}(hp:k.ps[p]? =some x)(b9:x.aP=true)(he:(gH k p).2.2.2=0):
  ∃c:Nat,(gH k p).2.1=c/\c≠p/\(∃N,OX N k.l (gH k p).1.l)/\oq k (gH k p).1/\(∃S,(gH k p).1.ps[p]? =some {x with aU:=S})/\(gH k p).1.ps[c]? =some ⟨true,x.fenced,0,x.aU⟩:=by
 obtain⟨c,C⟩:=xS hp b9 he;obtain⟨g1,g2,g3,g4⟩:=z6 hp C.le;obtain⟨j,j1,j2,j3,j4,-,-⟩:=fQ C.em h.ll;have KV:(gY k.ps p c)[p]? =some x:=by rw[g3 p C.ne];exact hp
 obtain⟨i,S,O⟩:=kM (k:=⟨(aG k.l (dm c)).1,k.ops,gY k.ps p c⟩) KV C.eo;have je:∀y,k.ps[c]? =some y->y.aP=false:=λy hy=>by have:=C.aR (JJ.1 hy).1;unfold sr at this;rw[hy]at this;have this:(!y.aP&& !(k.l.any (dF (c:Nat))))=true:=this;rw[aac]at this;simpa using this.1
 rw[C.R];refine⟨c,rfl,C.ne.symm,?_⟩;generalize (aL ⟨(aG k.l (dm c)).1,k.ops,gY k.ps p c⟩ p (aG k.l (dm c)).2.1 3200).1=R at O;have el:R.l=(aG k.l (dm c)).1:=O.l;have eo:∀m:Nat,R.ops[m]? =if m=i then some ⟨(aG k.l (dm c)).2.1,0⟩else k.ops[m]? :=O.o
 have ep:R.ps=dz (gY k.ps p c) p S:=O.ps;have hRc:R.ps[c]? =some ⟨true,x.fenced,0,x.aU⟩:=by rw[ep,jS C.ne.symm];exact g2
 have SF:R.ps[p]? =some {x with aU:=S}:=by rw[ep];exact gy KV S
 have hRt:∀t:Nat,t≠c->t≠p->R.ps[t]? =k.ps[t]? :=λt h1 h2=>by rw[ep,jS h2,g3 t h1]
 have du:∀(i:Nat)(o:Obj),k.l[i]? =some o->o.ag≠0->i≠j:=λi o ho hk e=>hk (j4 o (e▸ho))
 have Vb:∀(i:Nat)(o:Obj),k.l[i]? =some o->o.ag≠0->R.l[i]? =some o:=λi o ho hk=>by rw[el,j3 i (du i o ho hk)];exact ho
 refine⟨⟨λi=>i=j,λi o ho hk=>⟨o,Vb i o ho hk,rfl,rfl,rfl⟩,λi o ho hk=>?_⟩,⟨λi o ho hk=>⟨o,Vb i o ho hk,rfl,rfl,λ_ h=>h,λ_ h=>.inl h⟩,λm o ho h0=>?_,λt y hy hl=>?_,λn o ho hk=>?_,λm o ho=>?_,λt y hy hl=>?_⟩,⟨S,SF⟩,hRc⟩
 .rw[el]at ho;by_cases e:i=j
  .subst e;rw[j2]at ho;cases ho;exact .inr ⟨rfl,rfl⟩
  .rw[j3 i e]at ho;exact .inl ⟨o,ho,hk⟩
 .refine⟨o,?_,rfl⟩;rw[eo,if_neg λe=>?_]
  .exact ho
  .subst e;have:=O.Am o ho;omega
 .by_cases e:t=p
  .subst e;rw[hp]at hy;cases hy;exact⟨_,SF,hl,λs hs hh=>⟨s,O.old s hs hh,hh,rfl⟩⟩
  .refine⟨y,?_,hl,λs hs hh=>⟨s,hs,hh,rfl⟩⟩
   rw[hRt t (λe2=>?_) e]
   .exact hy
   .subst e2;rw[je y hy]at hl;cases hl
 .rw[el]at ho;by_cases e:n=j
  .subst e;exact .inr ⟨p,_,⟨true,i,3200⟩,i,⟨(aG k.l (dm c)).2.1,0⟩,SF,b9,O.new,rfl,rfl,by rw[eo,if_pos rfl],j1⟩
  .rw[j3 n e]at ho;exact .inl ⟨o,ho,hk⟩
 .rw[eo]at ho;split at ho
  .rename_i e;subst e;exact .inr ⟨p,_,⟨true,m,3200⟩,SF,b9,O.new,rfl,rfl⟩
  .exact .inl ho
 .by_cases e:t=c
  .subst e;exact .inr ⟨dm t,Sj (by rw[el];exact j2),by simp[dF,dm]⟩
  .by_cases e2:t=p
   .subst e2;exact .inl ⟨x,hp,b9⟩
   .rw[hRt t e e2]at hy;exact .inl ⟨y,hy,hl⟩
theorem D4{k:Kr}(h:KI k){p:Nat}{y:bm}(hp:k.ps[p]? =some y)(b9:y.aP=true){c:Cl}(he:(jl k p c).2.fC=0):
  ∃(n:Nat)(o:Obj)(x:dh)(r:List dh),(fB (aA k.ps p) c.fd).2=0/\lO k p c.fd=n/\k.l[n]? =some o/\o.ag=4/\o.aq=x::r/\(jl k p c).1.l=k.l.set n {o with aq:=r}/\oq k (jl k p c).1/\
   ∃z,(jl k p c).1.ps[p]? =some z/\z.aP=true:=by
 unfold Kn.jl zR at he|-;split at he
 .rename_i h1;exact absurd he h1
 rename_i h1;rw[if_neg h1];obtain⟨w1,w2,_⟩:=Ae (aaa h1);rw[w2]at he|-;unfold zQ at he|-;split at he
 .rename_i h2;exact absurd he h2
 rename_i h2;rw[if_neg h2];obtain⟨n,o,x,r,e1,e2,e3,e4,e5,e6⟩:=rb (aaa h2);have zE:aA k.ps p=y.aU:=by rw[aA,hp]
 have jY:=(JJ.1 e2).1;refine⟨n,o,x,r,w1,e1,e2,e3,e4,?_⟩;rw[e6]at he|-;have ext:∀ot,(∀(t:Nat)z,k.ps[t]? =some z->z.aP=true->∃z':bm,ot[t]? =some z'/\z'.aP=true/\∀s,s∈z.aU->s.has=true->∃s',s'∈z'.aU/\s'.has=true/\s'.dS=s.dS)->
   (∀(t:Nat)z,ot[t]? =some z->z.aP=true->∃z0,k.ps[t]? =some z0/\z0.aP=true)->
   (x.has=true->∃(t:Nat)(y:bm)(s:ft),ot[t]? =some y/\y.aP=true/\s∈y.aU/\s.has=true/\s.dS=x.dS)->oq k ⟨k.l.set n {o with aq:=r},k.ops,ot⟩:=λot a1 a2 a3=>by
  refine⟨λi b hb hk=>?_,λm b hb h0=>⟨b,hb,rfl⟩,a1,λi b hb hk=>?_,λm b hb=>.inl hb,λt z hz hl=>.inl (a2 t z hz hl)⟩
  .by_cases e:n=i
   .subst e;rw[e2]at hb;cases hb;refine⟨_,SC jY,rfl,rfl,λ_ h=>h,λz⟨q,hq,hh,hz⟩=>?_⟩
    rw[e4]at hq;rcases aaB.1 hq with rfl|hq
    .obtain⟨t,y,s,b1,b2,b3,b4,b5⟩:=a3 hh;exact .inr ⟨t,y,s,b1,b2,b3,b4,b5.trans hz⟩
    .exact .inl ⟨q,hq,hh,hz⟩
   .exact⟨b,by show(k.l.set n _)[i]? =_;rw[Xg e];exact hb,rfl,rfl,λ_ h=>h,λ_ h=>.inl h⟩
  .have hb:(k.l.set n {o with aq:=r})[i]? =some b:=hb
   by_cases e:n=i
   .subst e;rw[SC jY]at hb;cases hb;exact .inl ⟨o,e2,hk⟩
   .rw[Xg e]at hb;exact .inl ⟨b,hb,hk⟩
 split at he
 .rename_i h3;rw[if_pos h3];split at he
  .rename_i h4;exact absurd he h4
  rename_i h4;rw[if_neg h4];have h4:=aaa h4;show(bP (fq k p _ 0) _ 0).l=_/\oq k (bP (fq k p _ 0) _ 0)/\∃z,(bP (fq k p _ 0) _ 0).ps[p]? =some z/\z.aP=true;rw[bP,if_pos rfl,fq,if_pos rfl,e5];rw[zE]at h4|-;obtain⟨b1,b2⟩:=xY h4;refine⟨rfl,ext _ (λt z hz hl=>?_) (λt z hz hl=>?_) (λ_=>⟨p,_,⟨true,x.dS,x.cj⟩,gy hp _,b9,b1,rfl,rfl⟩),⟨_,gy hp _,b9⟩⟩
  .rw[nr hp];by_cases e:t=p
   .subst e;rw[hp]at hz;cases hz;rw[if_pos rfl];exact⟨_,rfl,hl,λs hs hh=>⟨s,b2 s hs hh,hh,rfl⟩⟩
   .rw[if_neg e];exact⟨z,hz,hl,λs hs hh=>⟨s,hs,hh,rfl⟩⟩
  .rw[nr hp]at hz;split at hz
   .rename_i e;subst e;exact⟨y,hp,b9⟩
   .exact⟨z,hz,hl⟩
 .rename_i h3;rw[if_neg h3];show(bP k _ 0).l=_/\oq k (bP k _ 0)/\∃z,(bP k _ 0).ps[p]? =some z/\z.aP=true;rw[bP,if_pos rfl,e5];exact⟨rfl,ext k.ps (λt z hz hl=>⟨z,hz,hl,λs hs hh=>⟨s,hs,hh,rfl⟩⟩) (λt z hz hl=>⟨z,hz,hl⟩) (λhh=>absurd hh h3),⟨y,hp,b9⟩⟩
theorem OW{k:Kr}{p:Nat}{c:Cl}(he:(kn k p c).2.fC=0):
  ∃(n q:Nat)(o qo:Obj)(m:dh),(fB (aA k.ps p) c.fd).2=0/\lO k p c.fd=n/\k.l[n]? =some o/\o.bq=q/\k.l[q]? =some qo/\qo.ag=4/\(kn k p c).1.l=k.l.set q {qo with aq:=qo.aq++ [m]}:=by
 have key:∀r:List Obj×Int,(km k c r).2.fC=0->r.2=0:=λr hr=>by
  unfold km at hr;by_cases h1:r.2=0
  .exact h1
  .rw[if_pos h1]at hr;exact absurd hr h1
 unfold Kn.kn zO at he|-;split at he
 .rename_i h1;exact absurd he h1
 rename_i h1;rw[if_neg h1];obtain⟨w1,w2,_⟩:=Ae (aaa h1);rw[w2]at he|-;have ib:∀(m:dh),(km k c (eZ k.l (lO k p c.fd) m)).2.fC=0->∃(n q:Nat)(o qo:Obj)(m':dh),(fB (aA k.ps p) c.fd).2=0/\lO k p c.fd=n/\k.l[n]? =some o/\o.bq=q/\k.l[q]? =some qo/\qo.ag=4/\(km k c (eZ k.l (lO k p c.fd) m)).1.l=k.l.set q {qo with aq:=qo.aq++ [m']}:=λm hr=>by have h1:=key _ hr;obtain⟨n,q,o,qo,e1,e2,_,e4,e5,e6,_,_,e9⟩:=xQ h1;refine⟨n,q,o,qo,m,w1,e1,e2,e4,e5,e6,?_⟩;show(bP k _ _).l=_;rw[bP,if_pos h1];exact e9
 unfold xI at he|-;split at he
 .rename_i h2;rw[if_pos h2];split at he
  .rename_i h3;exact absurd he h3
  rename_i h3;rw[if_neg h3];exact ib _ he
 .rename_i h2;rw[if_neg h2];exact ib _ he
theorem OY{k:Kr}(h:KI k){p:Nat}{y:bm}(hp:k.ps[p]? =some y)(b9:y.aP=true){c:Cl}(he:(fc k p c).2.fC=0):∃N,OX N k.l (fc k p c).1.l:=by
 have hf:∀l',l'=k.l->∃N,OX N k.l l':=λl' e=>⟨λ_=>False,e▸ .refl _ _⟩
 have ex:∀z n:Int,(ko k (iu k z n)).1.l=k.l:=λz n=>by
  unfold ko;split
  .rename_i h1;unfold iu at h1|-;split
   .rename_i h2;rw[if_pos h2]at h1;cases h1
   .rename_i h2;rw[if_neg h2]at h1;split
    .rename_i h3;rw[if_pos h3]at h1;cases h1
    .rfl
  .rfl
 unfold fc at he|-;split at he
 .rename_i h1;rw[if_pos h1];exact hf _ rfl
 rename_i h1;rw[if_neg h1];split at he
 .rename_i h2;rw[if_pos h2];exact hf _ rfl
 rename_i h2;rw[if_neg h2];split at he
 .rename_i h3;rw[if_pos h3];unfold qj at he|-;split at he
  .rename_i h4;exact absurd he h4
  .rename_i h4;rw[if_neg h4];obtain⟨_,_,_,g,_⟩:=D3 h hp b9 (aaa h4);exact g
 rename_i h3;rw[if_neg h3];split
 .exact hf _ (ex _ _)
 .generalize Kn.bp k p c.fd (if c.ag=20 then 2048 else 1024)=w
  unfold mB;split
  .exact hf _ rfl
  .unfold ue;split
   .exact hf _ rfl
   .split
    .split<;>exact hf _ rfl
    .exact hf _ (ex _ _)
theorem Yb{k:Kr}(h:KI k){p:Nat}{y:bm}(hp:k.ps[p]? =some y)(b9:y.aP=true){c:Cl}(he:(fK k p c).2.fC=0)(GS:c.ag≠16)(D1:c.ag≠17):∃N,OX N k.l (fK k p c).1.l:=by
 have hf:∀l',l'=k.l->∃N,OX N k.l l':=λl' e=>⟨λ_=>False,e▸ .refl _ _⟩
 unfold fK at he|-;split at he
 .rename_i a;rw[if_pos a];exact(pj h hp b9 he).1
 rename_i a;rw[if_neg a];split at he
 .rename_i a;rw[if_pos a];exact OV h he
 rename_i a;rw[if_neg a];split at he
 .rename_i a;rw[if_pos a];exact hf _ (OU _ _ _ _)
 rename_i a;rw[if_neg a];split at he
 .rename_i a;rw[if_pos a];exact hf _ rfl
 rename_i a;rw[if_neg a];split at he
 .rename_i a;rw[if_pos a];exact Rf h he
 rename_i a;rw[if_neg a];split at he
 .rename_i a;rw[if_pos a];exact(x6 h hp b9 he).1
 rename_i a;rw[if_neg a,if_neg GS,if_neg D1];exact OY h hp b9 he
theorem It{k:Kr}(h:KI k){p:Nat}{y:bm}(hp:k.ps[p]? =some y)(b9:y.aP=true){c:Cl}(he:(fK k p c).2.fC=0)(ht:D0 c.ag):
  oq k (fK k p c).1/\(∃z,(fK k p c).1.ps[p]? =some z/\z.aP=true)/\(c.ag=18->∃n:Nat,(fK k p c).2.n=n/\n≠p/\(fK k p c).1.ps[n]? =some ⟨true,y.fenced,0,y.aU⟩):=by
 unfold fK at he|-;rcases ht with hk|hk|hk|hk|hk|hk|hk
 .rw[if_pos (.inl hk)]at he|-;exact⟨(pj h hp b9 he).2.1,(pj h hp b9 he).2.2,λe=>om⟩
 .rw[if_pos (.inr hk)]at he|-;exact⟨(pj h hp b9 he).2.1,(pj h hp b9 he).2.2,λe=>om⟩
 .rw[if_neg om,if_neg om,if_pos om]at he|-;exact⟨(sV hp b9 he om).1,(sV hp b9 he om).2,λe=>om⟩
 .rw[if_neg om,if_neg om,if_pos om]at he|-;exact⟨(sV hp b9 he om).1,(sV hp b9 he om).2,λe=>om⟩
 .rw[if_neg om,if_neg om,if_neg om,if_neg om,if_neg om,if_pos om]at he|-;exact⟨(x6 h hp b9 he).2.1,(x6 h hp b9 he).2.2,λe=>om⟩
 .rw[if_neg om,if_neg om,if_neg om,if_neg om,if_neg om,if_neg om,if_neg om,if_pos om]at he|-;obtain⟨_,_,_,_,_,_,_,_,_,_,g1,g2⟩:=D4 h hp b9 he;exact⟨g1,g2,λe=>om⟩
 .rw[if_neg om,if_neg om,if_neg om,if_neg om,if_neg om,if_neg om,if_neg om,if_neg om]at he|-;unfold fc at he|-;rw[if_neg om,if_neg om,if_pos hk]at he|-;unfold qj at he|-;split at he
  .rename_i h4;exact absurd he h4
  .rename_i h4;rw[if_neg h4];obtain⟨n,a1,a2,_,a3,⟨S,a4⟩,a5⟩:=D3 h hp b9 (aaa h4);exact⟨a3,⟨_,a4,b9⟩,λ_=>⟨n,a1,a2,a5⟩⟩
end Kn
namespace Kn
structure GI(k:Kr)(W:Wt):Prop where
 ki:KI k
 sw:ON k
 nd:(W.map (·.1)).Nodup
 ky:∀e,e∈W->∃(j:Nat)(o:Obj),e.1=j/\k.l[j]? =some o/\o.ag=4
 ln:∀(j:Nat)o,k.l[j]? =some o->o.ag=4->((gA j W).getD []).length=o.aq.length
 nn:∀e,e∈W->∀x,x∈e.2->0<=x.1
theorem GI.UB:GI cy []:=by
 refine⟨Im,OP,aC,aC,λj o ho hk=>?_,aC⟩
 have:o=gz:=by have hm:=Sj ho;simpa[cy]using hm
 subst this;simp[gz]at hk
theorem Iu(i j:Int)(p:Nat)(c:Cl)(a:An)(b k:Kr)(W:Wt):(eB i p c a b k W).1=(eB j p c a b k W).1:=by
 unfold eB;repeat' split
 all_goals rfl
def qq(prog:List dq)(c:Cl)(k:Kr)(W:Wt):Wt:=if(hC prog k c).2.fC=0 then(eB 0 c.bb.toNat c (hC prog k c).2 k (hC prog k c).1 W).1 else W
theorem sW{x:Int}:∀{W:Wt}{v:List (Int×Int)},gA x W=some v->(x,v)∈W
 | [],_,h=>by cases h
 |e::r,v,h=>by
  rw[gA]at h;split at h
  .rename_i hx;cases h;obtain⟨a,b⟩:=e;simp at hx;subst hx;simp
  .exact acb _ (sW h)
theorem Iv{x:Int}{v:List (Int×Int)}:∀{W:Wt},(W.map (·.1)).Nodup->(x,v)∈W->gA x W=some v
 | [],_,h=>by cases h
 |e::r,hn,h=>by
  rw[aaJ,abS]at hn;rw[gA];rcases aaB.1 h with h1|h1
  .rw[<-h1,if_pos rfl]
  .have du:¬x=e.1:=λh2=>hn.1 (h2▸aas.2 ⟨(x,v),h1,rfl⟩)
   rw[if_neg du];exact Iv hn.2 h1
theorem x7(x:Int)(v:List (Int×Int)):∀W:Wt,gA x (jB x v W)=some v
 | []=>by rw[jB,gA,if_pos rfl]
 |e::r=>by
  rw[jB];split
  .rw[gA,if_pos rfl]
  .rename_i h;rw[gA,if_neg h];exact x7 x v r
theorem pl{x z:Int}(du:z≠x)(v:List (Int×Int)):∀W:Wt,gA z (jB x v W)=gA z W
 | []=>by simp[jB,gA,du]
 |e::r=>by
  rw[jB];split
  .rename_i h;rw[gA,gA,if_neg du,if_neg (by rw[<-h];exact du)]
  .rw[gA,gA,pl du v r]
theorem ns{x:Int}{v:List (Int×Int)}:∀{W:Wt}{e:Int×List (Int×Int)},e∈jB x v W->e=(x,v)\/e∈W
 | [],e,h=>by rw[jB]at h;exact .inl (by simpa using h)
 |y::r,e,h=>by
  rw[jB]at h;split at h
  .rcases aaB.1 h with h|h
   .exact .inl h
   .exact .inr (acb _ h)
  .rcases aaB.1 h with h|h
   .exact .inr (h▸List.mem_cons_self)
   .exact(ns h).imp id (acb _)
theorem BO{x:Int}{v:List (Int×Int)}:∀{W:Wt},(W.map (·.1)).Nodup->((jB x v W).map (·.1)).Nodup
 | [],_=>by rw[jB];simp
 |y::r,h=>by
  rw[aaJ,abS]at h;rw[jB];split
  .rename_i hx;rw[aaJ,abS];exact⟨by rw[hx];exact h.1,h.2⟩
  .rename_i hx;rw[aaJ,abS];refine⟨λhm=>?_,BO h.2⟩
   obtain⟨e,he,e1⟩:=aas.1 hm;rcases ns he with rfl|he
   .exact hx e1
   .exact h.1 (e1▸aas.2 ⟨e,he,rfl⟩)
theorem ur{l:List Obj}{x:Int}(hk:fW l x=true):∀W:Wt,gA x (sS l W)=gA x W
 | []=>rfl
 |e::r=>by
  rw[sS,aca,gA];split
  .rename_i h1;rw[gA];split
   .rfl
   .exact ur hk r
  .rename_i h1;rw[if_neg (λh2=>h1 (by rw[<-h2];exact hk))]
   exact ur hk r
theorem Ri{k:Kr}(h:KI k){n:Nat}{o:Obj}(ho:(gM k).l[n]? =some o)(hk:o.ag≠0):∃o':Obj,k.l[n]? =some o'/\o'.ag=o.ag/\o'.aq=o.aq:=by
 obtain⟨a,c,h1,h2,h3⟩:=(ir h.kr).ex;obtain⟨o',g1,g2⟩:=(Ft h.kr h1 h2 h3).1.2 n o ho hk;exact⟨o',g1,by rw[g2],by rw[g2]⟩
def LN(l:List Obj)(W:Wt):Prop:=∀(j:Nat)o,l[j]? =some o->o.ag=4->((gA j W).getD []).length=o.aq.length
theorem LN.ox{N:Nat->Prop}{k:Kr}{W:Wt}(h:GI k W){l':List Obj}(hx:OX N k.l l'):LN l' W:=λj o' e8 fS=>by
 rcases hx.n j o' e8 om with⟨o,ho,hk⟩|⟨_,hq⟩
 .obtain⟨b,g1,g2,_,g4⟩:=hx.m j o ho hk;rw[e8]at g1;cases g1;rw[g4];exact h.ln j o ho om
 .by_cases hex:∃o,k.l[j]? =some o/\o.ag=4
  .obtain⟨o,ho,hk⟩:=hex;obtain⟨b,g1,g2,_,g4⟩:=hx.m j o ho om;rw[e8]at g1;cases g1;rw[g4];exact h.ln j o ho hk
  .rw[hq];cases hw:gA j W with
   |none=>rfl
   |some v=>
    obtain⟨j',o,e1,e2,e3⟩:=h.ky _ (sW hw);have:j'=j:=by simp at e1;omega
    subst this;exact absurd ⟨o,e2,e3⟩ hex
theorem GI.op{prog:List dq}{k:Kr}{W:Wt}(h:GI k W){p:Nat}{c:Cl}(hc:c.bb=p)(hp:p<k.ps.length)(b9:k.ps[p].aP=true)(he:(fK k p c).2.fC=0)(a:An)(k2:Kr):
  LN (fK k p c).1.l (eB 0 p c a k k2 W).1/\((eB 0 p c a k k2 W).1.map (·.1)).Nodup/\(∀e,e∈(eB 0 p c a k k2 W).1->∃j:Nat,e.1=j)/\(∀e,e∈(eB 0 p c a k k2 W).1->∀x,x∈e.2->0<=x.1)/\
   ((c.ag=16\/c.ag=17)->(fB (aA k.ps p) c.fd).2=0)/\(c.ag=17->∃x r,gA (lO k p c.fd) W=some (x::r)):=by
 have Wz:=vl hp;have Yc:∀e,e∈W->∃j:Nat,e.1=j:=λe he=>by obtain⟨j,_,h1,_⟩:=h.ky e he;exact⟨j,h1⟩
 by_cases GS:c.ag=16
 .have dK:fK k p c=kn k p c:=by unfold fK;rw[if_neg om,if_neg om,if_neg om,if_neg om,if_neg om,if_neg om,if_pos GS]
  rw[dK]at he|-;obtain⟨n,q,o,qo,m,w1,e1,e2,e3,e4,e5,e6⟩:=OW he;have yn:lB k.l (lO k p c.fd)=q:=by rw[e1,lB,aae,e2];exact e3
  have lF:(eB 0 p c a k k2 W).1=jB (q:Nat) ((gA (q:Nat) W).getD []++ [(c.bb,c.fI)]) W:=by unfold eB;rw[if_neg om,if_neg om,if_neg om,if_neg om,if_pos GS,yn]
  rw[lF,e6];refine⟨λj o' e8 fS=>?_,BO h.nd,λe he=>?_,λe he x hx=>?_,λ_=>w1,λe=>om⟩
  .by_cases e:q=j
   .subst e;rw[SC (JJ.1 e4).1]at e8;cases e8;rw[x7];have:=h.ln q qo e4 e5;simp[this]
   .rw[Xg e]at e8;rw[pl om];exact h.ln j o' e8 fS
  .rcases ns he with rfl|he
   .exact⟨q,rfl⟩
   .exact Yc e he
  .rcases ns he with rfl|he
   .rcases abL.1 hx with hx|hx
    .cases hw:gA (q:Nat) W with
     |none=>rw[hw]at hx;simp at hx
     |some v=>rw[hw]at hx;exact h.nn _ (sW hw) x hx
    .have:x=(c.bb,c.fI):=by simpa using hx
     rw[this,hc];show(0:Int)<=(p:Nat);omega
   .exact h.nn e he x hx
 by_cases D1:c.ag=17
 .have dK:fK k p c=jl k p c:=by unfold fK;rw[if_neg om,if_neg om,if_neg om,if_neg om,if_neg om,if_neg om,if_neg om,if_pos D1]
  rw[dK]at he|-;obtain⟨n,o,x,r,w1,e1,e2,e3,e4,e5,_,_⟩:=D4 h.ki Wz b9 he;have KC:=h.ln n o e2 e3;rw[e4]at KC;cases hw:gA (n:Nat) W with
  |none=>rw[hw]at KC;simp at KC
  |some v=>
   rw[hw]at KC;cases v with
   |nil=>simp at KC
   |cons z v=>
    have KC:v.length=r.length:=by simpa using KC
    have lF:(eB 0 p c a k k2 W).1=jB (n:Nat) v W:=by unfold eB;rw[if_neg om,if_neg om,if_neg om,if_neg om,if_neg om,if_pos D1,e1,hw]
    rw[lF,e5,e1];refine⟨λj o' e8 fS=>?_,BO h.nd,λe he=>?_,λe he x hx=>?_,λ_=>w1,λ_=>⟨z,v,hw⟩⟩
    .by_cases e:n=j
     .subst e;rw[SC (JJ.1 e2).1]at e8;cases e8;rw[x7];exact KC
     .rw[Xg e]at e8;rw[pl om];exact h.ln j o' e8 fS
    .rcases ns he with rfl|he
     .exact⟨n,rfl⟩
     .exact Yc e he
    .rcases ns he with rfl|he
     .exact h.nn _ (sW hw) x (acb _ hx)
     .exact h.nn e he x hx
 .have lF:(eB 0 p c a k k2 W).1=W:=by
   unfold eB;rw[if_neg GS,if_neg D1];repeat' split
   all_goals rfl
  rw[lF];obtain⟨N,hx⟩:=Yb h.ki Wz b9 he GS D1;exact⟨LN.ox h hx,h.nd,Yc,h.nn,λe=>om,λe=>absurd e D1⟩
theorem KN{prog:List dq}{k:Kr}(h:KI k)(hs:ON k){p:Nat}{c:Cl}(hp:p<k.ps.length)(b9:k.ps[p].aP=true)(he:(fK k p c).2.fC=0)(ht:D0 c.ag):gM (fK k p c).1=Jz (fK k p c).1:=
 h.X9 hs (h.op (vl hp) b9 he) (It h (vl hp) b9 he ht).1
theorem GI.in_{prog:List dq}{k:Kr}{W:Wt}(h:GI k W){c:Cl}(he:(hC prog k c).2.fC=0):BM c (hC prog k c).2 k (hC prog k c).1 W c.bb.toNat:=by
 obtain⟨p,hc,hp,hl,_,_,ho,e⟩:=xX he;have FY:c.bb.toNat=p:=by rw[hc];rfl
 rw[FY];have K6:=h.ki.do_ prog c;obtain⟨g1,g2,g3,g4,g5,g6⟩:=h.op (prog:=prog) hc hp hl ho (hC prog k c).2 (hC prog k c).1;have A0:=λht=>It h.ki (vl hp) hl ho ht
 have eF:D0 c.ag->∀(t:Nat)z,(fK k p c).1.ps[t]? =some z->z.aP=true->(hC prog k c).1.ps[t]? =some z:=λht t z hz hlz=>by rw[e];show(gM (fK k p c).1).ps[t]? =some z;rw[KN (prog:=prog) h.ki h.sw hp hl ho ht];exact OO hz hlz
 refine⟨h.ki,K6,hc,hp,λht=>?_,g5,λx hx=>?_,g6,λPq=>?_⟩
 .obtain⟨z,hz,hlz⟩:=(A0 ht).2.1;exact(JJ.1 (eF ht p z hz hlz)).1
 .obtain⟨j,o,e1,e2,e3⟩:=h.ky x hx;have hw:gA (j:Nat) W=some x.2:=Iv h.nd (by rw[<-e1];exact hx)
  have:=h.ln j o e2 e3;rw[hw]at this;have hq:=(h.ki.sm o (Sj e2)).q;have this:x.2.length=o.aq.length:=this;omega
 .have ht:D0 c.ag:= .inr (.inr (.inr (.inr (.inr (.inr Pq)))));obtain⟨n,a1,_,a2⟩:=(A0 ht).2.2 Pq;refine⟨n,by rw[e];exact a1,(JJ.1 (eF ht n _ a2 rfl)).1⟩
theorem GI.mid{prog:List dq}{k:Kr}{W:Wt}(h:GI k W)(c:Cl):((qq prog c k W).map (·.1)).Nodup/\∀e,e∈qq prog c k W->∃j:Nat,e.1=j:=by
 unfold qq;by_cases he:(hC prog k c).2.fC=0
 .rw[if_pos he];obtain⟨p,hc,hp,hl,_,_,ho,e⟩:=xX he;have FY:c.bb.toNat=p:=by rw[hc];rfl
  rw[FY];obtain⟨g1,g2,g3,g4,g5,g6⟩:=h.op (prog:=prog) hc hp hl ho (hC prog k c).2 (hC prog k c).1;exact⟨g2,g3⟩
 .rw[if_neg he];exact⟨h.nd,λe he=>by obtain⟨j,_,h1,_⟩:=h.ky e he;exact⟨j,h1⟩⟩
theorem GI.next{prog:List dq}{k:Kr}{W:Wt}(h:GI k W)(c:Cl):GI (hC prog k c).1 (sS (hC prog k c).1.l (qq prog c k W)):=by
 have hm:=h.mid (prog:=prog) c;have KC:LN (hC prog k c).1.l (qq prog c k W)/\∀e,e∈qq prog c k W->∀x,x∈e.2->0<=x.1:=by
  unfold qq;by_cases he:(hC prog k c).2.fC=0
  .rw[if_pos he];obtain⟨p,hc,hp,hl,_,_,ho,e⟩:=xX he;have FY:c.bb.toNat=p:=by rw[hc];rfl
   rw[FY];obtain⟨g1,g2,g3,g4,g5,g6⟩:=h.op (prog:=prog) hc hp hl ho (hC prog k c).2 (hC prog k c).1;refine⟨λj o hj hk=>?_,g4⟩
   have hj:(gM (fK k p c).1).l[j]? =some o:=by rw[e]at hj;exact hj
   obtain⟨o',q1,q2,q3⟩:=Ri (h.ki.op (vl hp) hl ho) hj om;rw[<-q3];exact g1 j o' q1 om
  .rw[if_neg he];obtain⟨e,h2⟩:=Io he;rw[h2];exact⟨h.ln,h.nn⟩
 refine⟨h.ki.do_ prog c,Q7 h.ki h.sw c,(List.filter_sublist.map _).nodup hm.1,λe he=>?_,λj o ho hk=>?_,λe he=>KC.2 e (acm.1 he).1⟩
 .obtain⟨Py,ke⟩:=acm.1 he;obtain⟨j,hj⟩:=hm.2 e Py;rw[hj]at ke;unfold fW at ke;rw[aae]at ke;cases ho:(hC prog k c).1.l[j]? with
  |none=>rw[ho]at ke;cases ke
  |some o=>rw[ho]at ke;exact⟨j,o,hj,ho,by simpa using ke⟩
 .have oL:fW (hC prog k c).1.l (j:Nat)=true:=by unfold fW;rw[aae,ho];simpa using hk
  rw[ur oL];exact KC.1 j o ho hk
theorem D5(k:Kr)(i:Int)(p:Nat)(fd h f g:Int):(eS k i p fd h f g).length<=1:=by unfold eS;split<;>simp
theorem D6(k:Kr)(i:Int)(n:Nat)(f:Int):∀L:List Int,(f4 k i n f L).length<=L.length
 | []=>by simp[f4]
 |y::r=>by
  have h1:f4 k i n f (y::r)=eS k i n y 3 f y++f4 k i n f r:=by rw[f4,f4,List.flatMap_cons]
  have:=D6 k i n f r;have:=D5 k i n y 3 f y;rw[h1,aaL,aaj];omega
theorem KO{i:Int}{c:Cl}{a:An}{b k:Kr}{W:Wt}{p:Nat}(h:BM c a b k W p):(eB i p c a b k W).2.length<=12:=by
 have hc:=λfd h f g=>D5 k i p fd h f g
 have y8:(aA b.ps p).length<=10:=by rw[ef h.pb];exact h.kb.sl _ (aar h.pb)
 have hL:(GQ (aA b.ps p)).length<=10:=by have:=Tb.sn ((aA b.ps p).map mw) 0;rw[Nr]at this;exact abP this y8
 unfold eB;split
 .have:=hc a.n 1 (-1) 0;show(eS k i p a.n 1 (-1) 0).length<=12;omega
 split
 .have:=hc a.n 3 c.bb c.fd;show(eS k i p a.n 3 c.bb c.fd).length<=12;omega
 split
 .have:=hc c.fd 3 c.bb c.fd;show(eS k i p c.fd 3 c.bb c.fd).length<=12;omega
 split
 .have:=hc a.n 2 (-1) 0;have:=hc a.m 2 (-1) 0;show(eS k i p a.n 2 (-1) 0++eS k i p a.m 2 (-1) 0).length<=12;rw[aaL];omega
 split
 .simp
 split
 .split
  .rename_i x r _;show(if a.m>=0 then eS k i p a.m 3 x.1 x.2 else []).length<=12
   split
   .have:=hc a.m 3 x.1 x.2;omega
   .simp
  .simp
 split
 .have:=D6 k i a.n.toNat c.bb (GQ (aA b.ps p));have:=hc a.m 2 (-1) 0;show(f4 k i a.n.toNat c.bb (GQ (aA b.ps p))++eS k i p a.m 2 (-1) 0).length<=12;rw[aaL];omega
 .simp
theorem Rj(prog:List dq)(i:Nat)(c:Cl)(g:Gs):(nq prog i c g).W=sS (hC prog g.k c).1.l (qq prog c g.k g.W):=by
 unfold nq qq;simp only;split
 .rw[Iu i 0]
 .rfl
theorem GI.step{prog:List dq}{g:Gs}(h:GI g.k g.W)(i:Nat)(c:Cl):GI (nq prog i c g).k (nq prog i c g).W:=by rw[Rj];exact h.next c
theorem GI.run{prog:List dq}:∀{g:Gs}(i:Nat)(cs:List Cl),GI g.k g.W->GI (lC prog g i cs).k (lC prog g i cs).W
 |_,_,[],h=>h
 |_,i,c::r,h=>GI.run (i+1) r (h.step i c)
theorem KP{prog:List dq}{g:Gs}(h:GI g.k g.W)(i:Nat)(c:Cl):(nq prog i c g).out.length<=g.out.length+12:=by
 show(g.out++_).length<=_;rw[aaL];by_cases he:(hC prog g.k c).2.fC=0
 .rw[if_pos he];have:=KO (i:=i) (h.in_ he);omega
 .rw[if_neg he];simp
theorem x8{prog:List dq}:∀{g:Gs}(i:Nat)(cs:List Cl),GI g.k g.W->(lC prog g i cs).out.length<=g.out.length+12*cs.length
 |_,_,[],_=>by simp[lC]
 |g,i,c::r,h=>by have h1:=x8 (prog:=prog) (i+1) r (h.step (prog:=prog) i c);have h2:=KP (prog:=prog) h i c;show(lC prog (nq prog i c g) (i+1) r).out.length<=_;rw[aaj];omega
end Kn
def c14:LF:= ⟨96,[.tmp 4,.tmp 5],(.seq (.ai [qu 4 (.aI qe),qu 5 (.aI (qi 0))]) (.seq (.ai [qm 16 0,qu 17 (qc 17 [16]),qm 15 17,qu 18 (.ext 15 0),qu 19 (.ext 15 1),qu 7 (.alloc [qd 0,qd 0]),qm 6 18,qw (.store 2 7 19)]) (.seq (.seq (.ai [qf 20 0 7,ql 21 20,qu 22 (.aJ .neq 21 (qi 0))]) (.cond 22 (.seq (.bR [qf 23 0 7,ql 24 23,qu 4 (.aI qe),qm 5 24] [eh 4 0 .nil]) .ret) .skip)) (.seq (.seq (.ai [qm 25 1,qu 26 (.len 1 25),qu 27 (.aJ .gtr 26 (qi 80))]) (.cond 27 (.seq (.ai [qu 4 (.aI qe),qu 5 (.aI (qi 5))]) .ret) .skip)) (.seq (.ai [qu 28 (qc 18 []),qu 29 (.ut),qu 30 (.build [.aK,.aK,.aK,(.ah (.val (.map none))),.aK] [(0,3,28),(3,1,29)]),qu 31 (.box 30),qm 8 31]) (.seq (.seq (.ai [qm 32 1,qu 33 (.len 1 32),qu 34 (.aI (qi 0))]) (.block 0 (.loop (.seq (.ai [qu 35 (.aJ .lss 34 33)]) (.seq (.cond 35 .skip (.exit 0)) (.seq (.block 1 (.seq (.ai [qm 36 34,qu 37 (.cr 9 32 34),qL 38 9 37,qu 10 (.alloc [qd 0,qd 0,qd 0,qd 0,qd 0,qd 0,qd 0,(.ah (.val (.string ⟨#[]⟩))),.aK]),qm 9 36,qw (.store 9 10 38)]) (.seq (.ai [qm 39 8,qu 40 (.aO 39),qf 41 0 40,qL 42 3 41,qu 11 (.alloc [.aK,.aK,.aK]),qw (.store 3 11 42)]) (.seq (.bR [qm 44 6,qm 45 8,qu 46 (.aO 45),qf 47 0 46,qL 48 3 47,qL 49 9 10,qu 50 (qc 19 [44,48,49]),qm 43 50,qu 51 (.ext 43 0),qu 52 (.ext 43 1),qu 12 (.alloc [.aK,.aK,.aK]),qu 13 (.alloc [qd 0,qd 0,qd 0,.aK]),qw (.store 3 12 51),qw (.store 4 13 52)] [(eh 6 0 (.vJ (.cons 6 (some []) (eh 3 7 (.vJ (.cons 10 (some [5,4]) (.cons 11 (some [5,4]) (.cons 12 (some []) (.cons 13 (some []) .nil)))) (.cons 11 (some [5,4]) (.cons 10 (some [5,4]) (.cons 12 (some []) (.cons 13 (some []) .nil))))))) (.vJ (.cons 10 (some [5,4]) (.vJ (.cons 6 (some []) (eh 3 7 (.cons 11 (some [5,4]) (.cons 12 (some []) (.cons 13 (some []) .nil))))) (.cons 11 (some [5,4]) (.cons 6 (some []) (eh 3 7 (.cons 12 (some []) (.cons 13 (some []) .nil))))))) (.cons 11 (some [5,4]) (.vJ (.cons 6 (some []) (eh 3 7 (.cons 10 (some [5,4]) (.cons 12 (some []) (.cons 13 (some []) .nil))))) (.cons 10 (some [5,4]) (.cons 6 (some []) (eh 3 7 (.cons 12 (some []) (.cons 13 (some []) .nil))))))))))]) (.cU (.seq (.ai [qm 53 8,qL 54 3 12,qu 55 (.aO 53),qf 56 0 55,qw (.store 3 56 54)]) (.seq (.seq (.ai [qf 57 0 13,ql 58 57,qu 59 (.aJ .eql 58 (qi 0))]) (.cond 59 (.ai [qm 60 8,qm 61 9,qu 62 (qc 20 [60,61,10,13,11])]) .skip)) (.cU (.seq (.ai [qm 63 8,qu 64 (.aO 63),qf 65 3 64,ql 66 65,qu 67 (.Vk 66)]) (.block 2 (.loop (.seq (.ai [qu 68 (.sY 67),qu 69 (.ext 68 0)]) (.seq (.cond 69 .skip (.exit 2)) (.block 3 (.seq (.ai [qu 70 (.Vl 67),qu 71 (.ext 70 0),qm 14 71]) (.seq (.ai [qm 72 14,qf 73 0 12,ql 74 73,qu 75 (.len 1 74),qu 76 (.aJ .geq 72 75),qm 77 76,qg 78 (.bU 0 12) 77 false,qg 79 (.load false 1 78) 77 false,qg 80 (.aI 14) 77 false,qg 81 (.cr 9 79 80) 77 false,qg 82 (.bU 0 81) 77 false,qg 83 (.load false 1 82) 77 false,qg 84 (.aJ .neq 83 (qi 4)) 77 false,qu 85 (.pick 77 (qb true) 84)]) (.cond 85 (.ai [qm 86 8,qu 87 (.aO 86),qf 88 3 87,ql 89 88,qm 90 14,qw (.Lj (.i .i64) 89 90)]) .skip))))))))))))))))) (.ai [qu 91 (.aJ .add 34 (qi 1)),qm 34 91]))))))) (.seq (.ai [qm 92 8,qu 93 (.aO 92),qf 94 4 93,ql 95 94,qm 4 95,qu 5 (.aI (qi 0))]) .ret)))))))⟩
namespace Kn
def abR(L:List Sp):Dt:= .sl 8 (L.map Sp.enc)
def rf(L:List Sp)(e:Int):CV:= .bz [.one (.ah (abR L)),cG e]
theorem D7{m:Mem}{e:Int}:cL m (.bz [.one .aK,cG e]) (rf [] e):=by
 refine .bz rfl λi r r' h1 h2=>?_
 match i,h1,h2 with
 |0,h1,h2=>cases h1;cases h2;exact .one (.aK 8)
 |1,h1,h2=>cases h1;cases h2;exact eP.self rfl
 |n+2,h1,h2=>simp at h1
def g0:Gs:=⟨cy,[],[]⟩
def TrQ(l:List cR)(cs:List Cl)(r:CV)(m:Mem):Prop:=((bT l).1≠0->cL m r (rf [] (bT l).1))/\((bT l).1=0->cs.length>80->cL m r (rf [] 5))/\
   ((bT l).1=0->cs.length<=80->∃l',l'.Perm l/\fR l'/\cL m r (rf (lC (cS l') g0 0 cs).out 0))
theorem YY(Y:Nat->Nat)(m:Mem)(Z:Nat->Prop)(id:Nat)(W:Wt)(so:Option (List Nat×Nat)):mi Y m Z id (.mo 2 (pi W) so) (.mo 2 (pi W) so):=by have:=mi.mo (Y:=Y) (m:=m) (Z:=Z) (id:=id) 2 (pi W) so;rwa [Ir]at this
theorem KQ(W:Wt)(i:Nat):(pi W).eraseIdx i=pi (W.eraseIdx i):=(Go.ChangeMaps.map_eraseIdx _ _ _).symm
theorem Af{Y:Nat->Nat}{m:Mem}(c:Cl)(a2:An)(k k2:Kr)(W:Wt)(out:List Sp)(h0:cD m (Y 0)=some (.var [.ah (dk k.l),.ah (eX k.ops),.ah (gl k.ps),.map (Y 1),.row (Y 2) 8 0 none]))(h1:cD m (Y 1)=some (lD W))(h2:cD m (Y 2)=some (eT out))(h3:cD m (Y 3)=some (cB c))(h4:cD m (Y 4)=some (aB a2))(h5:cD m (Y 5)=some (kB k))(h6:cD m (Y 6)=some (kB k2)):ew Y m (λk=>bx [] k=true) 0 [gB k 1 2,lD W,eT out,cB c,aB a2,kB k,kB k2]:=
 .put (dD rfl) h0 (.eq rfl (jm _ _ _)) (.put (dD rfl) h1 (.eq (fv _ _) (jC _)) (.put (dD rfl) h2 (.bI rfl) (.put (dD rfl) h3 (.eq rfl (jk _)) (.put (dD rfl) h4 (.eq rfl (xZ _)) (.put (dD rfl) h5 (.eq rfl (iX _)) (.put (dD rfl) h6 (.eq rfl (iX _)) (.nil _)))))))
theorem l14:bw prog Tryz.f14=some c14.er:=by kernel_rfl
theorem GU(l:List cR)(cs:List Cl)(eC:sR cs):body Tryz.prog c14 [dY l,nk cs] [] (TrQ l cs):=by
 refine Ii l (λhw=>?_) (λhw l' hp hr=>?_)
 .refine bt (λhe=>?_) (λhe=>absurd he hw)
  exact⟨λ_=>D7,λh=>absurd h hw,λh=>absurd h hw⟩
 .generalize hpg:cS l'=prog;refine aN (λyJ=>?_) (λyJ=>?_)
  .have yJ:cs.length>80:=by have yJ:((cs.map Cl.enc).length:Int)>80:=yJ;rw[Nr]at yJ;omega
   exact⟨λh=>absurd hw h,λ_ _=>D7,λ_ h=>om⟩
  have yJ:cs.length<=80:=by have yJ:¬((cs.map Cl.enc).length:Int)>80:=yJ;rw[Nr]at yJ;omega
  refine Ij ?_;refine ba (λi=>i<=cs.length) [6,32,33] (λi=>[(34,an .i64 (i:Nat)),(8,.rv (.one (.ptr 0 0)))])
   (λi=>[gB (lC prog g0 0 (cs.take i)).k 1 2,lD (lC prog g0 0 (cs.take i)).W,eT (lC prog g0 0 (cs.take i)).out]) (λi=>cs.length-i) 0 (aan _) ?_ (λi hi=>?_)
  .refine View.trans (View.aad 2 4 8 3 rfl rfl rfl rfl) (View.o1 4 [2,1,3] [] ?_)
   .exact .pt rfl rfl (.eq rfl (jm _ _ _)) (.pt rfl rfl (.Z6 2) (.pn rfl rfl rfl))
  have hi:i<=cs.length:=hi;refine aN (λh=>?_) (λh=>?_)
  .have aD:i<cs.length:=by have h:(i:Int)<((cs.map Cl.enc).length:Int):=h;rw[Nr]at h;omega
   have hgi:=GI.run (prog:=prog) (g:=g0) 0 (cs.take i) GI.UB;have Co:=x8 (prog:=prog) (g:=g0) 0 (cs.take i) GI.UB;have ht:cs.take (i+1)=cs.take i++ [cs[i]]:=p5 (vl aD);have YZ:=Ac prog (cs.take i) g0 0 cs[i];rw[<-ht,aav,aaM,acP hi]at YZ;rw[aav]at Co;have Co:(lC prog g0 0 (cs.take i)).out.length<=960:=by have:g0.out.length=0:=rfl;omega
   have iY:=GI.in_ (prog:=prog) hgi (c:=cs[i]);have sf:=GI.mid (prog:=prog) hgi cs[i];have hd:=eC.d _ (aar aD);refine af (GO aD) ?_;generalize cs[i]=c at*
   generalize lC prog g0 0 (cs.take i)=g at*
   obtain⟨k,W,out⟩:=g;have Yd:∀{m:Mem}{K:CV->Mem->Prop},K (Vd (hC prog k c)) m->ap Tryz.prog 19 [.rv (.one (.ah (xK prog))),ez k.l k.ops k.ps,c.cv] m K:=λhK=>Oy prog k hgi.ki c hd hK
   unfold nq at YZ;unfold qq at sf;generalize hC prog k c=D at*
   obtain⟨k2,a2⟩:=D;refine⟨Yd ⟨trivial,⟨⟨rfl,rfl,trivial⟩,⟨rfl,rfl,trivial⟩,trivial,trivial,⟨kz 96 [(6,.rv (.one (.ah (xK prog)))),(8,.rv (.one (.ptr 0 0))),(9,an .i64 (i:Nat)),(10,.rv (.one (.ptr 3 0))),(11,.rv (.one (.ptr 5 0))),(12,.rv (.one (.ptr 6 0))),(13,.rv (.one (.ptr 4 0))),(32,nk cs),(33,an .i64 ((cs.map Cl.enc).length:Nat)),(34,an .i64 (i:Nat))],[gB k 1 2,lD W,eT out,cB c,aB a2,kB k,kB k2]⟩,?v1,?rest⟩,⟨⟨rfl,rfl,trivial⟩,⟨rfl,rfl,trivial⟩,trivial,trivial,⟨kz 96 [(6,.rv (.one (.ah (xK prog)))),(8,.rv (.one (.ptr 0 0))),(9,an .i64 (i:Nat)),(10,.rv (.one (.ptr 3 0))),(11,.rv (.one (.ptr 5 0))),(12,.rv (.one (.ptr 6 0))),(13,.rv (.one (.ptr 4 0))),(32,nk cs),(33,an .i64 ((cs.map Cl.enc).length:Nat)),(34,an .i64 (i:Nat))],[gB k 1 2,lD W,eT out,cB c,aB a2,kB k,kB k2]⟩,?v2,?rest⟩⟩,⟨⟨rfl,rfl,trivial⟩,Yd ⟨trivial,⟨rfl,rfl,trivial⟩,trivial,trivial,⟨kz 96 [(6,.rv (.one (.ah (xK prog)))),(8,.rv (.one (.ptr 0 0))),(9,an .i64 (i:Nat)),(10,.rv (.one (.ptr 3 0))),(11,.rv (.one (.ptr 5 0))),(12,.rv (.one (.ptr 6 0))),(13,.rv (.one (.ptr 4 0))),(32,nk cs),(33,an .i64 ((cs.map Cl.enc).length:Nat)),(34,an .i64 (i:Nat))],[gB k 1 2,lD W,eT out,cB c,aB a2,kB k,kB k2]⟩,?v3,?rest⟩,⟨⟨rfl,rfl,trivial⟩,Yd ⟨trivial,trivial,trivial,⟨kz 96 [(6,.rv (.one (.ah (xK prog)))),(8,.rv (.one (.ptr 0 0))),(9,an .i64 (i:Nat)),(10,.rv (.one (.ptr 3 0))),(11,.rv (.one (.ptr 5 0))),(12,.rv (.one (.ptr 6 0))),(13,.rv (.one (.ptr 4 0))),(32,nk cs),(33,an .i64 ((cs.map Cl.enc).length:Nat)),(34,an .i64 (i:Nat))],[gB k 1 2,lD W,eT out,cB c,aB a2,kB k,kB k2]⟩,?v4,?rest⟩⟩⟩,⟨⟨rfl,rfl,trivial⟩,Yd ⟨trivial,⟨rfl,rfl,trivial⟩,trivial,trivial,⟨kz 96 [(6,.rv (.one (.ah (xK prog)))),(8,.rv (.one (.ptr 0 0))),(9,an .i64 (i:Nat)),(10,.rv (.one (.ptr 3 0))),(11,.rv (.one (.ptr 5 0))),(12,.rv (.one (.ptr 6 0))),(13,.rv (.one (.ptr 4 0))),(32,nk cs),(33,an .i64 ((cs.map Cl.enc).length:Nat)),(34,an .i64 (i:Nat))],[gB k 1 2,lD W,eT out,cB c,aB a2,kB k,kB k2]⟩,?v5,?rest⟩,⟨⟨rfl,rfl,trivial⟩,Yd ⟨trivial,trivial,trivial,⟨kz 96 [(6,.rv (.one (.ah (xK prog)))),(8,.rv (.one (.ptr 0 0))),(9,an .i64 (i:Nat)),(10,.rv (.one (.ptr 3 0))),(11,.rv (.one (.ptr 5 0))),(12,.rv (.one (.ptr 6 0))),(13,.rv (.one (.ptr 4 0))),(32,nk cs),(33,an .i64 ((cs.map Cl.enc).length:Nat)),(34,an .i64 (i:Nat))],[gB k 1 2,lD W,eT out,cB c,aB a2,kB k,kB k2]⟩,?v6,?rest⟩⟩⟩⟩
   case v1=>
    refine View.o1 7 [0,1,2,3,6,4,5] [] (Af c a2 k k2 W out rfl rfl rfl rfl rfl rfl rfl)
   case v2=>
    refine View.o1 7 [0,1,2,3,5,4,6] [] (Af c a2 k k2 W out rfl rfl rfl rfl rfl rfl rfl)
   case v3=>
    refine View.o1 7 [0,1,2,3,6,4,5] [] (Af c a2 k k2 W out rfl rfl rfl rfl rfl rfl rfl)
   case v4=>
    refine View.o1 7 [0,1,2,3,6,4,5] [] (Af c a2 k k2 W out rfl rfl rfl rfl rfl rfl rfl)
   case v5=>
    refine View.o1 7 [0,1,2,3,5,4,6] [] (Af c a2 k k2 W out rfl rfl rfl rfl rfl rfl rfl)
   case v6=>
    refine View.o1 7 [0,1,2,3,5,4,6] [] (Af c a2 k k2 W out rfl rfl rfl rfl rfl rfl rfl)
   obtain⟨s,hs⟩:∃s:Wt×List Sp,s=if a2.fC=0 then eB i c.bb.toNat c a2 k k2 W else(W,[]):=⟨_,rfl⟩
   have abT:lC prog g0 0 (cs.take (i+1))=⟨k2,sS k2.l s.1,out++s.2⟩:=by rw[YZ,hs]
   have lH:(s.1.map (·.1)).Nodup/\∀e,e∈s.1->∃j:Nat,e.1=j:=by
    rw[hs];by_cases he:a2.fC=0
    .rw[if_pos he]at sf|-;rw[Iu i 0];exact sf
    .rw[if_neg he]at sf|-;exact sf
   clear YZ sf;refine bs (λhe=>?y1) (λhe=>?y2)
   case' y1=>
    have he:a2.fC=0:=he;rw[if_pos he]at hs;refine Br i c a2 k k2 W out (by have:out.length<=960:=Co;omega) _ (iY he) (kB k2) s hs ?_
    refine⟨⟨kz 96 [(6,.rv (.one (.ah (xK prog)))),(8,.rv (.one (.ptr 0 0))),(12,.rv (.one (.ptr 3 0))),(32,nk cs),(33,an .i64 ((cs.map Cl.enc).length:Nat)),(34,an .i64 (i:Nat))],[gB k2 1 2,lD s.1,eT (out++s.2),kB k2]⟩,
     View.o 8 [0,1,7,6] [] ?v7 (.pt rfl rfl (.eq rfl (jm _ _ _)) (.pt rfl rfl (.eq (fv _ _) (jC _)) (.pr rfl rfl rfl (.pt rfl rfl (.eq rfl (iX _)) (.nil _))))),?_⟩
    case v7=>repeat(first|exact .nil|refine .aF ?_|refine .eq rfl ?_)
   case' y2=>
    have he:¬a2.fC=0:=he;rw[if_neg he]at hs;refine⟨⟨kz 96 [(6,.rv (.one (.ah (xK prog)))),(8,.rv (.one (.ptr 0 0))),(12,.rv (.one (.ptr 3 0))),(32,nk cs),(33,an .i64 ((cs.map Cl.enc).length:Nat)),(34,an .i64 (i:Nat))],[gB k2 1 2,lD s.1,eT (out++s.2),kB k2]⟩,
     View.o 7 [0,1,2,6] [] ?v8 (.pt rfl rfl (.eq rfl (jm _ _ _)) (.pt rfl rfl (.eq (by rw[hs];exact fv _ _) (jC _)) (.pt rfl rfl (.bI (by rw[hs,ab3])) (.pt rfl rfl (.eq rfl (iX _)) (.nil _))))),?_⟩
    case v8=>repeat(first|exact .nil|refine .aF ?_|refine .eq rfl ?_)
   all_goals
    clear iY hs;refine λst gZ hl abU afV=>?_
    obtain⟨L0,Pe⟩:∃L0:Pr,L0=s.1.zip st:=⟨_,rfl⟩;have hl:st.length=s.1.length:=by rw[hl];exact Nr _
    have O5:wL L0=s.1:=by rw[Pe,wL,List.map_fst_zip om]
    have Rx:L0.map (·.2)=st:=by rw[Pe,List.map_snd_zip om]
    have Ha:(L0.map (·.2)).Nodup:=by rw[Rx];exact abU
    have Yc:∀x,x∈L0->∃j:Nat,x.1.1=j:=λx hx=>lH.2 _ (by rw[<-O5];exact aas.2 ⟨x,hx,rfl⟩)
    have F3:∀seen,((wL (vp k2.l L0 seen)).map (·.1)).Nodup:=λseen=>by
     have h1:((wL L0).map (·.1)).Nodup:=by rw[O5];exact lH.1
     exact((List.filter_sublist.map _).map _).nodup h1
    have eF:∀seen,(∀x,x∈(vp k2.l L0 seen).map (·.2)->x∈seen)->wL (vp k2.l L0 seen)=sS k2.l s.1:=λseen h=>by rw[Ux h,O5]
    refine ba (λ_:List Nat=>True) [6,32,33,34] (λ_=>[(8,.rv (.one (.ptr 0 0))),(12,.rv (.one (.ptr 3 0))),(67,.rv (.one (.ptr 4 0)))])
     (λseen=>[gB k2 1 2,.mo 2 (pi (wL (vp k2.l L0 seen))) (some ((vp k2.l L0 seen).map (·.2),gZ)),eT (out++s.2),kB k2,.iw 1 gZ seen]) (λseen=>left L0 seen) [] trivial ?_ (λseen _=>?_)
    .refine View.o1 5 [0,1,2,3,4] [] (.pt rfl rfl (.eq rfl (jm _ _ _)) (.pt rfl rfl ?_ (.pr rfl rfl rfl (.pt rfl rfl (.eq rfl (iX _)) (.pm rfl rfl rfl)))))
     .rw[Ra,O5,Rx];exact YY _ _ _ _ _ _
    refine⟨rfl,λfN=>?_,λj x sj hx Jn Zt=>?_⟩
    .refine⟨i+1,aD,(show cs.length-(i+1)<cs.length-i by omega),View.o2 5 [0,1,2] [] ?_⟩
     .rw[abT];refine .pt rfl rfl (.eq rfl (jm _ _ _)) (.pt rfl rfl (.eq ?_ (jC _)) (.pn rfl rfl rfl));rw[fv,lD,<-eF seen fN]
    .obtain⟨y,hy,I6⟩:∃y,(vp k2.l L0 seen)[j]? =some y/\x=wM y.1:=by rw[pi,wL,abZ,Sf]at hx;obtain⟨y,h1,h2⟩:=aau.1 hx;exact⟨y,h1,h2.symm⟩
     have hsy:sj=y.2:=by rw[Sf,hy]at Jn;simpa using Jn.symm
     subst I6 hsy;have hyL:y∈L0:=(acm.1 (Sj hy)).1;obtain⟨q,hq⟩:=Yc y hyL;refine⟨rfl,j,_,hx,Jn,?_⟩;obtain⟨⟨z,v⟩,sj⟩:=y;have hq:z=q:=hq;subst hq;have hF:iH (.int .i64 (q:Nat)) (pi (wL (vp k2.l L0 seen))) 0=some (some (j,.d5 (v.map wE))):=by
      rw[sU,OS (q:Nat) _ 0 j ((q:Nat),v) (F3 seen) (by rw[wL,Sf,hy];rfl) rfl,aaM];rfl
     have Ye:fW k2.l (q:Nat)=false-> .mo 2 ((pi (wL (vp k2.l L0 seen))).eraseIdx j) (some (((vp k2.l L0 seen).map (·.2)).eraseIdx j,gZ))=Bk.mo 2 (pi (wL (vp k2.l L0 (sj::seen)))) (some ((vp k2.l L0 (sj::seen)).map (·.2),gZ)):=λhk=>by rw[Rc (x:=((((q:Nat):Int),v),sj)) hy Ha hk,KQ,wL,wL,Go.ChangeMaps.map_eraseIdx,Go.ChangeMaps.map_eraseIdx]
     have zy:fW k2.l (q:Nat)=true->vp k2.l L0 (sj::seen)=vp k2.l L0 seen:=λhk=>Rb (x:=((((q:Nat):Int),v),sj)) hyL rfl Ha hk
     have UC:=Rd hyL Zt;have hlen:((k2.l.map Obj.enc).length:Int)=(k2.l.length:Nat):=by rw[Nr]
     refine aN (λek=>?_) (λek=>?_)
     .have ek:((q:Nat):Int)>=((k2.l.map Obj.enc).length:Int):=ek;have hk:fW k2.l (q:Nat)=false:=by unfold fW;rw[aae,aaz om]
      refine af hF ?_;refine⟨sj::seen,trivial,UC,View.o1 5 [0,1,2,3,4] [] (.pt rfl rfl (.eq rfl (jm _ _ _)) (.pt rfl rfl ?_ (.pr rfl rfl rfl (.pt rfl rfl (.eq rfl (iX _)) (.pm rfl rfl rfl)))))⟩
      .rw[Ye hk];exact YY _ _ _ _ _ _
     .have ek:¬((q:Nat):Int)>=((k2.l.map Obj.enc).length:Int):=ek;have HB:q<k2.l.length:=om;have Tv:fW k2.l (q:Nat)=decide (k2.l[q].ag=4):=by unfold fW;rw[aae,vl HB]
      refine af (AV HB) ?_;refine bt (λUD=>?_) (λUD=>?_)
      .have UD:k2.l[q].ag≠4:=UD;have hk:fW k2.l (q:Nat)=false:=by rw[Tv];exact decide_eq_false UD
       refine af hF ?_;refine⟨sj::seen,trivial,UC,View.o1 5 [0,1,2,3,4] [] (.pt rfl rfl (.eq rfl (jm _ _ _)) (.pt rfl rfl ?_ (.pr rfl rfl rfl (.pt rfl rfl (.eq rfl (iX _)) (.pm rfl rfl rfl)))))⟩
       .rw[Ye hk];exact YY _ _ _ _ _ _
      .have UD:k2.l[q].ag=4:=UD;have hk:fW k2.l (q:Nat)=true:=by rw[Tv];exact decide_eq_true UD
       refine⟨sj::seen,trivial,UC,View.o1 5 [0,1,2,3,4] [] (.pt rfl rfl (.eq rfl (jm _ _ _)) (.pt rfl rfl ?_ (.pr rfl rfl rfl (.pt rfl rfl (.eq rfl (iX _)) (.pm rfl rfl rfl)))))⟩
       .rw[zy hk];exact YY _ _ _ _ _ _
  .have lT:i=cs.length:=by have h:¬(i:Int)<((cs.map Cl.enc).length:Int):=h;rw[Nr]at h;omega
   subst lT;rw[aaN];subst hpg;refine⟨λh=>absurd hw h,λ_ h=>om,λ_ _=>⟨l',hp,hr,?_⟩⟩
   refine .bz rfl λi r r' h1 h2=>?_
   match i,h1,h2 with
   |0,h1,h2=>cases h1;cases h2;exact .one (eV.eW (ds:=(lC (cS l') g0 0 cs).out.map Sp.enc) rfl 0 none)
   |1,h1,h2=>cases h1;cases h2;exact eP.self rfl
   |n+2,h1,h2=>simp at h1
theorem D8(l:List cR)(cs:List Cl)(eC:sR cs){m:Mem}{K:CV->Mem->Prop}(h1:(bT l).1≠0->K (rf [] (bT l).1) m)(h2:(bT l).1=0->cs.length>80->K (rf [] 5) m)(h3:(bT l).1=0->cs.length<=80->∀l',l'.Perm l->fR l'->K (rf (lC (cS l') g0 0 cs).out 0) m):ap prog 14 [dY l,nk cs] m K:=
 be (b8 func14 l14 (GU l cs eC)) (by simp[dY,nk,CV.dv,CC.dv,RV.dv]) λr m1 hf=>by
  by_cases hw:(bT l).1=0
  .by_cases h8:cs.length<=80
   .obtain⟨l',hp,hr,hf⟩:=hf.2.2 hw h8;exact⟨_,hf,h3 hw h8 l' hp hr⟩
   .exact⟨_,hf.2.1 hw om,h2 hw om⟩
  .exact⟨_,hf.1 hw,h1 hw⟩
end Kn
namespace Kn
theorem x9{l l':List cR}(hw:(bT l).1=0)(hp:l'.Perm l)(hr:fR l')(r:qk):(ug (cS l') r).1=if rd l r=true then 1 else 0:=by obtain⟨YW,hg,hd⟩:=u4 hw;rw[OD r (λp h=>hg p (hp.mem_iff.1 h)) (by rw[hp.length_eq];exact YW) hr,Kx hp,Kz hd]
end Kn
def c13:LF:= ⟨39,[.tmp 0],(.seq (.ai [qu 0 (.aI (qb false))]) (.seq (.ai [qu 4 (.build [qd 0,qd 0,qd 0,qd 0,qd 0,qd 0,qd 0,(.ah (.val (.string ⟨#[]⟩))),.aK] [(1,1,qi 8)]),qu 5 (.build [qd 0,qd 0,qd 0,qd 0,qd 0,qd 0,qd 0,(.ah (.val (.string ⟨#[]⟩))),.aK] [(1,1,qi 9),(2,1,qi 1),(6,1,qi 5)]),qu 6 (.build [qd 0,qd 0,qd 0,qd 0,qd 0,qd 0,qd 0,(.ah (.val (.string ⟨#[]⟩))),.aK] [(1,1,qi 18)]),qu 7 (.nw 9 [qd 0,qd 0,qd 0,qd 0,qd 0,qd 0,qd 0,(.ah (.val (.string ⟨#[]⟩))),.aK] 3 [(0,4),(1,5),(2,6)]),qu 8 (qc 14 [qe,7]),qm 3 8,qu 9 (.ext 3 0),qu 10 (.ext 3 1),qm 1 9,qm 2 10]) (.seq (.ai [qm 11 2,qu 12 (.aJ .eql 11 (qi 0)),qm 13 12,qg 14 (.aI 1) 13 true,qg 15 (.len 1 14) 13 true,qg 16 (.aJ .eql 15 (qi 5)) 13 true,qu 17 (.pick 13 16 (qb false)),qm 18 17,qg 19 (.aI 1) 18 true,qg 20 (.cr 8 19 (qi 1)) 18 true,qg 21 (.load true 8 20) 18 true,qg 22 (.build [qd 0,qd 0,qd 0,qd 0,qd 0,qd 0,qd 0,qd 0] [(0,1,qi 1),(2,1,qi 1),(3,1,qi 3),(5,1,qi 1),(6,1,qi 5)]) 18 true,qg 23 (.Li false [.i,.i,.i,.i,.i,.i,.i,.i] 21 22) 18 true,qu 24 (.pick 18 23 (qb false)),qm 25 24,qg 26 (.aI 1) 25 true,qg 27 (.cr 8 26 (qi 4)) 25 true,qg 28 (.bU 3 27) 25 true,qg 29 (.load false 1 28) 25 true,qg 30 (.aJ .eql 29 (qi 2)) 25 true,qu 31 (.pick 25 30 (qb false)),qm 32 31,qg 33 (.aI 1) 32 true,qg 34 (.cr 8 33 (qi 2)) 32 true,qg 35 (.bU 1 34) 32 true,qg 36 (.load false 1 35) 32 true,qg 37 (.aJ .eql 36 (qi 1)) 32 true,qu 38 (.pick 32 37 (qb false)),qm 0 38]) .ret)))⟩
namespace Kn
theorem OZ{l l1 l2:List cR}(hw:(bT l).1=0)(SB:l1.Perm l)(rS:fR l1)(yh:l2.Perm l)(qV:fR l2)(k:Kr)(c:Cl):hC (cS l1) k c=hC (cS l2) k c:=by unfold hC;rw[x9 hw SB rS,x9 hw yh qV]
theorem Iw{l l1 l2:List cR}(hw:(bT l).1=0)(SB:l1.Perm l)(rS:fR l1)(yh:l2.Perm l)(qV:fR l2):∀(cs:List Cl)(k:Kr),kS (cS l1) k cs=kS (cS l2) k cs
 | [],_=>rfl
 |c::r,k=>by show kS (cS l1) (hC (cS l1) k c).1 r=kS (cS l2) (hC (cS l2) k c).1 r;rw[OZ hw SB rS yh qV];exact Iw hw SB rS yh qV r _
theorem UE:(bT []).1=0:=by kernel_rfl
def csG:List Cl:=[{clN with ag:=8},{clN with ag:=9,fd:=1,a8:=5},{clN with ag:=18}]
theorem abX:(lC (cS []) g0 0 csG).out=[⟨0,0,1,3,0,0,4095,0⟩,⟨1,0,1,3,0,1,5,0⟩,⟨2,1,0,3,0,0,4095,0⟩,⟨2,1,1,3,0,1,5,0⟩,⟨2,0,2,2,-1,0,3200,1⟩]:=by kernel_rfl
theorem l13:bw prog f13=some c13.er:=by kernel_rfl
theorem BP:body prog c13 [] [] (λr m=>r=aE true):=by
 refine pC (p4:=[dY [],nk csG]) (m':=[.aR]) (View.o 1 [0] [0] ?_ (.aR (.nil _))) ?_
 .refine .put (.rv (.one (.fE (.aK 2)))) (.put (.rv (.one (.fE (gN.fE (Z:=λk=>bx [0] k=true) ?_ rfl rfl)))) .nil)
  repeat(first|exact kh.nil|exact gN.nil|refine gN.cons ?_ ?_|refine kh.cons ?_ ?_|exact .ah _|exact .aK 1)
 refine D8 [] csG ⟨by decide,by decide⟩ (λh=>absurd UE h) (λ_ h=>absurd h (by decide)) λ_ _ l' hp hr=>?_
 rw[List.Perm.eq_nil hp,abX];exact rfl
theorem GV{m:Mem}{K:CV->Mem->Prop}(h:K (aE true) m):ap prog 13 [] m K:=
 uS func13 l13 rfl (aah rfl) BP rfl rfl h
end Kn
def c5:LF:= ⟨81,[.tmp 6],(.seq (.ai [qu 6 (.aI (qb false))]) (.seq (.seq (.ai [qu 12 (qc 13 []),qu 13 (.un .not 12)]) (.cond 13 (.seq (.ai [qu 6 (.aI (qb false))]) .ret) .skip)) (.seq (.ai [qm 15 0,qm 16 1,qu 17 (qc 14 [15,16]),qm 14 17,qu 18 (.ext 14 0),qu 19 (.ext 14 1),qm 7 18,qm 8 19]) (.seq (.seq (.ai [qm 20 8,qu 21 (.aJ .neq 20 (qi 0)),qm 22 21,qg 23 (.aI 2) 22 false,qg 24 (.aJ .lss 23 (qi 0)) 22 false,qu 25 (.pick 22 (qb true) 24),qm 26 25,qg 27 (.aI 2) 26 false,qg 28 (.aI 1) 26 false,qg 29 (.len 1 28) 26 false,qg 30 (.aJ .gtr 27 29) 26 false,qu 31 (.pick 26 (qb true) 30)]) (.cond 31 (.seq (.ai [qu 6 (.aI (qb true))]) .ret) .skip)) (.seq (.ai [qm 33 0,qm 34 1,qm 35 2,qu 36 (.nT 9 34 none (some 35) none),qu 37 (qc 14 [33,36]),qm 32 37,qu 38 (.ext 32 0),qu 39 (.ext 32 1),qm 9 38,qm 8 39]) (.seq (.seq (.ai [qm 40 8,qu 41 (.aJ .neq 40 (qi 0)),qm 42 41,qg 43 (.aI 9) 42 false,qg 44 (.len 1 43) 42 false,qg 45 (.aI 7) 42 false,qg 46 (.len 1 45) 42 false,qg 47 (.aJ .gtr 44 46) 42 false,qu 48 (.pick 42 (qb true) 47)]) (.cond 48 (.seq (.ai [qu 6 (.aI (qb false))]) .ret) .skip)) (.seq (.seq (.ai [qm 49 7,qu 50 (.len 1 49),qu 51 (.aI (qi 0))]) (.block 0 (.loop (.seq (.ai [qu 52 (.aJ .lss 51 50)]) (.seq (.cond 52 .skip (.exit 0)) (.seq (.block 1 (.seq (.ai [qm 53 51,qu 54 (.cr 8 49 51),qL 55 8 54,qu 11 (.alloc [qd 0,qd 0,qd 0,qd 0,qd 0,qd 0,qd 0,qd 0]),qm 10 53,qw (.store 8 11 55)]) (.seq (.bR [qm 56 10,qm 57 9,qu 58 (.len 1 57),qu 59 (.aJ .lss 56 58),qm 60 59,qg 61 (.load true 8 11) 60 true,qg 62 (.aI 9) 60 true,qg 63 (.aI 10) 60 true,qg 64 (.cr 8 62 63) 60 true,qg 65 (.load true 8 64) 60 true,qg 66 (.Li true [.i,.i,.i,.i,.i,.i,.i,.i] 61 65) 60 true,qu 67 (.pick 60 66 (qb false)),qm 68 67,qg 69 (.aI 10) 68 false,qg 70 (.aI 9) 68 false,qg 71 (.len 1 70) 68 false,qg 72 (.aJ .geq 69 71) 68 false,qg 73 (.aI 72) 68 false,qg 74 (.bU 0 11) 73 true,qg 75 (.load false 1 74) 73 true,qg 76 (.aI 2) 73 true,qg 77 (.aJ .lss 75 76) 73 true,qg 78 (.pick 73 77 (qb false)) 68 false,qu 79 (.pick 68 (qb true) 78)] [eh 24 0 .nil]) (.cond 79 (.seq (.ai [qu 6 (.aI (qb false))]) .ret) .skip)))) (.ai [qu 80 (.aJ .add 51 (qi 1)),qm 51 80]))))))) (.seq (.ai [qu 6 (.aI (qb true))]) .ret))))))))⟩
namespace Kn
theorem UF{L:List Sp}{i:Nat}(h:i<L.length):dC (L.map Sp.enc) (i:Nat)=some (L[i].enc):=by rw[bD,Sf,vl h];rfl
theorem sR.take{cs:List Cl}(h:sR cs)(q:Nat):sR (cs.take q):=⟨by rw[aav];have:=h.l;omega,λc hc=>h.d c (aaY hc)⟩
end Kn
def c7:LF:= ⟨81,[.tmp 4],(.seq (.ai [qu 4 (.aI (qb false))]) (.seq (.seq (.ai [qu 12 (qc 13 []),qu 13 (.un .not 12)]) (.cond 13 (.seq (.ai [qu 4 (.aI (qb false))]) .ret) .skip)) (.seq (.ai [qm 15 0,qm 16 1,qu 17 (qc 14 [15,16]),qm 14 17,qu 18 (.ext 14 0),qu 19 (.ext 14 1),qm 5 18,qm 6 19]) (.seq (.seq (.ai [qm 20 6,qu 21 (.aJ .neq 20 (qi 0))]) (.cond 21 (.seq (.ai [qu 4 (.aI (qb true))]) .ret) .skip)) (.seq (.seq (.ai [qm 22 5,qu 23 (.len 1 22),qu 24 (.aI (qi 0))]) (.block 0 (.loop (.seq (.ai [qu 25 (.aJ .lss 24 23)]) (.seq (.cond 25 .skip (.exit 0)) (.seq (.block 1 (.seq (.ai [qu 26 (.cr 8 22 24),qL 27 8 26,qu 8 (.alloc [qd 0,qd 0,qd 0,qd 0,qd 0,qd 0,qd 0,qd 0]),qw (.store 8 8 27)]) (.seq (.seq (.ai [qf 28 3 8,ql 29 28,qu 30 (.aJ .neq 29 (qi 1))]) (.cond 30 (.exit 1) .skip)) (.seq (.seq (.ai [qf 31 0 8,ql 32 31,qu 33 (.aJ .lss 32 (qi 0)),qm 34 33,qg 35 (.bU 0 8) 34 false,qg 36 (.load false 1 35) 34 false,qg 37 (.aI 1) 34 false,qg 38 (.len 1 37) 34 false,qg 39 (.aJ .geq 36 38) 34 false,qu 40 (.pick 34 (qb true) 39)]) (.cond 40 (.seq (.ai [qu 4 (.aI (qb false))]) .ret) .skip)) (.seq (.ai [qm 42 0,qm 43 1,qf 44 0 8,ql 45 44,qu 46 (.nT 9 43 none (some 45) none),qu 47 (qc 11 [42,46]),qm 41 47,qu 48 (.ext 41 0),qu 49 (.ext 41 1),qu 50 (.ext 41 2),qu 9 (.alloc [.aK,.aK,.aK]),qw (.store 3 9 48),qm 10 49,qm 11 50]) (.seq (.ai [qf 51 1 8,ql 52 51,qu 53 (.aJ .lss 52 (qi 0)),qm 54 53,qg 55 (.bU 1 8) 54 false,qg 56 (.load false 1 55) 54 false,qg 57 (.bU 2 9) 54 false,qg 58 (.load false 1 57) 54 false,qg 59 (.len 1 58) 54 false,qg 60 (.aJ .geq 56 59) 54 false,qu 61 (.pick 54 (qb true) 60),qm 62 61,qg 63 (.bU 2 9) 62 false,qg 64 (.load false 1 63) 62 false,qg 65 (.bU 1 8) 62 false,qg 66 (.load false 1 65) 62 false,qg 67 (.cr 4 64 66) 62 false,qg 68 (.bU 1 67) 62 false,qg 69 (.load false 1 68) 62 false,qu 70 (.pick 62 (qb true) 69),qm 71 70,qg 72 (.aI 1) 71 false,qg 73 (.bU 0 8) 71 false,qg 74 (.load false 1 73) 71 false,qg 75 (.cr 9 72 74) 71 false,qg 76 (.bU 1 75) 71 false,qg 77 (.load false 1 76) 71 false,qg 78 (.aJ .neq 77 (qi 2)) 71 false,qu 79 (.pick 71 (qb true) 78)]) (.cond 79 (.seq (.ai [qu 4 (.aI (qb false))]) .ret) .skip))))))) (.ai [qu 80 (.aJ .add 24 (qi 1)),qm 24 80]))))))) (.seq (.ai [qu 4 (.aI (qb true))]) .ret))))))⟩
namespace Kn
theorem D9(prog:List dq):∀(cs:List Cl)(g:Gs)(i:Nat)(s:Sp),s∈(lC prog g i cs).out->s∈g.out\/∃(j:Nat)(h:j<cs.length)(W:Wt),(hC prog (kS prog g.k (cs.take j)) cs[j]).2.fC=0/\
  s∈(eB ((i+j:Nat):Int) cs[j].bb.toNat cs[j] (hC prog (kS prog g.k (cs.take j)) cs[j]).2 (kS prog g.k (cs.take j)) (hC prog (kS prog g.k (cs.take j)) cs[j]).1 W).2
 | [],g,i,s,h=>.inl h
 |c::r,g,i,s,h=>by
  rcases D9 prog r (nq prog i c g) (i+1) s h with h1|⟨j,hj,W,h2,h3⟩
  .have h1:s∈g.out++_:=h1;rcases abL.1 h1 with h1|h1
   .exact .inl h1
   .by_cases he:(hC prog g.k c).2.fC=0
    .rw[if_pos he]at h1;exact .inr ⟨0,aC,g.W,he,h1⟩
    .rw[if_neg he]at h1;cases h1
  .refine .inr ⟨j+1,by simpa using hj,W,h2,?_⟩
   rw[show i+(j+1)=i+1+j by omega]
   exact h3
theorem GW{i:Int}{p:Nat}{c:Cl}{a:An}{b k:Kr}{W:Wt}:∀s,s∈(eB i p c a b k W).2->s.h=1->c.ag=2/\s.p=p/\s.c=i:=by
 have hc:∀(n:Nat)(fd h f g:Int)s,s∈eS k i n fd h f g->s.h=h/\s.p=n/\s.c=i:=λn fd h f g s hs=>by
  unfold eS at hs;split at hs
  .cases hs
  .rw[acn.1 hs];exact⟨rfl,rfl,rfl⟩
 have hn:∀(n:Nat)(fd h f g:Int)s,h≠1->s∈eS k i n fd h f g->s.h=1->False:=λn fd h f g s h1 hs h2=>h1 ((hc n fd h f g s hs).1▸h2)
 have hf:∀(n:Nat)(f:Int)(L:List Int)s,s∈f4 k i n f L->s.h=1->False:=λn f L s hs h1=>by
  unfold f4 at hs;obtain⟨y,_,hy⟩:=List.mem_flatMap.1 hs;exact hn _ _ _ _ _ s (by decide) hy h1
 intro s hs h1;unfold eB at hs;split at hs
 .rename_i hk;exact⟨hk,(hc _ _ _ _ _ s hs).2.1,(hc _ _ _ _ _ s hs).2.2⟩
 split at hs
 .exact(hn _ _ _ _ _ s (by decide) hs h1).elim
 split at hs
 .exact(hn _ _ _ _ _ s (by decide) hs h1).elim
 split at hs
 .rcases abL.1 hs with h|h<;>exact(hn _ _ _ _ _ s (by decide) h h1).elim
 split at hs
 .cases hs
 split at hs
 .split at hs
  .split at hs
   .exact(hn _ _ _ _ _ s (by decide) hs h1).elim
   .cases hs
  .cases hs
 split at hs
 .rcases abL.1 hs with h|h
  .exact(hf _ _ _ s h h1).elim
  .exact(hn _ _ _ _ _ s (by decide) h h1).elim
 .cases hs
theorem KR(prog:List dq)(cs:List Cl)(s:Sp)(hs:s∈(lC prog g0 0 cs).out)(h1:s.h=1):∃(j:Nat)(_:j<cs.length)(p:Nat)(hp:p<(kS prog cy (cs.take j)).ps.length),s.c=j/\s.p=p/\cs[j].ag=2/\(kS prog cy (cs.take j)).ps[p].fenced=false:=by
 rcases D9 prog cs g0 0 s hs with h|⟨j,hj,W,he,hm⟩
 .cases h
 .have he:(hC prog (kS prog cy (cs.take j)) cs[j]).2.fC=0:=he;obtain⟨hk,hp,hc⟩:=GW s hm h1;obtain⟨p,sZ,i3,b9,_,_,_,_⟩:=xX he;have FY:cs[j].bb.toNat=p:=by rw[sZ];rfl
  refine⟨j,hj,p,i3,by rw[hc,aaM],by rw[hp,FY],hk,?_⟩
  cases hf:(kS prog cy (cs.take j)).ps[p].fenced with
  |false=>rfl
  |true=>
   have:=GP (prog:=prog) (k:=kS prog cy (cs.take j)) (c:=cs[j]) (by rw[sZ];simp[fj,i3,b9]) (by rw[FY];simp[iV,vl i3,hf]) hk
   rw[this]at he;cases he
theorem O0(l:List cR)(cs:List Cl)(eC:sR cs)(v:CV)(hv:v=nk cs){m:Mem}{K:CV->Mem->Prop}(h1:(bT l).1≠0->K (qp mr [] (bT l).1) m)(h2:(bT l).1=0->cs.length>80->K (qp mr [] 5) m)(h3:(bT l).1=0->cs.length<=80->∀l',l'.Perm l->fR l'->K (qp (kS (cS l') cy cs) (aS (cS l') cy cs) 0) m):ap prog 11 [dY l,v] m K:=by
 subst hv;exact Q6 l cs eC h1 h2 h3
theorem l7o:bw prog Tryz.f7=some c7.er:=by kernel_rfl
theorem GX(l:List cR)(cs:List Cl)(eC:sR cs):body Tryz.prog c7 [dY l,nk cs] [] (λr m=>r=aE true):=by
 refine GV ?_;refine D8 l cs eC (λhw=>?_) (λhw yJ=>?_) (λhw yJ l1 SB rS=>?_)
 .refine bt (λhe=>rfl) (λhe=>absurd he hw)
 .exact rfl
 have Ea:=KR (cS l1) cs;have hlA:(lC (cS l1) g0 0 cs).out.length<=1048576:=by have:=x8 (prog:=cS l1) (g:=g0) 0 cs GI.UB;have h0:g0.out.length=0:=rfl;omega
 generalize (lC (cS l1) g0 0 cs).out=A at Ea hlA|-;refine ba (λi=>i<=A.length) [0,1,22,23] (λi=>[(24,an .i64 (i:Nat))]) (λi=>[]) (λi=>A.length-i) 0 (aan _) ?_ (λi hi=>?_)
 .refine View.o1 0 [] [] (.nil _)
 have hi:i<=A.length:=hi;refine aN (λh=>?_) (λh=>?_)
 rotate_left
 .exact rfl
 have aD:i<A.length:=by have h:(i:Int)<((A.map Sp.enc).length:Int):=h;rw[Nr]at h;omega
 refine af (UF aD) ?_;have Ea:=Ea A[i] (aar aD);generalize A[i]=s at Ea;refine bt (λh1=>?_) (λh1=>?_)
 .refine⟨i+1,aD,(show A.length-(i+1)<A.length-i by omega),View.o2 1 [] [] (.nil _)⟩
 obtain⟨j,hj,p,hp,hc,wG,hk,hf⟩:=Ea h1;obtain⟨sc,sp,s3,s4,s5,s6,s7,s8⟩:=s;have hc:sc=j:=hc;have wG:sp=p:=wG;subst hc wG;refine rP (show decide (((j:Nat):Int)>=((cs.map Cl.enc).length:Int))=false by rw[Nr];exact decide_eq_false om) ?_
 refine cE (by simp;omega) ?_
 refine O0 l (cs.take j) (eC.take j) _ (show CV.rv (.one (.ah (.sl 9 (((cs.map Cl.enc).take j).drop 0))))=nk (cs.take j) by rw[nk,acx,acU]) (λh=>absurd hw h) (λ_ h=>absurd h (by rw[aav];omega)) (λ_ _ l2 yh qV=>?_)
 rw[Iw hw yh qV SB rS];generalize kS (cS l1) cy (cs.take j)=k at hp hf|-;have hg:=dy hp;rw[hf]at hg;refine rP (show decide (((p:Nat):Int)>=((k.ps.map bm.enc).length:Int))=false by rw[Nr];exact decide_eq_false om) ?_
 refine af hg ?_;refine af (GO hj) ?_;refine rP (by simp[hk]) ?_
 refine⟨i+1,aD,(show A.length-(i+1)<A.length-i by omega),View.o2 2 [] [] (.nil _)⟩
theorem O3(l:List cR)(cs:List Cl)(eC:X4 cs):ap prog 7 [dY l,nk cs] [] (λr _=>r=aE true):=
 uS func7 l7o rfl (aah rfl) (GX l cs ⟨eC.l,eC.d⟩) rfl rfl rfl
end Kn
end Go.Proofs.YtodckkkbiidffaaGreatDoor
