/- Part 27 of 35. -/
import Derived.Test.YtllkfpggoigbaaaGreatDoorS15
import Derived.Test.YtllkfpggoigbaaaGreatDoorS17
import Derived.Test.YtllkfpggoigbaaaGreatDoorS26
set_option linter.unusedVariables false
set_option linter.unusedSimpArgs false
set_option linter.unnecessarySimpa false
set_option maxRecDepth 100000
set_option maxHeartbeats 0
namespace Go.Proofs.YtllkfpggoigbaaaGreatDoor
open Proofs.Tryz
open Go.AM Go.ChangeShapes Go.WideShapes Go.ChangeAt Go.RowKit
namespace Kn
structure HP(l:List Obj)(o:Obj):Prop where
 eq:o.ag=(df o).map bP
 EB:Gw (df o)
 dir:o.ah≠2->o.ag=[]
 to:∀e,e∈df o->e.1.size<=12/\∃(j:Nat)(x:Obj),e.2=j/\l[j]? =some x/\x.ah≠0
def gJ(l:List Obj)(z:Int):Prop:=∃(j:Nat)(x:Obj),z=j/\l[j]? =some x/\x.ah≠0
def fS(k:Kr)(z r:Int):Prop:=(0<=r/\r<=4095)/\∃(n:Nat)(o:aT),z=n/\k.ops[n]? =some o/\gJ k.l o.obj
structure KI(k:Kr):Prop where
 ll:k.l.length<=40
 lo:k.ops.length<=60
 lp:k.ps.length<=8
 sm:∀o,o∈k.l->o.sm
 sl:∀x,x∈k.ps->x.an.length<=10
 ne:k.ps≠[]
 aE:∀x,x∈k.ps->x.aF=false->x.an=[]
 cap:∀x,x∈k.ps->∀s,s∈x.an->s.has=true->fS k s.b8 s.rts
 qu:∀o,o∈k.l->∀q,q∈o.aj->q.has=true->fS k q.b8 q.rts
 pr:∀o,o∈k.l->o.ah=5->∃n:Nat,o.aQ=n/\n<k.ps.length
 en:∀o,o∈k.l->HP k.l o
 z:∀o,o∈k.l->o.ah=0->o=dS
 pe:∀(i:Nat)o,k.l[i]? =some o->o.ah=4->o.aG= -1\/∃(j:Nat)(x:Obj),o.aG=j/\k.l[j]? =some x/\x.ah=4/\x.aG=i
 di:∀o,o∈k.ops->0<=o.di/\o.di<=64
 P2:∀o,o∈k.l->o.data.length<=60
 p5:Tree (k.l.map t7)
theorem KI.kr{k:Kr}(h:KI k):dV k.l k.ops k.ps:=⟨h.sm,by have:=h.ll;omega,by have:=h.lo;omega,by have:=h.lp;omega,h.sl,h.ne⟩
theorem gE{l:List Obj}{i:Nat}{o:Obj}(h:l[i]? =some o):(l.map t7)[i]? =some (t7 o):=by rw[Qu,h];rfl
theorem oT{l:List Obj}{i:Nat}{d:Sk}(h:(l.map t7)[i]? =some d):∃o,l[i]? =some o/\d=t7 o:=by
 rw[Qu]at h;cases ho:l[i]? with
 |none=>rw[ho]at h;cases h
 |some o=>rw[ho]at h;cases h;exact⟨o,rfl,rfl⟩
theorem KI.up{k:Kr}(h:KI k){o:Obj}(ho:o∈k.l):0<=o.up/\o.up<k.l.length:=by obtain⟨i,hi⟩:=aak ho;have:=h.p5.aaU (gE hi);rwa [O9]at this
theorem KI.ay{k:Kr}(h:KI k):∃o,k.l[0]? =some o/\o.ah=2:=by obtain⟨d,h1,h2,_⟩:=h.p5.r0;obtain⟨o,h3,rfl⟩:=oT h1;exact⟨o,h3,h2⟩
theorem KI.pos{k:Kr}(h:KI k):0<k.l.length:=by obtain⟨o,h1,_⟩:=h.ay;exact(Lw.1 h1).1
theorem HP.len{l:List Obj}{o:Obj}(h:HP l o):(df o).length=o.ag.length:=by have:=congrArg List.length h.eq;rw[O9]at this;exact this.symm
theorem KI.EB{k:Kr}(h:KI k):yI k.l:=by
 refine⟨⟨by have:=h.ll;omega,λo ho=>(h.sm o ho).oi⟩,λo ho=>?_⟩
 have he:=h.en o ho;refine⟨df o,he.eq,he.EB,by rw[he.len];have:=(h.sm o ho).e;omega,λe hx=>?_⟩
 obtain⟨_,j,x,h1,h2,_⟩:=he.to e hx;have:=(Lw.1 h2).1;omega
theorem KI.lk{k:Kr}(h:KI k):oO (k.l.map Obj.ob):=by
 refine⟨by rw[O9];have:=h.ll;omega,by rw[O9];exact h.pos,λo ho=>?_,λo ho=>?_,λo ho=>?_⟩
 .obtain⟨x,hx,rfl⟩:=abl.1 ho;have he:=h.en x hx;refine⟨df x,he.eq,he.EB,λe hxe=>?_,λhk=>?_⟩
  .obtain⟨_,j,y,h1,h2,_⟩:=he.to e hxe;have:=(Lw.1 h2).1;rw[O9];omega
  .have:=he.dir hk;show x.ag.map kO=[];rw[this];rfl
 .obtain⟨x,hx,rfl⟩:=abl.1 ho;have:=(h.sm x hx).e;show x.ag.length<=64;omega
 .obtain⟨x,hx,rfl⟩:=abl.1 ho;have:=h.up hx;rw[O9];exact this
def Bd(x o:Obj):Prop:=x=o\/x={o with aG:= -1}
theorem Bd.all{x o:Obj}(h:Bd x o):x.ah=o.ah/\x.data=o.data/\x.ag=o.ag/\x.target=o.target/\x.aj=o.aj/\x.aQ=o.aQ/\x.ak=o.ak/\x.up=o.up:=by
 rcases h with rfl|rfl<;>exact⟨rfl,rfl,rfl,rfl,rfl,rfl,rfl,rfl⟩
theorem Bd.sk{x o:Obj}(h:Bd x o):t7 x=t7 o:=by obtain⟨h1,_,h2,_,_,_,h3,h4⟩:=h.all;unfold t7 df;rw[h1,h2,h3,h4]
theorem ig{l:List Obj}(hz:∀o,o∈l->o.ah=0->o=dS)(b:Mk){i:Nat}{o:Obj}(ho:l[i]? =some o):
  (cF b l l.length i o=dS/\(o.ah=0\/¬dv b.O i))\/(dv b.O i/\o.ah≠0/\((cF b l l.length i o=o/\(o.ah=4->∀(j:Nat)x,o.aG=j->l[j]? =some x->x.ah≠0->dv b.O j))\/
   (cF b l l.length i o={o with aG:= -1}/\o.ah=4/\∃(j:Nat)(x:Obj),o.aG=j/\l[j]? =some x/\¬dv b.O j))):=by
 have hi:=(Lw.1 ho).1;have OL:∀j,(b.O[j]? ==some true)=true↔dv b.O j:=λj=>by unfold dv;simp
 have lh:∀(j:Nat)x,l[j]? =some x->(dH b l j=true↔¬dv b.O j/\x.ah≠0):=λj x hx=>by unfold dH;rw[hx];simp only[aaL,aco,bne_iff_ne,ne_eq];rw[<-OL j];simp
 unfold cF;by_cases h1:(dH b l i&&decide (i<l.length))=true
 .rw[if_pos h1];rw[aaL]at h1;exact .inl ⟨rfl,.inr ((lh i o ho).1 h1.1).1⟩
 .rw[if_neg h1];have so:¬dH b l i=true:=λh=>h1 (by rw[h];simpa using hi)
  by_cases hk:o.ah=0
  .have:=hz o (Vm ho) hk;subst this;exact .inl ⟨rfl,.inl rfl⟩
  .have hM:dv b.O i:=aah λhn=>so ((lh i o ho).2 ⟨hn,hk⟩)
   refine .inr ⟨hM,hk,?_⟩;by_cases h2:(o.ah==4&&lg b l l.length o.aG)=true
   .rw[if_pos h2];rw[aaL]at h2;refine .inr ⟨rfl,by simpa using h2.1,?_⟩
    have h3:=h2.2;unfold lg at h3;rw[aaL,decide_eq_true_eq]at h3;obtain⟨⟨h4,h5⟩,h6⟩:=h3;refine⟨o.aG.toNat,l[o.aG.toNat],om,wy h5,((lh _ _ (wy h5)).1 h6).1⟩
   .rw[if_neg h2];refine .inl ⟨rfl,λh4 j x hp hx Xb=>?_⟩
    refine aah λhn=>h2 ?_
    have hj:=(Lw.1 hx).1;rw[h4,aaL];refine⟨rfl,?_⟩;unfold lg;rw[hp,aal,(lh j x hx).2 ⟨hn,Xb⟩,aez,decide_eq_true_eq];omega
theorem Mi(L:List Obj)(k t:Nat)(x:aL):wM L k t x=fl\/wM L k t x=x:=by
 unfold wM;split
 .exact .inl rfl
 .exact .inr rfl
theorem S9:dS.data.length<=60:=by simp[dS]
theorem KI.zU{k c:Kr}{en:Bool}(h:KI k)(ho:cL k.l k.ops k.ps c.l c.ops c.ps en):KI c:=by
 obtain⟨b,hb,hL,hP⟩:=ho.ex;have hR:=ho.pr;have qY:∀(i:Nat)x,c.l[i]? =some x->x=dS\/∃o,k.l[i]? =some o/\dv b.O i/\o.ah≠0/\Bd x o:=λi x hx=>by
  obtain⟨o,h1,h2⟩:=hL.get hx;rcases ig h.z b h1 with⟨h3,_⟩|⟨h3,h4,h5⟩
  .exact .inl (h2.trans h3)
  .refine .inr ⟨o,h1,h3,h4,?_⟩;rcases h5 with⟨h5,_⟩|⟨h5,_⟩
   .exact .inl (h2.trans h5)
   .exact .inr (h2.trans h5)
 have ez:∀(i:Nat)o,k.l[i]? =some o->dv b.O i->o.ah≠0->∃x,c.l[i]? =some x/\Bd x o:=λi o h1 hM hk=>by
  refine⟨_,hL.2 i o h1,?_⟩;rcases ig h.z b h1 with⟨_,h4|h4⟩|⟨_,_,⟨h5,_⟩|⟨h5,_⟩⟩
  .exact absurd h4 hk
  .exact absurd hM h4
  .exact .inl h5
  .exact .inr h5
 have q0:∀z,gJ k.l z->(∀n:Nat,vO k.l z n->dv b.O n)->gJ c.l z:=λz⟨j,x,h1,h2,h3⟩hm=>by
  obtain⟨y,h4,h5⟩:=ez j x h2 (hm j ⟨h1,x,h2,h3⟩) h3;exact⟨j,y,h1,h4,by rw[h5.all.1];exact h3⟩
 have eG:∀z r,fS k z r->(∀n:Nat,vP k.ops z n->dv b.P n)->fS c z r:=λz r⟨hr,n,o,h1,h2,h3⟩hm=>by
  have hn:=(Lw.1 h2).1;have hM:=hm n ⟨h1,hn⟩;refine⟨hr,n,o,h1,?_,q0 _ h3 λj hv=>hb.cl.p n o hM h2 j hv⟩
  rw[hP.2 n o h2,zT,if_neg];have:(b.P[n]? ==some true)=true:=by unfold dv at hM;rw[hM];rfl
  rw[this];simp
 have hlen:c.l.length=k.l.length:=hL.1;have mem:∀x,x∈c.l->∃i:Nat,c.l[i]? =some x:=λx hx=>aak hx
 have P3:∀x,x∈c.ps->x=fl\/x∈k.ps:=λx hx=>by
  obtain⟨t,ht⟩:=aak hx;obtain⟨o,h1,h2⟩:=hR.get ht;rcases Mi c.l k.ps.length t o with h3|h3
  .exact .inl (h2.trans h3)
  .exact .inr (by rw[h2,h3];exact Vm h1)
 refine⟨by rw[hlen];exact h.ll,by rw[hP.1];exact h.lo,by rw[hR.1];exact h.lp,(ho.kr h.kr).sm,(ho.kr h.kr).sl,(ho.kr h.kr).ne,λx hx hl=>?_,λx hx s hs hh=>?_,λo d5 q hq hh=>?_,λo d5 h5=>?_,λo d5=>?_,λo d5 hk=>?_,λi o hi h4=>?_,λo d5=>?_,λo d5=>?_,?_⟩
 .rcases P3 x hx with rfl|hx
  .rfl
  .exact h.aE x hx hl
 .rcases P3 x hx with rfl|wj
  .cases hs
  .cases hl:x.aF with
   |false=>rw[h.aE x wj hl]at hs;cases hs
   |true=>
    obtain⟨p,hp⟩:=aak wj;exact eG _ _ (h.cap x wj s hs hh) λn hv=>hb.nR.2 p x hp hl s hs hh n hv
 .obtain⟨i,hi⟩:=mem o d5;rcases qY i o hi with rfl|⟨y,h1,hM,hk,hs⟩
  .cases hq
  .rw[hs.all.2.2.2.2.1]at hq;exact eG _ _ (h.qu y (Vm h1) q hq hh) λn hv=>hb.cl.q i y hM h1 q.b8 n ⟨q,hq,hh,rfl⟩ hv
 .obtain⟨i,hi⟩:=mem o d5;rcases qY i o hi with rfl|⟨y,h1,hM,hk,hs⟩
  .cases h5
  .rw[hs.all.1]at h5;rw[hs.all.2.2.2.2.2.1,hR.1];exact h.pr y (Vm h1) h5
 .obtain⟨i,hi⟩:=mem o d5;rcases qY i o hi with rfl|⟨y,h1,hM,hk,hs⟩
  .exact⟨rfl,List.Pairwise.nil,λ_=>rfl,λe he=>by cases he⟩
  .have he:=h.en y (Vm h1);have oD:df o=df y:=by unfold df;rw[hs.all.2.2.1]
   refine⟨by rw[hs.all.2.2.1,oD];exact he.eq,by rw[oD];exact he.EB,λhn=>by rw[hs.all.2.2.1];exact he.dir (by rw[<-hs.all.1];exact hn),λe hx=>?_⟩
   rw[oD]at hx;obtain⟨h2,j,x,h3,h4,h5⟩:=he.to e hx;have uf:sE y e.2:=⟨e.1,by rw[he.eq];exact abl.2 ⟨e,hx,rfl⟩⟩
   obtain⟨x',h6,h7⟩:=ez j x h4 (hb.cl.e i y hM h1 e.2 j uf ⟨h3,x,h4,h5⟩) h5;exact⟨h2,j,x',h3,h6,by rw[h7.all.1];exact h5⟩
 .obtain⟨i,hi⟩:=mem o d5;rcases qY i o hi with rfl|⟨y,h1,hM,lS,hs⟩
  .rfl
  .exact absurd (hs.all.1▸hk) lS
 .obtain⟨y,h1,h2⟩:=hL.get hi;rcases ig h.z b h1 with⟨h3,_⟩|⟨hM,hk,h5⟩
  .rw[h2,h3]at h4;cases h4
  .rcases h5 with⟨h5,h6⟩|⟨h5,_⟩
   .rw[h2,h5]at h4|-;rcases h.pe i y h1 h4 with h7|⟨j,x,h7,h8,h9,Rj⟩
    .exact .inl h7
    .refine .inr ⟨j,cF b k.l k.l.length j x,h7,hL.2 j x h8,?_⟩;have Yg:=h6 h4 j x h7 h8 om;rcases ig h.z b h8 with⟨_,Na|Na⟩|⟨_,_,⟨Na,_⟩|⟨_,_,j',x',Fo,FB,PR⟩⟩
     .omega
     .exact absurd Yg Na
     .rw[Na];exact⟨h9,Rj⟩
     .have:j'=i:=om;subst this;exact absurd hM PR
   .rw[h2,h5];exact .inl rfl
 .obtain⟨t,ht⟩:=aak d5;obtain⟨x,h1,h2⟩:=hP.get ht;rw[h2,zT];split
  .exact⟨aew _,by show(0:Int)<=64;omega⟩
  .exact h.di x (Vm h1)
 .obtain⟨i,hi⟩:=mem o d5;rcases qY i o hi with rfl|⟨y,h1,hM,hk,hs⟩
  .exact S9
  .rw[hs.all.2.1];exact h.P2 y (Vm h1)
 .obtain⟨r,C7,vX⟩:=h.ay;refine h.p5.sub (M:=dv b.O) (hb.nR.1 0 ⟨rfl,r,C7,om⟩) (λi d e j hM hd he hj=>?_) (λi d hM hd hk=>?_) (λi d' BP=>?_)
  .obtain⟨o,h1,rfl⟩:=oT hd;have l4:=h.en o (Vm h1);obtain⟨_,j',x,h3,h4,h5⟩:=l4.to e he;have:j'=j:=om;subst this;exact hb.cl.e i o hM h1 e.2 j' ⟨e.1,by rw[l4.eq];exact abl.2 ⟨e,he,rfl⟩⟩ ⟨h3,x,h4,h5⟩
  .obtain⟨o,h1,rfl⟩:=oT hd;obtain⟨x,h2,h3⟩:=ez i o h1 hM hk;rw[<-h3.sk];exact gE h2
  .obtain⟨x,h1,rfl⟩:=oT BP;rcases qY i x h1 with rfl|⟨y,h2,hM,hk,hs⟩
   .exact .inl rfl
   .exact .inr ⟨by rw[hs.sk];exact gE h2,hM⟩
theorem y5{α:Type}{l:List α}{n i:Nat}{x:α}(h:(l.take n)[i]? =some x):l[i]? =some x/\i<n:=by
 rw[abK]at h;split at h
 .exact⟨h,by assumption⟩
 .cases h
theorem EQ{α:Type}{l:List α}{n i:Nat}{x:α}(h:l[i]? =some x)(hi:i<n):(l.take n)[i]? =some x:=by rw[abK,if_pos hi];exact h
theorem Mj(O:List Obj)(k t:Nat)(x:aL):gd O k t x=fl\/gd O k t x=x:=by
 unfold gd;split
 .exact .inl rfl
 .exact .inr rfl
theorem KI.gu{c d:Kr}(h:KI c)(hf:gU c d):KI d:=by
 obtain⟨n1,n2,n3,P,h1,h2,h3,h4,rfl⟩:=hf.ex;have ez:∀(i:Nat)o,c.l[i]? =some o->o.ah≠0->(c.l.take n1)[i]? =some o:=λi o ho hk=>EQ ho (aea λhle=>hk (by simpa[qO]using h1.t.dr i o hle ho))
 have q0:∀z,gJ c.l z->gJ (c.l.take n1) z:=λz⟨j,x,a1,a2,a3⟩=>⟨j,x,a1,ez j x a2 a3,a3⟩
 have eG:∀z r,fS c z r->fS ⟨c.l.take n1,c.ops.take n2,P.take n3⟩ z r:=λz r⟨hr,n,o,a1,a2,a3⟩=>by
  refine⟨hr,n,o,a1,EQ a2 (aea λhle=>?_),q0 _ a3⟩
  have hq:=h2.t.dr n o hle a2;obtain⟨j,_,e,_⟩:=a3;simp only[qP,decide_eq_true_eq]at hq;omega
 have dD:=h.pos;have po:1<=n1:=by have:=h1.t.mn;omega
 have Z1:P.length=c.ps.length:=h3.1;have i3:0<c.ps.length:=aet.2 h.ne;have Ri:1<=n3:=by have:=h4.t.mn;omega
 have ajP:=h4.t.le;have P3:∀x,x∈P.take n3->x=fl\/x∈c.ps:=λx hx=>by
  obtain⟨t,ht⟩:=aak (ab0 hx);obtain⟨o,a1,a2⟩:=h3.get ht;rcases Mj (c.l.take n1) c.ps.length t o with a3|a3
  .exact .inl (a2.trans a3)
  .exact .inr (by rw[a2,a3];exact Vm a1)
 have kr:=hf.kr h.kr;refine⟨?_,?_,?_,kr.sm,kr.sl,kr.ne,λx hx hl=>?_,λx hx s hs hh=>?_,λo ho q hq hh=>eG _ _ (h.qu o (ab0 ho) q hq hh),λo ho h5=>?_,λo ho=>?_,λo ho hk=>h.z o (ab0 ho) hk,λi o hi hk=>?_,λo ho=>h.di o (ab0 ho),λo ho=>h.P2 o (ab0 ho),?_⟩
 .show(c.l.take n1).length<=40;rw[aa8];have:=h.ll;omega
 .show(c.ops.take n2).length<=60;rw[aa8];have:=h.lo;omega
 .show(P.take n3).length<=8;rw[aa8];have:=h.lp;omega
 .rcases P3 x hx with rfl|hx
  .rfl
  .exact h.aE x hx hl
 .rcases P3 x hx with rfl|hx
  .cases hs
  .exact eG _ _ (h.cap x hx s hs hh)
 .obtain⟨n,a1,a2⟩:=h.pr o (ab0 ho) h5;refine⟨n,a1,?_⟩;show n<(P.take n3).length;rw[aa8];refine Nat.lt_min.2 ⟨aea λhle=>?_,om⟩
  have hq:=h4.t.dr n P[n] hle (wy om);simp only[qR,aaL,aco]at hq;have:(c.l.take n1).any (cN (n:Int))=true:=abP.2 ⟨o,ho,by simp[cN,h5,a1]⟩
  rw[this]at hq;cases hq.2
 .have he:=h.en o (ab0 ho);refine⟨he.eq,he.EB,he.dir,λe hx=>?_⟩
  obtain⟨a0,j,x,a1,a2,a3⟩:=he.to e hx;exact⟨a0,j,x,a1,ez j x a2 a3,a3⟩
 .obtain⟨a1,a2⟩:=y5 hi;rcases h.pe i o a1 hk with a3|⟨j,x,a3,a4,a5,a6⟩
  .exact .inl a3
  .exact .inr ⟨j,x,a3,ez j x a4 om,a5,a6⟩
 .show Tree ((c.l.take n1).map t7);rw[ac7];refine h.p5.take po λi d hle hd=>?_
  obtain⟨o,a1,rfl⟩:=oT hd;have:=h1.t.dr i o hle a1;show o.ah=0;simpa[qO]using this
theorem KI.to{k a:Kr}(h:KI k)(h1:gT k a):KI a:=by
 induction h1 with
 |refl=>exact h
 |step _ ho ih=>exact ih.zU ho
theorem KI.tM{k:Kr}(h:KI k):KI (eC k):=by obtain⟨a,c,h1,h2,h3⟩:=(eP h.kr).ex;exact((h.to h1).zU h2).gu h3
end Kn
namespace Kn
theorem wP{l:List Ob}{aB:Nat}{aC follow:Bool}{rec:Nat->List bT.dP->Nat->R4}{A:Nat->Prop}{Q:R4->Prop}(h0:∀e,e≠0->Q (R4.no e))(h1:∀a,A a->Q ⟨a,A3 l a,[],0⟩)(h2:∀a w,A a->(mf l a).ah=2->mG l a w<0->Q ⟨-1,a,w,0⟩)(h3:∀a w,A a->(mf l a).ah=2->¬mG l a w<0->Q ⟨mG l a w,a,w,0⟩)(Ta:∀a,A a->(mf l a).ah=2->¬(aC=true/\a=aB)->A (A3 l a))(JM:∀a w,A a->(mf l a).ah=2->¬mG l a w<0->A (mG l a w).toNat)(BU:∀a rest k,A a->Q (rec a rest k)):∀(parts:List bT.dP)(a:Nat),A a->Q (Jy l aB aC follow rec parts a)
 | [],a,ha=>h1 a ha
 |w::rest,a,ha=>by
  rw[Jy];split
  .exact h0 11 (by decide)
  .rename_i hk;have hk:(mf l a).ah=2:=by simpa using hk
   split
   .split
    .exact h0 14 (by decide)
    .rename_i hf;exact wP h0 h1 h2 h3 Ta JM BU rest _ (Ta a ha hk hf)
   .split
    .rename_i hn;split
     .exact h0 6 (by decide)
     .exact h2 a w ha hk hn
    .rename_i hn;split
     .exact BU a rest _ ha
     .split
      .exact h3 a w ha hk hn
      .exact wP h0 h1 h2 h3 Ta JM BU rest _ (JM a w ha hk hn)
theorem JN{l:List Ob}{aB:Nat}{aC follow:Bool}{A:Nat->Prop}{Q:R4->Prop}(h0:∀e,e≠0->Q (R4.no e))(h1:∀a,A a->Q ⟨a,A3 l a,[],0⟩)(h2:∀a w,A a->(mf l a).ah=2->mG l a w<0->Q ⟨-1,a,w,0⟩)(h3:∀a w,A a->(mf l a).ah=2->¬mG l a w<0->Q ⟨mG l a w,a,w,0⟩)(Ta:∀a,A a->(mf l a).ah=2->¬(aC=true/\a=aB)->A (A3 l a))(JM:∀a w,A a->(mf l a).ah=2->¬mG l a w<0->A (mG l a w).toNat)(hr:aC=false->A 0):
  ∀(n:Nat)(parts:List bT.dP)(a:Nat),A a->Q (C8 l aB aC follow n parts a)
 |0,parts,a,ha=>wP h0 h1 h2 h3 Ta JM (λ_ _ _ _=>h0 13 (by decide)) parts a ha
 |n+1,parts,a,ha=>by
  refine wP h0 h1 h2 h3 Ta JM (λa rest k ha=>?_) parts a ha
  rw[SD];split
  .rename_i h;exact h0 _ h
  .split
   .exact h0 14 (by decide)
   .rename_i hf;refine JN h0 h1 h2 h3 Ta JM hr n _ _ ?_;split
    .rename_i ik;exact hr (by cases aC with|false=>rfl|true=>exact absurd ⟨ik,rfl⟩ hf)
    .exact ha
theorem Be{l:List Ob}{aB:Int}{s:bT.dP}{aC follow:Bool}{A:Nat->Prop}{Q:R4->Prop}(h0:∀e,e≠0->Q (R4.no e))(h1:∀a,A a->Q ⟨a,A3 l a,[],0⟩)(h2:∀a w,A a->(mf l a).ah=2->mG l a w<0->Q ⟨-1,a,w,0⟩)(h3:∀a w,A a->(mf l a).ah=2->¬mG l a w<0->Q ⟨mG l a w,a,w,0⟩)(Ta:∀a,A a->(mf l a).ah=2->¬(aC=true/\a=aB.toNat)->A (A3 l a))(JM:∀a w,A a->(mf l a).ah=2->¬mG l a w<0->A (mG l a w).toNat)(hr:aC=false->A 0)(hb:∀n:Nat,aB=n->n<l.length->(mf l n).ah=2->A n):Q (ri l aB s aC follow):=by
 rw[ri];split
 .rename_i hi;obtain⟨n,rfl,hn⟩:=xZ hi;split
  .exact h0 11 (by decide)
  .rename_i hk;have hk:(mf l n).ah=2:=by simpa using hk
   split
   .rename_i h;exact h0 _ h
   .split
    .exact h0 14 (by decide)
    .rename_i hf;refine JN h0 h1 h2 h3 Ta JM hr 6 _ _ ?_;split
     .rename_i ik;exact hr (by cases aC with|false=>rfl|true=>exact absurd ⟨ik,rfl⟩ hf)
     .exact hb n rfl hn hk
 .exact h0 6 (by decide)
theorem JO{l:List Obj}{n:Nat}{o:Obj}(h:l[n]? =some o):mf (l.map Obj.ob) n=o.ob:=by rw[mf,Qu,h];rfl
theorem P4{l:List Obj}{n:Nat}(h:(mf (l.map Obj.ob) n).ah≠0):∃o,l[n]? =some o/\mf (l.map Obj.ob) n=o.ob:=by
 cases ho:l[n]? with
 |none=>exfalso;apply h;rw[mf,Qu,ho];rfl
 |some o=>exact⟨o,rfl,JO ho⟩
theorem P5{l:List Obj}{n:Nat}{o:Obj}(h:l[n]? =some o):A3 (l.map Obj.ob) n=o.up.toNat:=by rw[A3,JO h];rfl
theorem Xc{l:List Obj}{n:Nat}{o:Obj}(h:l[n]? =some o)(w:bT.dP):mG (l.map Obj.ob) n w=eY (df o) (bT.cU w):=by rw[mG,JO h];rfl
theorem CJ{l:List Obj}{n:Nat}{o:Obj}(h:l[n]? =some o){w:bT.dP}(hf:¬mG (l.map Obj.ob) n w<0):∃e,e∈df o/\e.1.toList=(bT.cU w).toList/\mG (l.map Obj.ob) n w=e.2:=by
 rw[Xc h]at hf|-;rcases gS (df o) (bT.cU w)with⟨e,h1,h2,h3⟩|⟨h3,_⟩
 .exact⟨e,h1,h2,h3⟩
 .omega
def v6(l:List Obj)(a:Nat):Prop:=∃o,l[a]? =some o/\o.ah≠0
theorem KI.P6{k:Kr}(h:KI k){a:Nat}(ha:v6 k.l a):v6 k.l (A3 (k.l.map Obj.ob) a):=by
 obtain⟨o,h1,h2⟩:=ha;rw[P5 h1];rcases h.p5.ux a (t7 o) (gE h1)with h3|h3|⟨_,u,x,e,h3,h4,h5,_⟩
 .have h3:o.up=a:=h3;rw[h3];exact⟨o,h1,h2⟩
 .have h3:o.up=0:=h3;rw[h3];obtain⟨r,h4,h5⟩:=h.ay;exact⟨r,h4,om⟩
 .have h3:o.up=u:=h3;rw[h3];obtain⟨y,h6,rfl⟩:=oT h4;refine⟨y,h6,λhz=>?_⟩
  have:=h.z y (Vm h6) hz;subst this;cases h5
theorem KI.Bf{k:Kr}(h:KI k){a:Nat}{w:bT.dP}(ha:v6 k.l a)(hf:¬mG (k.l.map Obj.ob) a w<0):v6 k.l (mG (k.l.map Obj.ob) a w).toNat/\0<=mG (k.l.map Obj.ob) a w:=by obtain⟨o,h1,_⟩:=ha;obtain⟨e,h3,_,h4⟩:=CJ h1 hf;obtain⟨_,j,x,h5,h6,h7⟩:=(h.en o (Vm h1)).to e h3;rw[h4,h5];exact⟨⟨x,h6,h7⟩,om⟩
theorem KI.Tc{k:Kr}(h:KI k)(aB:Int)(s:bT.dP)(aC follow:Bool):(fb k aB s aC follow).gz=0->(fb k aB s aC follow).obj= -1\/gJ k.l (fb k aB s aC follow).obj:=by
 refine Be (A:=v6 k.l) (Q:=λr=>r.gz=0->r.obj= -1\/gJ k.l r.obj) (λe he h0=>absurd h0 he) (λa⟨o,h1,h2⟩ _=>.inr ⟨a,o,rfl,h1,h2⟩) (λ_ _ _ _ _ _=>.inl rfl) (λa w ha _ hf _=>?_)
  (λa ha _ _=>h.P6 ha) (λa w ha _ hf=>(h.Bf ha hf).1) (λ_=>?_) (λn _ hn hk=>?_)
 .obtain⟨⟨o,h1,h2⟩,h3⟩:=h.Bf ha hf;exact .inr ⟨_,o,by show mG _ _ _=_;omega,h1,h2⟩
 .obtain⟨r,h4,h5⟩:=h.ay;exact⟨r,h4,om⟩
 .obtain⟨o,h1,h2⟩:=P4 (l:=k.l) (n:=n) (by rw[hk];decide)
  rw[h2]at hk;have hk:o.ah=2:=hk;exact⟨o,h1,om⟩
theorem fS.at{k:Kr}{z r:Int}(h:fS k z r):∃n j:Nat,z=n/\n<k.ops.length/\li k.ops n=j/\j<k.l.length:=by obtain⟨_,n,o,h1,h2,j,x,h3,h4,_⟩:=h;refine⟨n,j,h1,(Lw.1 h2).1,?_,(Lw.1 h4).1⟩;rw[li,aal,h2];exact h3
theorem KI.eG{k:Kr}(h:KI k){p:Nat}{s:dJ}(hs:s∈aO k.ps p)(hh:s.has=true):fS k s.b8 s.rts:=by
 unfold aO at hs;cases hp:k.ps[p]? with
 |none=>rw[hp]at hs;cases hs
 |some x=>rw[hp]at hs;exact h.cap x (Vm hp) s hs hh
theorem KI.kw{k:Kr}(h:KI k){p:Nat}(hp:p<k.ps.length):KW k p:=
 ⟨h.kr,h.ll,h.EB,h.lk,λo ho e he=>((h.en o ho).to e he).1,hp,λs hs hh=>(h.eG hs hh).at⟩
end Kn
namespace Kn
theorem HP.mono{l l':List Obj}{o:Obj}(h:HP l o)(hm:∀(j:Nat)x,l[j]? =some x->x.ah≠0->∃y,l'[j]? =some y/\y.ah≠0):HP l' o:=
 ⟨h.eq,h.EB,h.dir,λe he=>by obtain⟨h1,j,x,h2,h3,h4⟩:=h.to e he;obtain⟨y,h5,h6⟩:=hm j x h3 h4;exact⟨h1,j,y,h2,h5,h6⟩⟩
structure Xd(k:Kr)(l':List Obj)(x:Obj):Prop where
 sm:x.sm
 d:x.data.length<=60
 q:∀q,q∈x.aj->q.has=true->fS k q.b8 q.rts
 p:x.ah=5->∃n:Nat,x.aQ=n/\n<k.ps.length
 e:HP l' x
 z:x.ah=0->x=dS
theorem KI.obj{k:Kr}(h:KI k){l':List Obj}(hm:∀(j:Nat)x,k.l[j]? =some x->x.ah≠0->∃y,l'[j]? =some y/\y.ah≠0){x:Obj}(hx:x∈k.l):Xd k l' x:=
 ⟨h.sm x hx,h.P2 x hx,h.qu x hx,h.pr x hx,(h.en x hx).mono hm,h.z x hx⟩
theorem fS.mono{k k':Kr}{z r:Int}(h:fS k z r)(ho:∀(n:Nat)o,k.ops[n]? =some o->gJ k.l o.obj->∃o',k'.ops[n]? =some o'/\gJ k'.l o'.obj):fS k' z r:=by obtain⟨h0,n,o,h1,h2,h3⟩:=h;obtain⟨o',h4,h5⟩:=ho n o h2 h3;exact⟨h0,n,o',h1,h4,h5⟩
theorem gJ.mono{l l':List Obj}{z:Int}(h:gJ l z)(hm:∀(j:Nat)x,l[j]? =some x->x.ah≠0->∃y,l'[j]? =some y/\y.ah≠0):gJ l' z:=by obtain⟨j,x,h1,h2,h3⟩:=h;obtain⟨y,h4,h5⟩:=hm j x h2 h3;exact⟨j,y,h1,h4,h5⟩
theorem KI.q0{k:Kr}(h:KI k){l':List Obj}(h40:l'.length<=40)(hm:∀(j:Nat)x,k.l[j]? =some x->x.ah≠0->∃y,l'[j]? =some y/\y.ah≠0)(hx:∀x,x∈l'->Xd k l' x)(vy:∀(i:Nat)o,l'[i]? =some o->o.ah=4->o.aG= -1\/∃(j:Nat)(x:Obj),o.aG=j/\l'[j]? =some x/\x.ah=4/\x.aG=i)(ht:Tree (l'.map t7)):KI ⟨l',k.ops,k.ps⟩:=by
 have eG:∀z r,fS k z r->fS ⟨l',k.ops,k.ps⟩ z r:=λz r hc=>hc.mono λn o ho hi=>⟨o,ho,hi.mono hm⟩
 exact⟨h40,h.lo,h.lp,λo ho=>(hx o ho).sm,h.sl,h.ne,h.aE,λx hx s hs hh=>eG _ _ (h.cap x hx s hs hh),λo ho q hq hh=>eG _ _ ((hx o ho).q q hq hh),λo ho=>(hx o ho).p,λo ho=>(hx o ho).e,λo ho=>(hx o ho).z,vy,h.di,λo ho=>(hx o ho).d,ht⟩
theorem KI.Hw{k:Kr}(h:KI k){n:Nat}{o o':Obj}(ho:k.l[n]? =some o)(hs:o'.ah=o.ah/\o'.ag=o.ag/\o'.up=o.up/\o'.ak=o.ak/\o'.aG=o.aG/\o'.aQ=o.aQ)(hk:o.ah≠0)(qy:o'.sm)(hd:o'.data.length<=60)(hq:∀q,q∈o'.aj->q.has=true->fS k q.b8 q.rts):KI ⟨k.l.set n o',k.ops,k.ps⟩:=by
 obtain⟨s1,s2,s3,s4,s5,s6⟩:=hs;have hn:=(Lw.1 ho).1;have get:∀i:Nat,(k.l.set n o')[i]? =if i=n then some o' else k.l[i]? :=λi=>by
  by_cases e:i=n
  .subst e;rw[if_pos rfl,aaj hn]
  .rw[if_neg e,aam (λx=>e x.symm)]
 have hm:∀(j:Nat)x,k.l[j]? =some x->x.ah≠0->∃y,(k.l.set n o')[j]? =some y/\y.ah≠0:=λj x hx Xb=>by
  rw[get];by_cases e:j=n
  .rw[if_pos e];exact⟨o',rfl,by rw[s1];exact hk⟩
  .rw[if_neg e];exact⟨x,hx,Xb⟩
 have Ml:=Vm ho;refine h.q0 (by rw[abt];exact h.ll) hm (λx hx=>?_) (λi x hx h4=>?_) ?_
 .rcases abF hx with hx|rfl
  .exact h.obj hm hx
  .have he:=(h.en o Ml).mono hm;have oD:df x=df o:=by unfold df;rw[s2]
   exact⟨qy,hd,hq,λh5=>by rw[s6];exact h.pr o Ml (s1▸h5),⟨by rw[oD,s2];exact he.eq,by rw[oD];exact he.EB,λhn=>by rw[s2];exact he.dir (s1▸hn),λe hx=>he.to e (oD▸hx)⟩,λhz=>absurd (s1▸hz) hk⟩
 .have key:∀y:Obj,k.l[i]? =some y->y.ah=4->y.aG= -1\/∃(j:Nat)(x:Obj),y.aG=j/\(k.l.set n o')[j]? =some x/\x.ah=4/\x.aG=i:=λy hy Mm=>by
   rcases h.pe i y hy Mm with h1|⟨j,z,h1,h2,h3,h4⟩
   .exact .inl h1
   .right;by_cases e:j=n
    .subst e;rw[ho]at h2;cases h2;exact⟨j,o',h1,by rw[get,if_pos rfl],by rw[s1];exact h3,by rw[s5];exact h4⟩
    .exact⟨j,z,h1,by rw[get,if_neg e];exact h2,h3,h4⟩
  rw[get]at hx;by_cases e:i=n
  .rw[if_pos e]at hx;cases hx;rw[s5];exact key o (e▸ho) (s1▸h4)
  .rw[if_neg e]at hx;exact key x hx h4
 .have:(k.l.set n o').map t7=k.l.map t7:=by
   apply ab4;intro i;rw[Qu,Qu,get];by_cases e:i=n
   .subst e;rw[if_pos rfl,ho];show some _=some _;unfold t7 df;rw[s1,s2,s3,s4]
   .rw[if_neg e]
  rw[this];exact h.p5
theorem gq{l:List Obj}{o:Obj}(h:(aM l o).2.2=0)(hl:l.length<=40):∃j:Nat,(aM l o).2.1=j/\(aM l o).1[j]? =some o/\(∀i,i≠j->(aM l o).1[i]? =l[i]?)/\(∀d,l[j]? =some d->d.ah=0)/\(aM l o).1.length<=40/\(∀x,x∈(aM l o).1->x∈l\/x=o):=by
 have hm:∀x,x∈(aM l o).1->x∈l\/x=o:=λx=>A0
 revert h hm;unfold aM;split
 .rename_i k hk;intro _ hm;have lS:=abN.1 hk;refine⟨k,rfl,aaj lS.1,λi hi=>aam (λe=>hi e.symm),λd hd=>?_,by rw[abt];exact hl,λx hx=>hm x hx⟩
  rw[wy lS.1]at hd;cases hd;simpa using lS.2.1
 .split
  .intro h;cases h
  .rename_i h40;intro _ hm;refine⟨l.length,rfl,by rw[aaS (aai _)];simp,λi hi=>?_,λd hd=>?_,by simp only[abT,aa2,abO];omega,λx hx=>hm x hx⟩
   .rcases aax i l.length with h1|h1
    .exact aaW h1
    .rw[aaS h1,abj h1];cases e:i-l.length with
     |zero=>omega
     |succ n=>rfl
   .rw[abj (aai _)]at hd;cases hd
structure P7(k:Kr)(o:Obj):Prop where
 sm:o.sm
 kd:o.ah≠0
 e:o.ag=[]
 q:o.aj=[]
 d:o.data.length<=60
 l:o.ak=0
 u:o.up=0
 pe:o.ah=4->o.aG= -1
 p:o.ah=5->∃n:Nat,o.aQ=n/\n<k.ps.length
theorem KI.make{k:Kr}(h:KI k){o:Obj}(ho:P7 k o)(he:(aM k.l o).2.2=0):KI ⟨(aM k.l o).1,k.ops,k.ps⟩:=by
 obtain⟨j,_,h2,h3,h4,h5,h6⟩:=gq he h.ll;have hm:∀(i:Nat)x,k.l[i]? =some x->x.ah≠0->∃y,(aM k.l o).1[i]? =some y/\y.ah≠0:=λi x hx hk=>by
  by_cases e:i=j
  .subst e;exact absurd (h4 x hx) hk
  .exact⟨x,by rw[h3 i e];exact hx,hk⟩
 refine h.q0 h5 hm (λx hx=>?_) (λi x hx Lc=>?_) ?_
 .rcases h6 x hx with hx|rfl
  .exact h.obj hm hx
  .exact⟨ho.sm,ho.d,λq hq=>(by rw[ho.q]at hq;cases hq),ho.p,⟨(by unfold df;rw[ho.e];rfl),(by unfold df;rw[ho.e];exact List.Pairwise.nil),λ_=>ho.e,λe he=>(by unfold df at he;rw[ho.e]at he;cases he)⟩,λhz=>absurd hz ho.kd⟩
 .by_cases e:i=j
  .subst e;rw[h2]at hx;cases hx;exact .inl (ho.pe Lc)
  .rw[h3 i e]at hx;rcases h.pe i x hx Lc with a|⟨n,y,a1,a2,a3,a4⟩
   .exact .inl a
   .exact .inr ⟨n,y,a1,by rw[h3 n λe=>by subst e;have:=h4 y a2;omega];exact a2,a3,a4⟩
 .refine h.p5.new (k:=j) (s:=t7 o) ⟨ho.kd,ho.l,by unfold t7 df;rw[ho.e];rfl,.inl ho.u⟩ (gE h2) (λi hi=>by rw[Qu,Qu,h3 i hi]) λd hd=>?_
  obtain⟨x,a1,rfl⟩:=oT hd;exact h4 x a1
theorem r8{l:List Obj}{z:Int}(h:nW l z 0=true):gJ l z:=by unfold nW gw at h;rw[aaL,aaL,decide_eq_true_eq,decide_eq_true_eq,O9]at h;obtain⟨h1,h2,h3⟩:=h;have hz:z.toNat<l.length:=om;rw[Qu,wy hz]at h3;simp only[aa3,aaL]at h3;refine⟨z.toNat,l[z.toNat],om,wy hz,?_⟩;have:=h3.1;simpa[Obj.ob]using this
theorem m7{b:Bool}{l:List Obj}{dir obj:Int}{name:ByteArray}(h:(cr b l dir name obj).2=0):∃(n p:Nat)(o q:Obj),dir=n/\obj=p/\l[n]? =some o/\l[p]? =some q/\q.ah≠0/\o.ah=2/\o.ak≠0/\b=true/\
  ¬eY (df o) name>=0/\o.ag.length<8/\(cr b l dir name obj).1=jp l n p name:=by
 have hr:=h;unfold cr at hr;by_cases h1:nW l dir 0=true
 .rw[if_pos h1]at hr;by_cases h2:nW l obj 0=true
  .rw[if_pos h2]at hr;obtain⟨n,o,rfl,hn,_⟩:=r8 h1;obtain⟨p,q,rfl,hp,hq⟩:=r8 h2;rw[aal,aal,hn]at hr;simp only[]at hr;have hR:cr b l n name p=yD b o (jp l n p name) name:=by unfold cr;rw[if_pos h1,if_pos h2,aal,aal,hn]
   unfold yD at hr;by_cases a1:o.ah≠2
   .rw[if_pos a1]at hr;cases hr
   rw[if_neg a1]at hr;by_cases a2:o.ak=0
   .rw[if_pos a2]at hr;cases hr
   rw[if_neg a2]at hr;by_cases a3:b=false
   .rw[if_pos a3]at hr;cases hr
   rw[if_neg a3]at hr;by_cases a4:eY (o.ag.map kO) name>=0
   .rw[if_pos a4]at hr;cases hr
   rw[if_neg a4]at hr;by_cases a5:o.ag.length>=8
   .rw[if_pos a5]at hr;cases hr
   exact⟨n,p,o,q,rfl,rfl,hn,hp,hq,by simpa using a1,a2,by simpa using a3,a4,om,by rw[hR,yD,if_neg a1,if_neg a2,if_neg a3,if_neg a4,if_neg a5]⟩
  .rw[if_neg h2]at hr;cases hr
 .rw[if_neg h1]at hr;cases hr
def ru(o:Obj)(name:ByteArray)(p:Nat):Obj:={o with ag:=(fW (name,(p:Int)) (df o)).map bP}
def JP(q:Obj)(n:Nat):Obj:={q with ak:=IntKind.i64.wrap (q.ak+1),up:=if q.ah=2 then(n:Int)else q.up}
theorem qK{l:List Obj}{n p:Nat}{o q:Obj}(hn:l[n]? =some o)(hp:l[p]? =some q)(t8:n≠p)(name:ByteArray):
  (jp l n p name)[n]? =some (ru o name p)/\(jp l n p name)[p]? =some (JP q n)/\(∀j,j≠n->j≠p->(jp l n p name)[j]? =l[j]?)/\(jp l n p name).length=l.length:=by
 have k8:=(Lw.1 hn).1;have eF:=(Lw.1 hp).1;have Mc:(l.set n (ru o name p))[p]? =some q:=by rw[aam t8];exact hp
 have e:jp l n p name=(l.set n (ru o name p)).set p (JP q n):=by
  unfold jp;rw[hn];simp only[];rw[show {o with ag:=(fW (name,(p:Int)) (o.ag.map kO)).map bP}=ru o name p from rfl,Mc]
  rfl
 rw[e];refine⟨?_,?_,λj h1 h2=>?_,aD⟩
 .rw[aam t8.symm,aaj k8]
 .rw[aaj (by simpa using eF)]
 .rw[aam (λe=>h2 e.symm),aam (λe=>h1 e.symm)]
theorem Bg(x:NE):∀es:List NE,x∈fW x es
 | []=>by simp[fW]
 |e::r=>by
  rw[fW];split
  .simp
  .exact adh _ (Bg x r)
theorem ER{x y:NE}:∀{es:List NE},y∈es->y∈fW x es
 | [],h=>by cases h
 |e::r,h=>by
  rw[fW];split
  .exact adh _ h
  .rcases abI.1 h with rfl|h
   .simp
   .exact adh _ (ER h)
theorem HQ{es:List NE}{name:ByteArray}(dD:∀e,e∈es->0<=e.2)(h:¬eY es name>=0):∀e,e∈es->e.1.toList≠name.toList:=by
 rcases gS es name with⟨e,he,_,h2⟩|⟨_,h2⟩
 .have:=dD e he;rw[h2]at h;omega
 .exact h2
theorem KI.enter{k:Kr}(h:KI k){b:Bool}{dir obj:Int}{name:ByteArray}(IM:b=true->name.size<=12)(tZ:∀(p:Nat)q,obj=p->k.l[p]? =some q->q.ak=0)(he:(cr b k.l dir name obj).2=0):KI ⟨(cr b k.l dir name obj).1,k.ops,k.ps⟩:=by
 obtain⟨n,p,o,q,rfl,rfl,hn,hp,FC,km,i7,hb,hf,h8,hR⟩:=m7 he;have Yq:=tZ p q rfl hp;have t8:n≠p:=λe=>by subst e;rw[hn]at hp;cases hp;exact i7 Yq
 rw[hR];obtain⟨g1,g2,g3,g4⟩:=qK hn hp t8 name;have Ml:=Vm hn;have Td:=Vm hp;have l4:=h.en o Ml;have Mh:q.ag=[]:=by have:=h.p5.em p (t7 q) (gE hp) Yq;have h2:=(h.en q Td).eq;have this:df q=[]:=this;rw[this]at h2;exact h2
 have v7:df (ru o name p)=fW (name,(p:Int)) (df o):=by unfold df ru;exact ib _
 have P8:df (JP q n)=df q:=rfl;have hw:IntKind.i64.wrap (q.ak+1)=1:=by rw[Yq];rfl
 have hm:∀(j:Nat)x,k.l[j]? =some x->x.ah≠0->∃y,(jp k.l n p name)[j]? =some y/\y.ah≠0:=λj x hx hk=>by
  by_cases e:j=n
  .subst e;rw[hn]at hx;cases hx;exact⟨_,g1,hk⟩
  .by_cases e2:j=p
   .subst e2;rw[hp]at hx;cases hx;exact⟨_,g2,hk⟩
   .exact⟨x,by rw[g3 j e e2];exact hx,hk⟩
 have qY:∀(i:Nat)x,(jp k.l n p name)[i]? =some x->(i=n/\x=ru o name p)\/(i=p/\x=JP q n)\/(i≠n/\i≠p/\k.l[i]? =some x):=λi x hx=>by
  by_cases e:i=n
  .subst e;rw[g1]at hx;cases hx;exact .inl ⟨rfl,rfl⟩
  .by_cases e2:i=p
   .subst e2;rw[g2]at hx;cases hx;exact .inr (.inl ⟨rfl,rfl⟩)
   .rw[g3 i e e2]at hx;exact .inr (.inr ⟨e,e2,hx⟩)
 have dD:∀e,e∈df o->0<=e.2:=λe hx=>by obtain⟨_,j,_,h1,_⟩:=l4.to e hx;omega
 refine h.q0 (by rw[g4];exact h.ll) hm (λx hx=>?_) (λi x hx h4=>?_) ?_
 .obtain⟨i,hi⟩:=aak hx;rcases qY i x hi with⟨rfl,rfl⟩|⟨rfl,rfl⟩|⟨_,_,hx⟩
  .have hO:=h.obj hm Ml;refine⟨⟨⟨hO.sm.t.1,⟨_,rfl⟩,hO.sm.t.2.2⟩,hO.sm.d,?_,hO.sm.q,hO.sm.qd⟩,hO.d,hO.q,hO.p,?_,λhz=>absurd hz (by rw[show(ru o name p).ah=o.ah from rfl,km];decide)⟩
   .show((fW (name,(p:Int)) (df o)).map bP).length<=8;rw[O9,DX,l4.len];omega
   .refine⟨by rw[v7];rfl,by rw[v7];exact Ow l4.EB (HQ dD hf),λhk=>absurd km hk,λe hx=>?_⟩
    rw[v7]at hx;rcases pJ hx with hx|rfl
    .exact hO.e.to e hx
    .exact⟨IM hb,p,_,rfl,g2,FC⟩
  .have hO:=h.obj hm Td;exact⟨⟨hO.sm.t,hO.sm.d,hO.sm.e,hO.sm.q,hO.sm.qd⟩,hO.d,hO.q,hO.p,⟨hO.e.eq,hO.e.EB,hO.e.dir,hO.e.to⟩,λhz=>absurd hz FC⟩
  .exact h.obj hm (Vm hx)
 .have key:∀(i:Nat)y,k.l[i]? =some y->y.ah=4->y.aG= -1\/∃(j:Nat)(x:Obj),y.aG=j/\(jp k.l n p name)[j]? =some x/\x.ah=4/\x.aG=i:=λi y hy Mm=>by
   rcases h.pe i y hy Mm with h1|⟨j,z,h1,h2,h3,h4⟩
   .exact .inl h1
   .right;by_cases e:j=n
    .subst e;rw[hn]at h2;cases h2;omega
    .by_cases e2:j=p
     .subst e2;rw[hp]at h2;cases h2;exact⟨j,_,h1,g2,h3,h4⟩
     .exact⟨j,z,h1,by rw[g3 j e e2];exact h2,h3,h4⟩
  rcases qY i x hx with⟨rfl,rfl⟩|⟨rfl,rfl⟩|⟨_,_,hx⟩
  .exact key _ o hn h4
  .exact key _ q hp h4
  .exact key i x hx h4
 .refine h.p5.enter (nm:=name) (gE hn) (gE hp) i7 Yq FC (gE g1) (gE g2) (λj a b=>by rw[Qu,Qu,g3 j a b]) ⟨rfl,rfl,rfl⟩ (λe=>?_) ⟨rfl,hw,P8,rfl⟩
  show e∈df (ru o name p)↔_;rw[v7];exact⟨pJ,λhx=>hx.elim ER λhx=>hx▸Bg _ _⟩
end Kn
namespace Kn
theorem tN{l:List Obj}{dir:Int}{name:ByteArray}(h:(db l dir name).2.2=0):∃(n k:Nat)(o q:Obj),dir=n/\l[n]? =some o/\o.ah=2/\eY (df o) name=k/\l[k]? =some q/\¬(q.ah=2/\q.ag.length>0)/\
  (db l dir name).1=mh l n k name/\(db l dir name).2.1=k:=by
 have hr:=h;unfold db at hr;by_cases h1:nW l dir 0=true
 .rw[if_pos h1]at hr;obtain⟨n,o,rfl,hn,_⟩:=r8 h1;rw[aal,hn]at hr;simp only[]at hr;have hR:db l n name=yJ o l n name:=by unfold db;rw[if_pos h1,aal,hn]
  unfold yJ at hr;by_cases a1:o.ah≠2
  .rw[if_pos a1]at hr;cases hr
  rw[if_neg a1]at hr;by_cases a2:eY (o.ag.map kO) name<0
  .rw[if_pos a2]at hr;cases hr
  rw[if_neg a2]at hr;cases hq:l[(eY (o.ag.map kO) name).toNat]? with
  |none=>rw[hq]at hr;cases hr
  |some q=>
   rw[hq]at hr;simp only[]at hr;by_cases a3:q.ah=2/\q.ag.length>0
   .rw[if_pos a3]at hr;cases hr
   have hk:eY (o.ag.map kO) name=((eY (o.ag.map kO) name).toNat:Nat):=om;refine⟨n,_,o,q,rfl,hn,by simpa using a1,hk,hq,a3,?_,?_⟩
   .rw[hR,yJ,if_neg a1,if_neg a2,hq];simp only[if_neg a3]
   .rw[hR,yJ,if_neg a1,if_neg a2,hq];simp only[if_neg a3];exact hk
 .rw[if_neg h1]at hr;cases hr
def tO(o:Obj)(name:ByteArray):Obj:={o with ag:=((df o).filter λe=>decide (e.1.toList≠name.toList)).map bP}
def JQ(q:Obj)(p:Nat):Obj:={q with ak:=IntKind.i64.wrap (q.ak-1),up:=if q.ah=2 then(p:Int)else q.up}
theorem Bh{l:List Obj}{n p:Nat}{o q:Obj}(hn:l[n]? =some o)(hp:l[p]? =some q)(t8:n≠p)(name:ByteArray):
  (mh l n p name)[n]? =some (tO o name)/\(mh l n p name)[p]? =some (JQ q p)/\(∀j,j≠n->j≠p->(mh l n p name)[j]? =l[j]?)/\(mh l n p name).length=l.length:=by
 have k8:=(Lw.1 hn).1;have eF:=(Lw.1 hp).1;have Mc:(l.set n (tO o name))[p]? =some q:=by rw[aam t8];exact hp
 have e:mh l n p name=(l.set n (tO o name)).set p (JQ q p):=by
  unfold mh;rw[hn];simp only[];rw[show {o with ag:=((o.ag.map kO).filter λe=>decide (e.1.toList≠name.toList)).map bP}=tO o name from rfl,Mc]
  rfl
 rw[e];refine⟨?_,?_,λj h1 h2=>?_,aD⟩
 .rw[aam t8.symm,aaj k8]
 .rw[aaj (by simpa using eF)]
 .rw[aam (λe=>h2 e.symm),aam (λe=>h1 e.symm)]
theorem KI.y0{k:Kr}(h:KI k){dir:Int}{name:ByteArray}(he:(db k.l dir name).2.2=0):KI ⟨(db k.l dir name).1,k.ops,k.ps⟩:=by
 obtain⟨n,p,o,q,rfl,hn,km,hf,hp,Mh,hR,_⟩:=tN he;have Ml:=Vm hn;have Td:=Vm hp;have l4:=h.en o Ml;obtain⟨e0,vR,RM,hep⟩:∃e0,e0∈df o/\e0.1.toList=name.toList/\e0.2=(p:Int):=by
  rcases gS (df o) name with⟨e,a1,a2,a3⟩|⟨a3,_⟩
  .exact⟨e,a1,a2,om⟩
  .omega
 have Yq:q.ag=[]:=by
  by_cases hk:q.ah=2
  .exact aaX (by
    have:=λh=>Mh ⟨hk,h⟩
    omega)
  .exact(h.en q Td).dir hk
 have hqn:df q=[]:=by unfold df;rw[Yq];rfl
 have t8:n≠p:=λe=>by subst e;rw[hn]at hp;cases hp;rw[hqn]at vR;cases vR
 obtain⟨p',x,b1,_,b3,FC,I6,_⟩:=h.p5.tr n (t7 o) e0 (gE hn) vR;have:p'=p:=om;subst this;rw[gE hp]at b3;cases b3;have FC:q.ah≠0:=FC;have I6:q.ak=1:=I6;rw[hR];obtain⟨g1,g2,g3,g4⟩:=Bh hn hp t8 name;have v7:df (tO o name)=(df o).filter λe=>decide (e.1.toList≠name.toList):=by
  show((((df o).filter λe=>decide (e.1.toList≠name.toList)).map bP).map kO)=_
  exact ib _
 have kR:∀e,e∈df (tO o name)↔e∈df o/\e≠e0:=λe=>by rw[v7,acD,decide_eq_true_eq];refine⟨λ⟨a,b⟩=>⟨a,λe1=>by subst e1;exact b RM⟩,λ⟨a,b⟩=>⟨a,λe1=>b (xX l4.EB a vR (e1.trans RM.symm))⟩⟩
 have P8:df (JQ q p')=[]:=hqn;have hw:IntKind.i64.wrap (q.ak-1)=0:=by rw[I6];rfl
 have hm:∀(j:Nat)x,k.l[j]? =some x->x.ah≠0->∃y,(mh k.l n p' name)[j]? =some y/\y.ah≠0:=λj x hx hk=>by
  by_cases e:j=n
  .subst e;rw[hn]at hx;cases hx;exact⟨_,g1,hk⟩
  .by_cases e2:j=p'
   .subst e2;rw[hp]at hx;cases hx;exact⟨_,g2,hk⟩
   .exact⟨x,by rw[g3 j e e2];exact hx,hk⟩
 have qY:∀(i:Nat)x,(mh k.l n p' name)[i]? =some x->(i=n/\x=tO o name)\/(i=p'/\x=JQ q p')\/(i≠n/\i≠p'/\k.l[i]? =some x):=λi x hx=>by
  by_cases e:i=n
  .subst e;rw[g1]at hx;cases hx;exact .inl ⟨rfl,rfl⟩
  .by_cases e2:i=p'
   .subst e2;rw[g2]at hx;cases hx;exact .inr (.inl ⟨rfl,rfl⟩)
   .rw[g3 i e e2]at hx;exact .inr (.inr ⟨e,e2,hx⟩)
 refine h.q0 (by rw[g4];exact h.ll) hm (λx hx=>?_) (λi x hx h4=>?_) ?_
 .obtain⟨i,hi⟩:=aak hx;rcases qY i x hi with⟨rfl,rfl⟩|⟨rfl,rfl⟩|⟨_,_,hx⟩
  .have hO:=h.obj hm Ml;refine⟨⟨⟨hO.sm.t.1,⟨_,rfl⟩,hO.sm.t.2.2⟩,hO.sm.d,?_,hO.sm.q,hO.sm.qd⟩,hO.d,hO.q,hO.p,?_,λhz=>absurd hz (by rw[show(tO o name).ah=o.ah from rfl,km];decide)⟩
   .show(((df o).filter λe=>decide (e.1.toList≠name.toList)).map bP).length<=8
    rw[O9];have:=acn (λe:NE=>decide (e.1.toList≠name.toList)) (df o)
    have:=l4.len;have:=hO.sm.e;omega
   .exact⟨by rw[v7];rfl,by rw[v7];exact l4.EB.filter _,λhk=>absurd km hk,λe hx=>hO.e.to e ((kR e).1 hx).1⟩
  .have hO:=h.obj hm Td;exact⟨⟨hO.sm.t,hO.sm.d,hO.sm.e,hO.sm.q,hO.sm.qd⟩,hO.d,hO.q,hO.p,⟨hO.e.eq,hO.e.EB,hO.e.dir,hO.e.to⟩,λhz=>absurd hz FC⟩
  .exact h.obj hm (Vm hx)
 .have key:∀(i:Nat)y,k.l[i]? =some y->y.ah=4->y.aG= -1\/∃(j:Nat)(x:Obj),y.aG=j/\(mh k.l n p' name)[j]? =some x/\x.ah=4/\x.aG=i:=λi y hy Mm=>by
   rcases h.pe i y hy Mm with h1|⟨j,z,h1,h2,h3,h4⟩
   .exact .inl h1
   .right;by_cases e:j=n
    .subst e;rw[hn]at h2;cases h2;omega
    .by_cases e2:j=p'
     .subst e2;rw[hp]at h2;cases h2;exact⟨j,_,h1,g2,h3,h4⟩
     .exact⟨j,z,h1,by rw[g3 j e e2];exact h2,h3,h4⟩
  rcases qY i x hx with⟨rfl,rfl⟩|⟨rfl,rfl⟩|⟨_,_,hx⟩
  .exact key _ o hn h4
  .exact key _ q hp h4
  .exact key i x hx h4
 .exact h.p5.y0 (gE hn) vR hep (gE hp) hqn (gE g1) (gE g2) (λj a b=>by rw[Qu,Qu,g3 j a b]) ⟨rfl,rfl,rfl⟩ kR ⟨rfl,hw,P8,rfl⟩
theorem P9(k:Kr):P7 k (bg (-1)):=⟨⟨⟨⟨[],rfl⟩,⟨[],rfl⟩,by simp[bg]⟩,by simp[bg],by simp[bg],by simp[bg],by simp[bg]⟩,by simp[bg],rfl,rfl,by simp[bg],rfl,rfl,λ_=>rfl,λh=>by simp[bg]at h⟩
structure aaY(l:List Obj)(P:List Obj×(Int×Int)×Int)(a b:Nat):Prop where
 ea:P.2.1.1=a
 eb:P.2.1.2=b
 ab:a≠b
 za:∀d,l[a]? =some d->d.ah=0
 zb:∀d,l[b]? =some d->d.ah=0
 ga:P.1[a]? =some (bg b)
 gb:P.1[b]? =some (bg a)
 go:∀i,i≠a->i≠b->P.1[i]? =l[i]?
 m:∀x,x∈P.1->x∈l\/x=bg b\/x=bg a
 ll:P.1.length<=40
theorem y6{l:List Obj}(hl:l.length<=40)(h:(eV l).2.2=0):(aM l (bg (-1))).2.2=0/\∃a b:Nat,(aM l (bg (-1))).2.1=a/\aaY l (eV l) a b/\(∀d,(aM l (bg (-1))).1[b]? =some d->d.ah=0):=by
 unfold eV at h;by_cases h1:(aM l (bg (-1))).2.2=0
 .refine⟨h1,?_⟩;rw[if_neg (by simp[h1])]at h
  obtain⟨a,e1,a2,a3,a4,a5,a6⟩:=gq h1 hl;by_cases h2:(aM (aM l (bg (-1))).1 (bg (aM l (bg (-1))).2.1)).2.2=0
  .obtain⟨b,b1,b2,b3,b4,b5,b6⟩:=gq h2 a5;have Fx:a≠b:=λe=>by subst e;have:=b4 _ a2;simp[bg]at this
   have hP:eV l=(lB (aM (aM l (bg (-1))).1 (bg (aM l (bg (-1))).2.1)).1 a b,((a:Int),(b:Int)),0):=by
    rw[eV,if_neg (by simp[h1]),if_neg (by simp[h2]),e1]
    rw[e1]at b1;rw[b1,aal]
   rw[e1]at b2 b3 hP b5 b6;have ha:(aM (aM l (bg (-1))).1 (bg (a:Int))).1[a]? =some (bg (-1)):=by rw[b3 a Fx];exact a2
   have hal:=(Lw.1 ha).1;have zO:lB (aM (aM l (bg (-1))).1 (bg (a:Int))).1 a b=(aM (aM l (bg (-1))).1 (bg (a:Int))).1.set a (bg b):=by rw[lB,ha];rfl
   rw[zO]at hP;refine⟨a,b,e1,?_,b4⟩;rw[hP];refine⟨rfl,rfl,Fx,a4,λd hd=>b4 d (by rw[a3 b (λe=>Fx e.symm)];exact hd),aaj hal,by rw[aam Fx];exact b2,λi h3 h4=>by rw[aam (λe=>h3 e.symm),b3 i h4,a3 i h3],λx hx=>?_,by rw[abt];exact b5⟩
   rcases abF hx with hx|hx
   .rcases b6 x hx with hx|hx
    .rcases a6 x hx with hx|hx
     .exact .inl hx
     .obtain⟨i,hi⟩:=aak (show x∈(aM (aM l (bg (-1))).1 (bg (a:Int))).1.set a (bg b)from by assumption)
      by_cases ea:i=a
      .subst ea;rw[aaj hal]at hi;cases hi;exact .inr (.inl rfl)
      .rw[aam (λe=>ea e.symm)]at hi
       by_cases eb:i=b
       .subst eb;rw[b2]at hi;cases hi;exact .inr (.inr rfl)
       .rw[b3 i eb,a3 i ea]at hi;exact .inl (Vm hi)
    .exact .inr (.inr hx)
   .exact .inr (.inl hx)
  .rw[if_pos h2]at h;exact absurd h h2
 .rw[if_pos h1]at h;exact absurd h h1
theorem KI.ES{k:Kr}(h:KI k)(he:(eV k.l).2.2=0):KI ⟨(eV k.l).1,k.ops,k.ps⟩/\gJ (eV k.l).1 (eV k.l).2.1.1/\gJ (eV k.l).1 (eV k.l).2.1.2:=by
 obtain⟨h1,a,b,e1,P,hzb⟩:=y6 h.ll he;have h2:=h.make (P9 k) h1;obtain⟨a',e1',a2,a3,a4,a5,a6⟩:=gq h1 h.ll;have:a'=a:=om;subst this;have hEK:∀p:Int,Xd k (eV k.l).1 (bg p):=λp=>⟨⟨⟨⟨[],rfl⟩,⟨[],rfl⟩,by simp[bg]⟩,by simp[bg],by simp[bg],by simp[bg],by simp[bg]⟩,by simp[bg],by simp[bg],λh=>by simp[bg]at h,⟨rfl,List.Pairwise.nil,λ_=>rfl,λe he=>by cases he⟩,λh=>by simp[bg]at h⟩
 have hm:∀(j:Nat)x,k.l[j]? =some x->x.ah≠0->∃y,(eV k.l).1[j]? =some y/\y.ah≠0:=λj x hx hk=>by
  have ea:j≠a':=λe=>by subst e;exact hk (P.za x hx)
  have eb:j≠b:=λe=>by subst e;exact hk (P.zb x hx)
  exact⟨x,by rw[P.go j ea eb];exact hx,hk⟩
 refine⟨h.q0 P.ll hm (λx hx=>?_) (λi x hx h4=>?_) ?_,⟨a',_,P.ea,P.ga,by simp[bg]⟩,⟨b,_,P.eb,P.gb,by simp[bg]⟩⟩
 .rcases P.m x hx with hx|rfl|rfl
  .exact h.obj hm hx
  .exact hEK _
  .exact hEK _
 .by_cases ea:i=a'
  .subst ea;rw[P.ga]at hx;cases hx;exact .inr ⟨b,_,rfl,P.gb,rfl,rfl⟩
  .by_cases eb:i=b
   .subst eb;rw[P.gb]at hx;cases hx;exact .inr ⟨a',_,rfl,P.ga,rfl,rfl⟩
   .rw[P.go i ea eb]at hx;rcases h.pe i x hx h4 with c|⟨j,y,c1,c2,c3,c4⟩
    .exact .inl c
    .refine .inr ⟨j,y,c1,?_,c3,c4⟩;rw[P.go j (λe=>by subst e;have:=P.za y c2;omega) (λe=>by subst e;have:=P.zb y c2;omega)]
     exact c2
 .refine h2.p5.new (k:=b) (s:=t7 (bg a')) ⟨by simp[t7,bg],rfl,rfl,.inl rfl⟩ (gE P.gb) (λj hj=>?_) λd hd=>?_
  .rw[Qu,Qu];by_cases ea:j=a'
   .subst ea;rw[P.ga,a2];rfl
   .rw[P.go j ea hj,a3 j ea]
  .obtain⟨x,c1,rfl⟩:=oT hd;exact hzb x c1
theorem y7{l:List Obj}{e:Int}{m:cy}(h:(eW l e m).2=0):∃(n p:Nat)(o q:Obj),e=n/\l[n]? =some o/\o.ah=4/\o.aG=p/\l[p]? =some q/\q.ah=4/\m.data.length<=60/\q.aj.length<4/\(eW l e m).1=l.set p {q with aj:=q.aj++ [m]}:=by
 have hr:=h;unfold eW at hr;by_cases h1:e<0\/e>=l.length
 .rw[if_pos h1]at hr;cases hr
 rw[if_neg h1]at hr;have hn:e.toNat<l.length:=om;have kj:=wy hn;rw[kj]at hr;simp only[]at hr;by_cases h2:l[e.toNat].ah≠4
 .rw[if_pos h2]at hr;cases hr
 rw[if_neg h2]at hr;by_cases h3:l[e.toNat].aG<0\/l[e.toNat].aG>=l.length
 .rw[if_pos h3]at hr;cases hr
 rw[if_neg h3]at hr;have hp:l[e.toNat].aG.toNat<l.length:=om;have hpo:=wy hp;rw[hpo]at hr;simp only[]at hr;by_cases h4:l[l[e.toNat].aG.toNat].ah≠4
 .rw[if_pos h4]at hr;cases hr
 rw[if_neg h4]at hr;by_cases h5:m.data.length>60
 .rw[if_pos h5]at hr;cases hr
 rw[if_neg h5]at hr;by_cases h6:l[l[e.toNat].aG.toNat].aj.length>=4
 .rw[if_pos h6]at hr;cases hr
 refine⟨e.toNat,l[e.toNat].aG.toNat,_,_,om,kj,by simpa using h2,om,hpo,by simpa using h4,om,om,?_⟩
 rw[eW,if_neg h1,kj];simp only[];rw[if_neg h2,if_neg h3,hpo];simp only[];rw[if_neg h4,if_neg h5,if_neg h6]
theorem KI.send{k:Kr}(h:KI k){e:Int}{m:cy}(ht:m.M1)(hc:m.has=true->fS k m.b8 m.rts)(he:(eW k.l e m).2=0):KI ⟨(eW k.l e m).1,k.ops,k.ps⟩:=by
 obtain⟨n,p,o,q,_,_,_,_,hp,hq4,Yb,I6,hR⟩:=y7 he;have Td:=Vm hp;have hs:=h.sm q Td;rw[hR];refine h.Hw hp ⟨rfl,rfl,rfl,rfl,rfl,rfl⟩ om ⟨⟨hs.t.1,hs.t.2.1,λx hx=>?_⟩,hs.d,hs.e,?_,λx hx=>?_⟩ (h.P2 q Td) λx hx hh=>?_
 .rcases abH.1 hx with hx|hx
  .exact hs.t.2.2 x hx
  .simp at hx;subst hx;exact ht
 .simp only[abT,aa2,abO];omega
 .rcases abH.1 hx with hx|hx
  .exact hs.qd x hx
  .simp at hx;subst hx;omega
 .rcases abH.1 hx with hx|hx
  .exact h.qu q Td x hx hh
  .simp at hx;subst hx;exact hc hh
theorem r9{l:List Obj}{e:Int}(h:(fH l e).2.2=0):∃(n:Nat)(o:Obj)(x:cy)(r:List cy),e=n/\l[n]? =some o/\o.ah=4/\o.aj=x::r/\(fH l e).1=l.set n {o with aj:=r}/\(fH l e).2.1=x:=by
 have hr:=h;unfold fH at hr;by_cases h1:e<0\/e>=l.length
 .rw[if_pos h1]at hr;cases hr
 rw[if_neg h1]at hr;have hn:e.toNat<l.length:=om;have kj:=wy hn;rw[kj]at hr;simp only[]at hr;by_cases h2:l[e.toNat].ah≠4
 .rw[if_pos h2]at hr;cases hr
 rw[if_neg h2]at hr;have hR:fH l e=(match l[e.toNat].aj with
  | []=>if l[e.toNat].aG<0\/l[e.toNat].aG>=l.length then([],nL,17)else match l[l[e.toNat].aG.toNat]? with
   |none=>([],nL,17)
   |some q=>if q.ah≠4 then([],nL,17)else([],nL,16)
  |x::r=>(l.set e.toNat {l[e.toNat]with aj:=r},x,0)):=by
  rw[fH,if_neg h1,kj];simp only[];rw[if_neg h2];rfl
 cases hq:l[e.toNat].aj with
 |nil=>
  rw[hq]at hr;simp only[]at hr;split at hr
  .cases hr
  .split at hr
   .cases hr
   .split at hr<;>cases hr
 |cons x r=>
  rw[hq]at hR;refine⟨e.toNat,_,x,r,om,kj,by simpa using h2,hq,?_,?_⟩<;>rw[hR]
theorem KI.recv{k:Kr}(h:KI k){e:Int}(he:(fH k.l e).2.2=0):KI ⟨(fH k.l e).1,k.ops,k.ps⟩/\((fH k.l e).2.1.has=true->fS k (fH k.l e).2.1.b8 (fH k.l e).2.1.rts):=by
 obtain⟨n,o,x,r,_,hn,ho4,hq,hR,hx⟩:=r9 he;have Ml:=Vm hn;have hs:=h.sm o Ml;rw[hR,hx];have ui:∀y,y∈r->y∈o.aj:=λy hy=>by rw[hq];exact adh _ hy
 refine⟨h.Hw hn ⟨rfl,rfl,rfl,rfl,rfl,rfl⟩ om ⟨⟨hs.t.1,hs.t.2.1,λy hy=>hs.t.2.2 y (ui y hy)⟩,hs.d,hs.e,?_,λy hy=>hs.qd y (ui y hy)⟩ (h.P2 o Ml) λy hy hh=>h.qu o Ml y (ui y hy) hh,λhh=>h.qu o Ml x (by rw[hq];simp) hh⟩
 have:=hs.q;rw[hq]at this;simp only[aa2]at this|-;omega
end Kn
def Obj.zY(o:Obj):Ob:=⟨o.ah,o.data,o.ag,o.target,o.aG,noD,o.aQ,o.ak,o.up⟩
def bN(l:List Obj):List Ob:=l.map Obj.zY
theorem fp(l:List Obj):(bN l).length=l.length:=O9 _
theorem JR{l:List Obj}{k:Nat}(h:k<l.length):(bN l)[k]'(by rw[fp];exact h)=l[k].zY:=List.getElem_map ..
def Te:List aL:=[⟨true,false,0,[]⟩,⟨true,false,0,[]⟩,⟨true,false,0,[]⟩]
structure GB(n:Nat)(l:List Obj):Prop where
 ki:Kn.KI ⟨l,[],Te⟩
 nz:∀o,o∈l->o.ah≠0
 q:∀o,o∈l->o.aj=[]
 pn:∀o,o∈l->o.ah=5->o.aQ<(n:Int)
theorem GB.mono{n n':Nat}{l:List Obj}(g:GB n l)(h:n<=n'):GB n' l:=⟨g.ki,g.nz,g.q,λo ho hk=>by have:=g.pn o ho hk;omega⟩
theorem y8{l:List Obj}(h:∀o,o∈l->o.ah≠0)(hl:l.length<40)(o:Obj):aM l o=(l++ [o],(l.length:Int),0):=by
 have hf:l.findIdx? (λx=>x.ah==0)=none:=acv.2 λx hx=>by simpa using h x hx
 rw[aM,hf];simp only[];rw[if_neg om]
theorem Qa{l:List Ob}{o:Ob}:fC l (l.length:Nat) o=l++ [o]:=by rw[fC,if_pos rfl]
theorem Qb{l:List Obj}(h:∀o,o∈l->o.ah≠0)(hl:l.length<40)(o:Obj):iH (bN l) o.zY=(bN (l++ [o]),(l.length:Int),0):=by
 have hf:oJ (bN l)=(bN l).length:=xY λj x _ hx=>by obtain⟨y,hy,rfl⟩:=abl.1 (Vm hx);exact h y hy
 rw[iH,hf,if_neg (by rw[fp];omega),Qa,fp]
 simp[bN]
theorem GB.len{n:Nat}{l:List Obj}(g:GB n l):l.length<=40:=g.ki.ll
structure Mn(n:Nat)(o:Obj):Prop where
 nw:∀l,Kn.P7 ⟨l,[],Te⟩ o
 p:o.ah=5->o.aQ<(n:Int)
theorem GB.aaZ{n:Nat}{l:List Obj}(g:GB n l){o:Obj}(ho:Mn n o)(hk:Kn.KI ⟨l++ [o],[],Te⟩):GB n (l++ [o]):=
 ⟨hk,λx hx=>by
  rcases abH.1 hx with hx|hx
  .exact g.nz x hx
  .rw[abQ.1 hx];exact(ho.nw l).kd,λx hx=>by
  rcases abH.1 hx with hx|hx
  .exact g.q x hx
  .rw[abQ.1 hx];exact(ho.nw l).q,λx hx h5=>by
  rcases abH.1 hx with hx|hx
  .exact g.pn x hx h5
  .rw[abQ.1 hx]at h5|-;exact ho.p h5⟩
theorem GB.uy{n:Nat}{l:List Obj}(g:GB n l)(hl:l.length<40){o:Obj}(ho:Mn n o):GB n (l++ [o]):=by
 refine g.aaZ ho ?_;have e:=y8 g.nz hl o;have:=g.ki.make (ho.nw l) (by rw[e])
 rw[e]at this;exact this
theorem GB.self{n:Nat}{l:List Obj}(g:GB n l)(hl:l.length<40){o:Obj}(ho:Mn n o):GB n (l++ [{o with up:=(l.length:Int)}]):=by
 have g1:=g.uy hl ho;have N:=ho.nw l;have get:∀i,(l++ [{o with up:=(l.length:Int)}])[i]? =if i=l.length then some {o with up:=(l.length:Int)}else l[i]? :=λi=>by
  by_cases e:i=l.length
  .subst e;rw[if_pos rfl];simp
  .rw[if_neg e];rcases aax i l.length with h|h
   .rw[aaW h]
   .rw[abj (by simp;omega),abj h]
 have hm:∀(j:Nat)x,l[j]? =some x->x.ah≠0->∃y,(l++ [{o with up:=(l.length:Int)}])[j]? =some y/\y.ah≠0:=λj x hx hk=>by
  have hj:=(Lw.1 hx).1;exact⟨x,by rw[get,if_neg om];exact hx,hk⟩
 have hk:Kn.KI ⟨l++ [{o with up:=(l.length:Int)}],[],Te⟩:=by
  refine g.ki.q0 (by simp;omega) hm (λx hx=>?_) (λi x hx h4=>?_) ?_
  .rcases abH.1 hx with hx|hx
   .exact g.ki.obj hm hx
   .rw[abQ.1 hx];have hs:=N.sm;exact⟨⟨hs.t,hs.d,hs.e,hs.q,hs.qd⟩,N.d,λq hq=>(by have hq:q∈o.aj:=hq;rw[N.q]at hq;cases hq),N.p,⟨(by unfold Kn.df;rw[show({o with up:=(l.length:Int)}:Obj).ag=[]from N.e];rfl),(by unfold Kn.df;rw[show({o with up:=(l.length:Int)}:Obj).ag=[]from N.e];exact List.Pairwise.nil),λ_=>N.e,λe he=>(by unfold Kn.df at he;rw[show({o with up:=(l.length:Int)}:Obj).ag=[]from N.e]at he;cases he)⟩,λhz=>absurd hz N.kd⟩
  .rw[get]at hx;split at hx
   .cases hx;exact .inl (N.pe h4)
   .rcases g.ki.pe i x hx h4 with a|⟨j,y,a1,a2,a3,a4⟩
    .exact .inl a
    .have hj:=(Lw.1 (show l[j]? =some y from a2)).1;exact .inr ⟨j,y,a1,by rw[get,if_neg om];exact a2,a3,a4⟩
  .refine g.ki.p5.new (k:=l.length) (s:=Kn.t7 {o with up:=(l.length:Int)}) ⟨N.kd,N.l,(by unfold Kn.t7 Kn.df;rw[show({o with up:=(l.length:Int)}:Obj).ag=[]from N.e];rfl),.inr rfl⟩ (by rw[Qu,get,if_pos rfl];rfl) (λi hi=>by rw[Qu,Qu,get,if_neg hi]) λd hd=>?_
   rw[abj aD]at hd;cases hd
 refine⟨hk,λx hx=>?_,λx hx=>?_,λx hx h5=>?_⟩
 all_goals rcases abH.1 hx with hx|hx
 .exact g.nz x hx
 .rw[abQ.1 hx];exact N.kd
 .exact g.q x hx
 .rw[abQ.1 hx];exact N.q
 .exact g.pn x hx h5
 .rw[abQ.1 hx]at h5|-;exact ho.p h5
theorem Qc(l:List Obj)(n p:Nat)(name:ByteArray):B8 (bN l) n p name=bN (jp l n p name):=by
 unfold B8 jp bN;rw[Qu];cases hn:l[n]? with
 |none=>rfl
 |some o=>
  simp only[aa3];have e:({o.zY with ag:=(fW (name,(p:Int)) (o.zY.ag.map kO)).map bP}:Ob)=Obj.zY {o with ag:=(fW (name,(p:Int)) (o.ag.map kO)).map bP}:=rfl
  rw[e,<-abW,Qu];cases hp:(l.set n {o with ag:=(fW (name,(p:Int)) (o.ag.map kO)).map bP})[p]? with
  |none=>rfl
  |some q=>
   simp only[aa3,abW];rfl
theorem JS(l:List Obj)(k c:Int):gw (bN l) k c=nW l k c:=by
 unfold nW gw bN;rw[O9,O9,Qu,Qu];cases l[k.toNat]? <;>rfl
theorem HR(b:Bool)(l:List Obj)(dir:Int)(name:ByteArray)(obj:Int):jg b (bN l) dir name obj=(bN (cr b l dir name obj).1,(cr b l dir name obj).2):=by
 unfold jg cr;rw[JS,JS];by_cases h1:nW l dir 0=true
 .rw[if_pos h1,if_pos h1];by_cases h2:nW l obj 0=true
  .rw[if_pos h2,if_pos h2,bN,Qu];cases hn:l[dir.toNat]? with
   |none=>rfl
   |some o=>
    simp only[aa3];rw[<-bN,Qc];unfold nN yD;show(if o.ah≠2 then _ else if o.ak=0 then _ else if b=false then _ else if eY (o.ag.map kO) name>=0 then _ else if o.ag.length>=8 then _ else _)=_
    by_cases a1:o.ah≠2
    .rw[if_pos a1,if_pos a1];rfl
    rw[if_neg a1,if_neg a1];by_cases a2:o.ak=0
    .rw[if_pos a2,if_pos a2];rfl
    rw[if_neg a2,if_neg a2];by_cases a3:b=false
    .rw[if_pos a3,if_pos a3];rfl
    rw[if_neg a3,if_neg a3];by_cases a4:eY (o.ag.map kO) name>=0
    .rw[if_pos a4,if_pos a4];rfl
    rw[if_neg a4,if_neg a4];by_cases a5:o.ag.length>=8
    .rw[if_pos a5,if_pos a5];rfl
    rw[if_neg a5,if_neg a5]
  .rw[if_neg h2,if_neg h2];rfl
 .rw[if_neg h1,if_neg h1];rfl
theorem GB.enter{n:Nat}{l:List Obj}(g:GB n l){b:Bool}{dir obj:Int}{name:ByteArray}(hn:name.size<=12)(tZ:∀(p:Nat)q,obj=p->l[p]? =some q->q.ak=0)(he:(cr b l dir name obj).2=0):GB n (cr b l dir name obj).1/\(cr b l dir name obj).1.length=l.length:=by
 obtain⟨d,p,o,q,_,_,hd,hp,FC,km,_,_,_,_,hR⟩:=Kn.m7 he;have hk:=g.ki.enter (λ_=>hn) tZ he
 have t8:d≠p:=λe=>by
  subst e;rw[hd]at hp;cases hp;have:o.ak=0:=tZ d o (by assumption) hd
  contradiction
 obtain⟨g1,g2,g3,g4⟩:=Kn.qK hd hp t8 name;have hx:∀x,x∈(cr b l dir name obj).1->∃y,y∈l/\x.ah=y.ah/\x.aj=y.aj/\x.aQ=y.aQ:=λx hx=>by
  rw[hR]at hx;obtain⟨i,hi⟩:=aak hx;by_cases e:i=d
  .subst e;rw[g1]at hi;cases hi;exact⟨o,Vm hd,rfl,rfl,rfl⟩
  .by_cases e2:i=p
   .subst e2;rw[g2]at hi;cases hi;exact⟨q,Vm hp,rfl,rfl,rfl⟩
   .rw[g3 i e e2]at hi;exact⟨x,Vm hi,rfl,rfl,rfl⟩
 refine⟨⟨hk,λx h=>?_,λx h=>?_,λx h h5=>?_⟩,by rw[hR];exact g4⟩
 all_goals obtain⟨y,y1,y2,y3,y4⟩:=hx x h
 .rw[y2];exact g.nz y y1
 .rw[y3];exact g.q y y1
 .rw[y4];exact g.pn y y1 (by rw[<-y2];exact h5)
theorem GB.toE{n:Nat}{l:List Obj}(g:GB n l):I8 (bN l):=by
 refine⟨by rw[fp];exact g.len,λx hx=>?_,λx hx=>?_⟩
 all_goals obtain⟨o,ho,rfl⟩:=abl.1 hx
 .have:=g.ki.sm o ho;exact⟨⟨trivial,this.t.2.1⟩,this.e⟩
 .have e:=g.ki.en o ho;refine⟨_,e.eq,e.EB,λx hx=>?_,λh=>?_⟩
  .obtain⟨_,j,y,h1,h2,_⟩:=e.to x hx;have:=(Lw.1 (show l[j]? =some y from h2)).1;rw[fp];omega
  .have h2:=e.eq;rw[e.dir h]at h2;cases hc:Kn.df o with
   |nil=>rfl
   |cons a r=>rw[hc]at h2;cases h2
theorem Qd{l:List Obj}(h:∀o,o∈l->o.ah≠0)(hl:l.length<39):eV l=(l++ [bg ((l.length+1:Nat):Int),bg (l.length:Int)],((l.length:Int),((l.length+1:Nat):Int)),0):=by
 have e1:=y8 h om (bg (-1));have e2:=y8 (l:=l++ [bg (-1)]) (λo ho=>by
  rcases abH.1 ho with ho|ho
  .exact h o ho
  .rw[abQ.1 ho];simp[bg]) (by simp;omega) (bg (l.length:Int))
 rw[eV,e1];simp only[];rw[e2];simp only[ne_eq,not_true_eq_false,if_false];rw[aal,lB];have e3:(l++ [bg (-1)]++ [bg (l.length:Int)])[l.length]? =some (bg (-1)):=aD;rw[e3];simp only[abT,aa2,abO];congr 1;rw[acC,acN _ _ (aai _)];simp[bg]
theorem GB.ES{n:Nat}{l:List Obj}(g:GB n l)(hl:l.length<39):GB n (l++ [bg ((l.length+1:Nat):Int),bg (l.length:Int)]):=by
 have e:=Qd g.nz hl;have hk:=(g.ki.ES (by rw[e])).1
 rw[e]at hk;have hx:∀x,x∈l++ [bg ((l.length+1:Nat):Int),bg (l.length:Int)]->x∈l\/∃p,x=bg p:=λx hx=>by
  rcases abH.1 hx with hx|hx
  .exact .inl hx
  .simp only[abI,acm,or_false]at hx;rcases hx with rfl|rfl
   .exact .inr ⟨_,rfl⟩
   .exact .inr ⟨_,rfl⟩
 refine⟨hk,λx h=>?_,λx h=>?_,λx h h5=>?_⟩
 all_goals rcases hx x h with h|⟨p,rfl⟩
 .exact g.nz x h
 .simp[bg]
 .exact g.q x h
 .rfl
 .exact g.pn x h h5
 .simp[bg]at h5
structure Tf(n:Nat)(ops:List aT):Prop where
 l:ops.length<=60
 o:∀o,o∈ops->(∃j:Nat,o.obj=j/\j<n)/\0<=o.di/\o.di<=64
def HS(n:Nat)(z r:Int):Prop:=(0<=r/\r<=4095)/\∃j:Nat,z=j/\j<n
structure PrB(n m:Nat)(ps:List aL):Prop where
 l:ps.length=n
 n1:1<=n
 n3:n<=3
 sl:∀x,x∈ps->x.an.length<=10
 aE:∀x,x∈ps->x.aF=false->x.an=[]
 cap:∀x,x∈ps->∀s,s∈x.an->HS m s.b8 s.rts
theorem HS.in{l:List Obj}{ops:List aT}{ps:List aL}(h:∀o,o∈l->o.ah≠0)(ho:Tf l.length ops){z r:Int}(hc:HS ops.length z r):Kn.fS ⟨l,ops,ps⟩ z r:=by obtain⟨h1,j,rfl,hj⟩:=hc;obtain⟨⟨i,e,hi⟩,_⟩:=ho.o _ (aaR hj);exact⟨h1,j,_,rfl,wy hj,i,_,e,wy hi,h _ (aaR hi)⟩
theorem GB.gu{n:Nat}{l:List Obj}(g:GB n l){ops:List aT}{ps:List aL}(ho:Tf l.length ops)(hp:PrB n ops.length ps):Kn.KI ⟨l,ops,ps⟩:=by
 have k:=g.ki;refine⟨k.ll,ho.l,(by show ps.length<=8;have:=hp.l;have:=hp.n3;omega),k.sm,hp.sl,λe=>(by have e:ps=[]:=e;have h1:=hp.l;have h2:=hp.n1;rw[e]at h1;simp at h1;omega),hp.aE,λx hx s hs _=>(hp.cap x hx s hs).in g.nz ho,λo i7 q hq=>(by rw[g.q o i7]at hq;cases hq),λo i7 h5=>?_,k.en,k.z,k.pe,λo i7=>(ho.o o i7).2,k.P2,k.p5⟩
 obtain⟨j,h1,_⟩:=k.pr o i7 h5;have h2:=g.pn o i7 h5;exact⟨j,h1,by show j<ps.length;have:=hp.l;omega⟩
def Obj.Vi(o:Obj):Ob:=match o.aj with
 | []=>o.zY
 |_::_=>o.ob
def bM(l:List Obj):List Ob:=l.map Obj.Vi
theorem HT(l:List Obj):(bM l).length=l.length:=O9 _
theorem Xe{l:List Obj}(h:∀o,o∈l->o.aj=[]):bM l=bN l:=acE λo ho=>by unfold Obj.Vi;rw[h o ho]
theorem Xf(o:Obj):∀(j:Nat)d d',o.Vi.enc[j]? =some d->o.enc[j]? =some d'->BZ d d':=by
 obtain⟨ah,data,ag,target,aG,aj,aQ,ak,up⟩:=o;cases aj with
 |cons q r=>
  intro j d d' h1 h2;have:(⟨ah,data,ag,target,aG,q::r,aQ,ak,up⟩:Obj).Vi.enc=(⟨ah,data,ag,target,aG,q::r,aQ,ak,up⟩:Obj).enc:=rfl;rw[this,h2]at h1;cases h1;exact .refl _
 |nil=>
  intro j d d' h1 h2
  match j,h1,h2 with
  |0,h1,h2=>cases h1;cases h2;exact .refl _
  |1,h1,h2=>cases h1;cases h2;exact .refl _
  |2,h1,h2=>cases h1;cases h2;exact .refl _
  |3,h1,h2=>cases h1;cases h2;exact .refl _
  |4,h1,h2=>cases h1;cases h2;exact .refl _
  |5,h1,h2=>cases h1;cases h2;exact .no 4
  |6,h1,h2=>cases h1;cases h2;exact .refl _
  |7,h1,h2=>cases h1;cases h2;exact .refl _
  |8,h1,h2=>cases h1;cases h2;exact .refl _
  |n+9,h1,h2=>simp[Obj.Vi,Obj.zY,Ob.enc]at h1
theorem Tg(o:Obj):o.Vi.enc.length=o.enc.length:=by
 unfold Obj.Vi;cases o.aj<;>rfl
theorem aa0(l:List Obj):BZ (ia (bM l)) (cT l):=by
 refine .sl 9 (by simp[bM]) (λi cs fg h1 h2=>?_) (λi cs fg j d d' h1 h2 h3 h4=>?_)
 all_goals
  rw[bM,acf,Qu]at h1;rw[Qu]at h2;obtain⟨o,ho,rfl⟩:=abA.1 h1;rw[ho]at h2;cases h2
 .exact Tg o
 .exact Xf o j d d' h3 h4
end Go.Proofs.YtllkfpggoigbaaaGreatDoor
