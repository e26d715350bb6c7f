/- Part 36 of 43: what the law stands on. -/
import Derived.Test.YtojhmadmlnfpcaaGreatDoorK16
import Derived.Test.YtojhmadmlnfpcaaGreatDoorK35
set_option linter.unusedVariables false
set_option linter.unusedSimpArgs false
set_option linter.unnecessarySimpa false
set_option maxRecDepth 100000
set_option maxHeartbeats 64000000
namespace Go.Proofs.YtojhmadmlnfpcaaGreatDoor
open Go.AM Go.ChangeShapes Go.WideShapes Go.ChangeAt Go.RowKit
namespace Kn
structure F7(l:List Obj)(o:Obj):Prop where
 eq:o.ak=(eh o).map fq
 DL:EM (eh o)
 cL:o.ah≠2->o.ak=[]
 to:∀e,e∈eh o->e.1.size<=12/\∃(j:Nat)(x:Obj),e.2=j/\l[j]? =some x/\x.ah≠0
def fR(l:List Obj)(z:Int):Prop:=∃(j:Nat)(x:Obj),z=j/\l[j]? =some x/\x.ah≠0
def fy(k:Kr)(z r:Int):Prop:=(0<=r/\r<=4095)/\∃(n:Nat)(o:bG),z=n/\k.ops[n]? =some o/\fR k.l o.bv
structure KI(k:Kr):Prop where
 ll:k.l.length<=40
 lo:k.ops.length<=60
 lp:k.ps.length<=8
 sm:∀o,o∈k.l->o.sm
 sl:∀x,x∈k.ps->x.aU.length<=10
 ne:k.ps≠[]
 bh:∀x,x∈k.ps->x.aV=false->x.aU=[]
 cap:∀x,x∈k.ps->∀s,s∈x.aU->s.has=true->fy k s.eT s.cf
 qu:∀o,o∈k.l->∀q,q∈o.aj->q.has=true->fy k q.eT q.cf
 pr:∀o,o∈k.l->o.ah=5->∃n:Nat,o.aL=n/\n<k.ps.length
 en:∀o,o∈k.l->F7 k.l o
 z:∀o,o∈k.l->o.ah=0->o=gH
 pe:∀(i:Nat)o,k.l[i]? =some o->o.ah=4->o.aJ= -1\/∃(j:Nat)(x:Obj),o.aJ=j/\k.l[j]? =some x/\x.ah=4/\x.aJ=i
 dm:∀o,o∈k.ops->0<=o.dm/\o.dm<=64
 PR:∀o,o∈k.l->o.data.length<=60
 rJ:Tree (k.l.map uB)
theorem KI.kr{k:Kr}(h:KI k):dE k.l k.ops k.ps:=⟨h.sm,by have:=h.ll;omega,by have:=h.lo;omega,by have:=h.lp;omega,h.sl,h.ne⟩
theorem f4{l:List Obj}{i:Nat}{o:Obj}(h:l[i]? =some o):(l.map uB)[i]? =some (uB o):=by rw[aaf,h];rfl
theorem oD{l:List Obj}{i:Nat}{d:Sk}(h:(l.map uB)[i]? =some d):∃o,l[i]? =some o/\d=uB o:=by
 rw[aaf]at h;cases ho:l[i]? with
 |none=>rw[ho]at h;cases h
 |some o=>rw[ho]at h;cases h;exact⟨o,rfl,rfl⟩
theorem KI.up{k:Kr}(h:KI k){o:Obj}(ho:o∈k.l):0<=o.up/\o.up<k.l.length:=by obtain⟨i,hi⟩:=aam ho;have:=h.rJ.Wb (f4 hi);rwa [aad]at this
theorem KI.au{k:Kr}(h:KI k):∃o,k.l[0]? =some o/\o.ah=2:=by obtain⟨d,h1,h2,_⟩:=h.rJ.r0;obtain⟨o,h3,rfl⟩:=oD h1;exact⟨o,h3,h2⟩
theorem KI.pos{k:Kr}(h:KI k):0<k.l.length:=by obtain⟨o,h1,_⟩:=h.au;exact(aac.1 h1).1
theorem F7.len{l:List Obj}{o:Obj}(h:F7 l o):(eh o).length=o.ak.length:=by have:=congrArg List.length h.eq;rw[aad]at this;exact this.symm
theorem KI.DL{k:Kr}(h:KI k):wB k.l:=by
 refine⟨⟨by have:=h.ll;omega,fun o ho=>(h.sm o ho).mP⟩,fun o ho=>?_⟩
 have he:=h.en o ho;refine⟨eh o,he.eq,he.DL,by rw[he.len];have:=(h.sm o ho).e;omega,fun e hx=>?_⟩
 obtain⟨_,j,x,h1,h2,_⟩:=he.to e hx;have:=(aac.1 h2).1;omega
theorem KI.lk{k:Kr}(h:KI k):na (k.l.map Obj.ob):=by
 refine⟨by rw[aad];have:=h.ll;omega,by rw[aad];exact h.pos,fun o ho=>?_,fun o ho=>?_,fun o ho=>?_⟩
 .obtain⟨x,hx,rfl⟩:=aay.1 ho;have he:=h.en x hx;refine⟨eh x,he.eq,he.DL,fun e Ya=>?_,fun hk=>?_⟩
  .obtain⟨_,j,y,h1,h2,_⟩:=he.to e Ya;have:=(aac.1 h2).1;rw[aad];omega
  .have:=he.cL hk;show x.ak.map nu=[];rw[this];rfl
 .obtain⟨x,hx,rfl⟩:=aay.1 ho;have:=(h.sm x hx).e;show x.ak.length<=64;omega
 .obtain⟨x,hx,rfl⟩:=aay.1 ho;have:=h.up hx;rw[aad];exact this
def zi(x o:Obj):Prop:=x=o\/x={o with aJ:= -1}
theorem zi.all{x o:Obj}(h:zi x o):x.ah=o.ah/\x.data=o.data/\x.ak=o.ak/\x.target=o.target/\x.aj=o.aj/\x.aL=o.aL/\x.am=o.am/\x.up=o.up:=by
 rcases h with rfl|rfl<;>exact⟨rfl,rfl,rfl,rfl,rfl,rfl,rfl,rfl⟩
theorem zi.sk{x o:Obj}(h:zi x o):uB x=uB o:=by obtain⟨h1,_,h2,_,_,_,h3,h4⟩:=h.all;unfold uB eh;rw[h1,h2,h3,h4]
theorem kg{l:List Obj}(hz:∀o,o∈l->o.ah=0->o=gH)(b:Mk){i:Nat}{o:Obj}(ho:l[i]? =some o):
  (cu b l l.length i o=gH/\(o.ah=0\/¬dv b.O i))\/(dv b.O i/\o.ah≠0/\((cu b l l.length i o=o/\(o.ah=4->∀(j:Nat)x,o.aJ=j->l[j]? =some x->x.ah≠0->dv b.O j))\/
   (cu b l l.length i o={o with aJ:= -1}/\o.ah=4/\∃(j:Nat)(x:Obj),o.aJ=j/\l[j]? =some x/\¬dv b.O j))):=by
 have hi:=(aac.1 ho).1;have L9:∀j,(b.O[j]? ==some true)=true↔dv b.O j:=fun j=>by unfold dv;simp
 have kT:∀(j:Nat)x,l[j]? =some x->(eK b l j=true↔¬dv b.O j/\x.ah≠0):=fun j x hx=>by unfold eK;rw[hx];simp only[aap,abg,bne_iff_ne,ne_eq];rw[<-L9 j];simp
 unfold cu;by_cases h1:(eK b l i&&decide (i<l.length))=true
 .rw[if_pos h1];rw[aap]at h1;exact .inl ⟨rfl,.inr ((kT i o ho).1 h1.1).1⟩
 .rw[if_neg h1];have nY:¬eK b l i=true:=fun h=>h1 (by rw[h];simpa using hi)
  by_cases hk:o.ah=0
  .have:=hz o (aag ho) hk;subst this;exact .inl ⟨rfl,.inl rfl⟩
  .have hM:dv b.O i:=aaB fun hn=>nY ((kT i o ho).2 ⟨hn,hk⟩)
   refine .inr ⟨hM,hk,?_⟩;by_cases h2:(o.ah==4&&lM b l l.length o.aJ)=true
   .rw[if_pos h2];rw[aap]at h2;refine .inr ⟨rfl,by simpa using h2.1,?_⟩
    have h3:=h2.2;unfold lM at h3;rw[aap,decide_eq_true_eq]at h3;obtain⟨⟨h4,h5⟩,h6⟩:=h3;refine⟨o.aJ.toNat,l[o.aJ.toNat],om,aab h5,((kT _ _ (aab h5)).1 h6).1⟩
   .rw[if_neg h2];refine .inl ⟨rfl,fun h4 j x hp hx ZV=>?_⟩
    refine aaB fun hn=>h2 ?_
    have hj:=(aac.1 hx).1;rw[h4,aap];refine⟨rfl,?_⟩;unfold lM;rw[hp,aaw,(kT j x hx).2 ⟨hn,ZV⟩,Bool.and_true,decide_eq_true_eq];omega
theorem JP(L:List Obj)(k t:Nat)(x:bi):xI L k t x=fQ\/xI L k t x=x:=by
 unfold xI;split
 .exact .inl rfl
 .exact .inr rfl
theorem PS:gH.data.length<=60:=by simp[gH]
theorem KI.IW{k c:Kr}{en:Bool}(h:KI k)(ho:cU k.l k.ops k.ps c.l c.ops c.ps en):KI c:=by
 obtain⟨b,hb,hL,hP⟩:=ho.ex;have hR:=ho.pr;have o6:∀(i:Nat)x,c.l[i]? =some x->x=gH\/∃o,k.l[i]? =some o/\dv b.O i/\o.ah≠0/\zi x o:=fun i x hx=>by
  obtain⟨o,h1,h2⟩:=hL.get hx;rcases kg h.z b h1 with⟨h3,_⟩|⟨h3,h4,h5⟩
  .exact .inl (h2.trans h3)
  .refine .inr ⟨o,h1,h3,h4,?_⟩;rcases h5 with⟨h5,_⟩|⟨h5,_⟩
   .exact .inl (h2.trans h5)
   .exact .inr (h2.trans h5)
 have eH:∀(i:Nat)o,k.l[i]? =some o->dv b.O i->o.ah≠0->∃x,c.l[i]? =some x/\zi x o:=fun i o h1 hM hk=>by
  refine⟨_,hL.2 i o h1,?_⟩;rcases kg h.z b h1 with⟨_,h4|h4⟩|⟨_,_,⟨h5,_⟩|⟨h5,_⟩⟩
  .exact absurd h4 hk
  .exact absurd hM h4
  .exact .inl h5
  .exact .inr h5
 have AQ:∀z,fR k.l z->(∀n:Nat,vO k.l z n->dv b.O n)->fR c.l z:=fun z⟨j,x,h1,h2,h3⟩hm=>by
  obtain⟨y,h4,h5⟩:=eH j x h2 (hm j ⟨h1,x,h2,h3⟩) h3;exact⟨j,y,h1,h4,by rw[h5.all.1];exact h3⟩
 have ew:∀z r,fy k z r->(∀n:Nat,vP k.ops z n->dv b.P n)->fy c z r:=fun z r⟨hr,n,o,h1,h2,h3⟩hm=>by
  have hn:=(aac.1 h2).1;have hM:=hm n ⟨h1,hn⟩;refine⟨hr,n,o,h1,?_,AQ _ h3 fun j hv=>hb.cl.p n o hM h2 j hv⟩
  rw[hP.2 n o h2,Br,if_neg];have:(b.P[n]? ==some true)=true:=by unfold dv at hM;rw[hM];rfl
  rw[this];simp
 have hlen:c.l.length=k.l.length:=hL.1;have mem:∀x,x∈c.l->∃i:Nat,c.l[i]? =some x:=fun x hx=>aam hx
 have Nr:∀x,x∈c.ps->x=fQ\/x∈k.ps:=fun x hx=>by
  obtain⟨t,ht⟩:=aam hx;obtain⟨o,h1,h2⟩:=hR.get ht;rcases JP c.l k.ps.length t o with h3|h3
  .exact .inl (h2.trans h3)
  .exact .inr (by rw[h2,h3];exact aag h1)
 refine⟨by rw[hlen];exact h.ll,by rw[hP.1];exact h.lo,by rw[hR.1];exact h.lp,(ho.kr h.kr).sm,(ho.kr h.kr).sl,(ho.kr h.kr).ne,fun x hx hl=>?_,fun x hx s hs hh=>?_,fun o ir q hq hh=>?_,fun o ir h5=>?_,fun o ir=>?_,fun o ir hk=>?_,fun i o hi h4=>?_,fun o ir=>?_,fun o ir=>?_,?_⟩
 .rcases Nr x hx with rfl|hx
  .rfl
  .exact h.bh x hx hl
 .rcases Nr x hx with rfl|rQ
  .cases hs
  .cases hl:x.aV with
   |false=>rw[h.bh x rQ hl]at hs;cases hs
   |true=>
    obtain⟨p,hp⟩:=aam rQ;exact ew _ _ (h.cap x rQ s hs hh) fun n hv=>hb.nv.2 p x hp hl s hs hh n hv
 .obtain⟨i,hi⟩:=mem o ir;rcases o6 i o hi with rfl|⟨y,h1,hM,hk,hs⟩
  .cases hq
  .rw[hs.all.2.2.2.2.1]at hq;exact ew _ _ (h.qu y (aag h1) q hq hh) fun n hv=>hb.cl.q i y hM h1 q.eT n ⟨q,hq,hh,rfl⟩ hv
 .obtain⟨i,hi⟩:=mem o ir;rcases o6 i o hi with rfl|⟨y,h1,hM,hk,hs⟩
  .cases h5
  .rw[hs.all.1]at h5;rw[hs.all.2.2.2.2.2.1,hR.1];exact h.pr y (aag h1) h5
 .obtain⟨i,hi⟩:=mem o ir;rcases o6 i o hi with rfl|⟨y,h1,hM,hk,hs⟩
  .exact⟨rfl,List.Pairwise.nil,fun _=>rfl,fun e he=>by cases he⟩
  .have he:=h.en y (aag h1);have nM:eh o=eh y:=by unfold eh;rw[hs.all.2.2.1]
   refine⟨by rw[hs.all.2.2.1,nM];exact he.eq,by rw[nM];exact he.DL,fun hn=>by rw[hs.all.2.2.1];exact he.cL (by rw[<-hs.all.1];exact hn),fun e hx=>?_⟩
   rw[nM]at hx;obtain⟨h2,j,x,h3,h4,h5⟩:=he.to e hx;have D8:sE y e.2:=⟨e.1,by rw[he.eq];exact aay.2 ⟨e,hx,rfl⟩⟩
   obtain⟨x',h6,h7⟩:=eH j x h4 (hb.cl.e i y hM h1 e.2 j D8 ⟨h3,x,h4,h5⟩) h5;exact⟨h2,j,x',h3,h6,by rw[h7.all.1];exact h5⟩
 .obtain⟨i,hi⟩:=mem o ir;rcases o6 i o hi with rfl|⟨y,h1,hM,pK,hs⟩
  .rfl
  .exact absurd (hs.all.1▸hk) pK
 .obtain⟨y,h1,h2⟩:=hL.get hi;rcases kg h.z b h1 with⟨h3,_⟩|⟨hM,hk,h5⟩
  .rw[h2,h3]at h4;cases h4
  .rcases h5 with⟨h5,h6⟩|⟨h5,_⟩
   .rw[h2,h5]at h4⊢;rcases h.pe i y h1 h4 with h7|⟨j,x,h7,h8,h9,SK⟩
    .exact .inl h7
    .refine .inr ⟨j,cu b k.l k.l.length j x,h7,hL.2 j x h8,?_⟩;have Tq:=h6 h4 j x h7 h8 om;rcases kg h.z b h8 with⟨_,Kq|Kq⟩|⟨_,_,⟨Kq,_⟩|⟨_,_,j',x',GM,DM,Nb⟩⟩
     .omega
     .exact absurd Tq Kq
     .rw[Kq];exact⟨h9,SK⟩
     .have:j'=i:=om;subst this;exact absurd hM Nb
   .rw[h2,h5];exact .inl rfl
 .obtain⟨t,ht⟩:=aam ir;obtain⟨x,h1,h2⟩:=hP.get ht;rw[h2,Br];split
  .exact⟨ab3 _,by show(0:Int)<=64;omega⟩
  .exact h.dm x (aag h1)
 .obtain⟨i,hi⟩:=mem o ir;rcases o6 i o hi with rfl|⟨y,h1,hM,hk,hs⟩
  .exact PS
  .rw[hs.all.2.1];exact h.PR y (aag h1)
 .obtain⟨r,Bp,uz⟩:=h.au;refine h.rJ.sub (M:=dv b.O) (hb.nv.1 0 ⟨rfl,r,Bp,om⟩) (fun i d e j hM hd he hj=>?_) (fun i d hM hd hk=>?_) (fun i d' zK=>?_)
  .obtain⟨o,h1,rfl⟩:=oD hd;have pk:=h.en o (aag h1);obtain⟨_,j',x,h3,h4,h5⟩:=pk.to e he;have:j'=j:=om;subst this;exact hb.cl.e i o hM h1 e.2 j' ⟨e.1,by rw[pk.eq];exact aay.2 ⟨e,he,rfl⟩⟩ ⟨h3,x,h4,h5⟩
  .obtain⟨o,h1,rfl⟩:=oD hd;obtain⟨x,h2,h3⟩:=eH i o h1 hM hk;rw[<-h3.sk];exact f4 h2
  .obtain⟨x,h1,rfl⟩:=oD zK;rcases o6 i x h1 with rfl|⟨y,h2,hM,hk,hs⟩
   .exact .inl rfl
   .exact .inr ⟨by rw[hs.sk];exact f4 h2,hM⟩
theorem Ns{α:Type}{l:List α}{n i:Nat}{x:α}(h:(l.take n)[i]? =some x):l[i]? =some x/\i<n:=by
 rw[aaK]at h;split at h
 .exact⟨h,by assumption⟩
 .cases h
theorem C9{α:Type}{l:List α}{n i:Nat}{x:α}(h:l[i]? =some x)(hi:i<n):(l.take n)[i]? =some x:=by rw[aaK,if_pos hi];exact h
theorem JQ(O:List Obj)(k t:Nat)(x:bi):rS O k t x=fQ\/rS O k t x=x:=by
 unfold rS;split
 .exact .inl rfl
 .exact .inr rfl
theorem KI.fS{c d:Kr}(h:KI c)(hf:gm c d):KI d:=by
 obtain⟨n1,n2,n3,P,h1,h2,h3,h4,rfl⟩:=hf.ex;have eH:∀(i:Nat)o,c.l[i]? =some o->o.ah≠0->(c.l.take n1)[i]? =some o:=fun i o ho hk=>C9 ho (acn fun hle=>hk (by simpa[qO]using h1.t.dr i o hle ho))
 have AQ:∀z,fR c.l z->fR (c.l.take n1) z:=fun z⟨j,x,a1,a2,a3⟩=>⟨j,x,a1,eH j x a2 a3,a3⟩
 have ew:∀z r,fy c z r->fy ⟨c.l.take n1,c.ops.take n2,P.take n3⟩ z r:=fun z r⟨hr,n,o,a1,a2,a3⟩=>by
  refine⟨hr,n,o,a1,C9 a2 (acn fun hle=>?_),AQ _ a3⟩
  have hq:=h2.t.dr n o hle a2;obtain⟨j,_,e,_⟩:=a3;simp only[qP,decide_eq_true_eq]at hq;omega
 have dD:=h.pos;have pJ:1<=n1:=by have:=h1.t.mn;omega
 have Xa:P.length=c.ps.length:=h3.1;have qq:0<c.ps.length:=acB.2 h.ne;have VG:1<=n3:=by have:=h4.t.mn;omega
 have adX:=h4.t.le;have Nr:∀x,x∈P.take n3->x=fQ\/x∈c.ps:=fun x hx=>by
  obtain⟨t,ht⟩:=aam (aa1 hx);obtain⟨o,a1,a2⟩:=h3.get ht;rcases JQ (c.l.take n1) c.ps.length t o with a3|a3
  .exact .inl (a2.trans a3)
  .exact .inr (by rw[a2,a3];exact aag a1)
 have kr:=hf.kr h.kr;refine⟨?_,?_,?_,kr.sm,kr.sl,kr.ne,fun x hx hl=>?_,fun x hx s hs hh=>?_,fun o ho q hq hh=>ew _ _ (h.qu o (aa1 ho) q hq hh),fun o ho h5=>?_,fun o ho=>?_,fun o ho hk=>h.z o (aa1 ho) hk,fun i o hi hk=>?_,fun o ho=>h.dm o (aa1 ho),fun o ho=>h.PR o (aa1 ho),?_⟩
 .show(c.l.take n1).length<=40;rw[aaz];have:=h.ll;omega
 .show(c.ops.take n2).length<=60;rw[aaz];have:=h.lo;omega
 .show(P.take n3).length<=8;rw[aaz];have:=h.lp;omega
 .rcases Nr x hx with rfl|hx
  .rfl
  .exact h.bh x hx hl
 .rcases Nr x hx with rfl|hx
  .cases hs
  .exact ew _ _ (h.cap x hx s hs hh)
 .obtain⟨n,a1,a2⟩:=h.pr o (aa1 ho) h5;refine⟨n,a1,?_⟩;show n<(P.take n3).length;rw[aaz];refine Nat.lt_min.2 ⟨acn fun hle=>?_,om⟩
  have hq:=h4.t.dr n P[n] hle (aab om);simp only[qR,aap,abg]at hq;have:(c.l.take n1).any (dL (n:Int))=true:=aaM.2 ⟨o,ho,by simp[dL,h5,a1]⟩
  rw[this]at hq;cases hq.2
 .have he:=h.en o (aa1 ho);refine⟨he.eq,he.DL,he.cL,fun e hx=>?_⟩
  obtain⟨a0,j,x,a1,a2,a3⟩:=he.to e hx;exact⟨a0,j,x,a1,eH j x a2 a3,a3⟩
 .obtain⟨a1,a2⟩:=Ns hi;rcases h.pe i o a1 hk with a3|⟨j,x,a3,a4,a5,a6⟩
  .exact .inl a3
  .exact .inr ⟨j,x,a3,eH j x a4 om,a5,a6⟩
 .show Tree ((c.l.take n1).map uB);rw[abS];refine h.rJ.take pJ fun i d hle hd=>?_
  obtain⟨o,a1,rfl⟩:=oD hd;have:=h1.t.dr i o hle a1;show o.ah=0;simpa[qO]using this
theorem KI.to{k a:Kr}(h:KI k)(h1:il k a):KI a:=by
 induction h1 with
 |refl=>exact h
 |step _ ho ih=>exact ih.IW ho
theorem KI.Rg{k:Kr}(h:KI k):KI (i9 k):=by obtain⟨a,c,h1,h2,h3⟩:=(hC h.kr).ex;exact((h.to h1).IW h2).fS h3
end Kn
namespace Kn
theorem uX{l:List Ob}{ax:Nat}{aA follow:Bool}{rec:Nat->List bJ.dN->Nat->R4}{A:Nat->Prop}{Q:R4->Prop}(h0:∀e,e≠0->Q (R4.no e))(h1:∀a,A a->Q ⟨a,Aw l a,[],0⟩)(h2:∀a w,A a->(li l a).ah=2->l4 l a w<0->Q ⟨-1,a,w,0⟩)(h3:∀a w,A a->(li l a).ah=2->¬l4 l a w<0->Q ⟨l4 l a w,a,w,0⟩)(PT:∀a,A a->(li l a).ah=2->¬(aA=true/\a=ax)->A (Aw l a))(PU:∀a w,A a->(li l a).ah=2->¬l4 l a w<0->A (l4 l a w).toNat)(zP:∀a rest k,A a->Q (rec a rest k)):∀(parts:List bJ.dN)(a:Nat),A a->Q (Hr l ax aA follow rec parts a)
 | [],a,ha=>h1 a ha
 |w::rest,a,ha=>by
  rw[Hr];split
  .exact h0 11 (by decide)
  .rename_i hk;have hk:(li l a).ah=2:=by simpa using hk
   split
   .split
    .exact h0 14 (by decide)
    .rename_i hf;exact uX h0 h1 h2 h3 PT PU zP rest _ (PT a ha hk hf)
   .split
    .rename_i hn;split
     .exact h0 6 (by decide)
     .exact h2 a w ha hk hn
    .rename_i hn;split
     .exact zP a rest _ ha
     .split
      .exact h3 a w ha hk hn
      .exact uX h0 h1 h2 h3 PT PU zP rest _ (PU a w ha hk hn)
theorem HE{l:List Ob}{ax:Nat}{aA follow:Bool}{A:Nat->Prop}{Q:R4->Prop}(h0:∀e,e≠0->Q (R4.no e))(h1:∀a,A a->Q ⟨a,Aw l a,[],0⟩)(h2:∀a w,A a->(li l a).ah=2->l4 l a w<0->Q ⟨-1,a,w,0⟩)(h3:∀a w,A a->(li l a).ah=2->¬l4 l a w<0->Q ⟨l4 l a w,a,w,0⟩)(PT:∀a,A a->(li l a).ah=2->¬(aA=true/\a=ax)->A (Aw l a))(PU:∀a w,A a->(li l a).ah=2->¬l4 l a w<0->A (l4 l a w).toNat)(hr:aA=false->A 0):
  ∀(n:Nat)(parts:List bJ.dN)(a:Nat),A a->Q (Bt l ax aA follow n parts a)
 |0,parts,a,ha=>uX h0 h1 h2 h3 PT PU (fun _ _ _ _=>h0 13 (by decide)) parts a ha
 |n+1,parts,a,ha=>by
  refine uX h0 h1 h2 h3 PT PU (fun a rest k ha=>?_) parts a ha
  rw[Pl];split
  .rename_i h;exact h0 _ h
  .split
   .exact h0 14 (by decide)
   .rename_i hf;refine HE h0 h1 h2 h3 PT PU hr n _ _ ?_;split
    .rename_i fT;exact hr (by cases aA with|false=>rfl|true=>exact absurd ⟨fT,rfl⟩ hf)
    .exact ha
theorem JR{l:List Ob}{ax:Int}{s:bJ.dN}{aA follow:Bool}{A:Nat->Prop}{Q:R4->Prop}(h0:∀e,e≠0->Q (R4.no e))(h1:∀a,A a->Q ⟨a,Aw l a,[],0⟩)(h2:∀a w,A a->(li l a).ah=2->l4 l a w<0->Q ⟨-1,a,w,0⟩)(h3:∀a w,A a->(li l a).ah=2->¬l4 l a w<0->Q ⟨l4 l a w,a,w,0⟩)(PT:∀a,A a->(li l a).ah=2->¬(aA=true/\a=ax.toNat)->A (Aw l a))(PU:∀a w,A a->(li l a).ah=2->¬l4 l a w<0->A (l4 l a w).toNat)(hr:aA=false->A 0)(hb:∀n:Nat,ax=n->n<l.length->(li l n).ah=2->A n):Q (pq l ax s aA follow):=by
 rw[pq];split
 .rename_i hi;obtain⟨n,rfl,hn⟩:=LV hi;split
  .exact h0 11 (by decide)
  .rename_i hk;have hk:(li l n).ah=2:=by simpa using hk
   split
   .rename_i h;exact h0 _ h
   .split
    .exact h0 14 (by decide)
    .rename_i hf;refine HE h0 h1 h2 h3 PT PU hr 6 _ _ ?_;split
     .rename_i fT;exact hr (by cases aA with|false=>rfl|true=>exact absurd ⟨fT,rfl⟩ hf)
     .exact hb n rfl hn hk
 .exact h0 6 (by decide)
theorem Nt{l:List Obj}{n:Nat}{o:Obj}(h:l[n]? =some o):li (l.map Obj.ob) n=o.ob:=by rw[li,aaf,h];rfl
theorem Wd{l:List Obj}{n:Nat}(h:(li (l.map Obj.ob) n).ah≠0):∃o,l[n]? =some o/\li (l.map Obj.ob) n=o.ob:=by
 cases ho:l[n]? with
 |none=>exfalso;apply h;rw[li,aaf,ho];rfl
 |some o=>exact⟨o,rfl,Nt ho⟩
theorem SX{l:List Obj}{n:Nat}{o:Obj}(h:l[n]? =some o):Aw (l.map Obj.ob) n=o.up.toNat:=by rw[Aw,Nt h];rfl
theorem SY{l:List Obj}{n:Nat}{o:Obj}(h:l[n]? =some o)(w:bJ.dN):l4 (l.map Obj.ob) n w=fx (eh o) (bJ.cz w):=by rw[l4,Nt h];rfl
theorem PV{l:List Obj}{n:Nat}{o:Obj}(h:l[n]? =some o){w:bJ.dN}(hf:¬l4 (l.map Obj.ob) n w<0):∃e,e∈eh o/\e.1.toList=(bJ.cz w).toList/\l4 (l.map Obj.ob) n w=e.2:=by
 rw[SY h]at hf⊢;rcases ju (eh o) (bJ.cz w)with⟨e,h1,h2,h3⟩|⟨h3,_⟩
 .exact⟨e,h1,h2,h3⟩
 .omega
def Da(l:List Obj)(a:Nat):Prop:=∃o,l[a]? =some o/\o.ah≠0
theorem KI.Nu{k:Kr}(h:KI k){a:Nat}(ha:Da k.l a):Da k.l (Aw (k.l.map Obj.ob) a):=by
 obtain⟨o,h1,h2⟩:=ha;rw[SX h1];rcases h.rJ.ux a (uB o) (f4 h1)with h3|h3|⟨_,u,x,e,h3,h4,h5,_⟩
 .have h3:o.up=a:=h3;rw[h3];exact⟨o,h1,h2⟩
 .have h3:o.up=0:=h3;rw[h3];obtain⟨r,h4,h5⟩:=h.au;exact⟨r,h4,om⟩
 .have h3:o.up=u:=h3;rw[h3];obtain⟨y,h6,rfl⟩:=oD h4;refine⟨y,h6,fun hz=>?_⟩
  have:=h.z y (aag h6) hz;subst this;cases h5
theorem KI.zj{k:Kr}(h:KI k){a:Nat}{w:bJ.dN}(ha:Da k.l a)(hf:¬l4 (k.l.map Obj.ob) a w<0):Da k.l (l4 (k.l.map Obj.ob) a w).toNat/\0<=l4 (k.l.map Obj.ob) a w:=by obtain⟨o,h1,_⟩:=ha;obtain⟨e,h3,_,h4⟩:=PV h1 hf;obtain⟨_,j,x,h5,h6,h7⟩:=(h.en o (aag h1)).to e h3;rw[h4,h5];exact⟨⟨x,h6,h7⟩,om⟩
theorem KI.SZ{k:Kr}(h:KI k)(ax:Int)(s:bJ.dN)(aA follow:Bool):(iD k ax s aA follow).iL=0->(iD k ax s aA follow).bv= -1\/fR k.l (iD k ax s aA follow).bv:=by
 refine JR (A:=Da k.l) (Q:=fun r=>r.iL=0->r.bv= -1\/fR k.l r.bv) (fun e he h0=>absurd h0 he) (fun a⟨o,h1,h2⟩ _=>.inr ⟨a,o,rfl,h1,h2⟩) (fun _ _ _ _ _ _=>.inl rfl) (fun a w ha _ hf _=>?_)
  (fun a ha _ _=>h.Nu ha) (fun a w ha _ hf=>(h.zj ha hf).1) (fun _=>?_) (fun n _ hn hk=>?_)
 .obtain⟨⟨o,h1,h2⟩,h3⟩:=h.zj ha hf;exact .inr ⟨_,o,by show l4 _ _ _=_;omega,h1,h2⟩
 .obtain⟨r,h4,h5⟩:=h.au;exact⟨r,h4,om⟩
 .obtain⟨o,h1,h2⟩:=Wd (l:=k.l) (n:=n) (by rw[hk];decide)
  rw[h2]at hk;have hk:o.ah=2:=hk;exact⟨o,h1,om⟩
theorem fy.at{k:Kr}{z r:Int}(h:fy k z r):∃n j:Nat,z=n/\n<k.ops.length/\lO k.ops n=j/\j<k.l.length:=by obtain⟨_,n,o,h1,h2,j,x,h3,h4,_⟩:=h;refine⟨n,j,h1,(aac.1 h2).1,?_,(aac.1 h4).1⟩;rw[lO,aaw,h2];exact h3
theorem KI.ew{k:Kr}(h:KI k){p:Nat}{s:fH}(hs:s∈aT k.ps p)(hh:s.has=true):fy k s.eT s.cf:=by
 unfold aT at hs;cases hp:k.ps[p]? with
 |none=>rw[hp]at hs;cases hs
 |some x=>rw[hp]at hs;exact h.cap x (aag hp) s hs hh
theorem KI.kw{k:Kr}(h:KI k){p:Nat}(hp:p<k.ps.length):KW k p:=
 ⟨h.kr,h.ll,h.DL,h.lk,fun o ho e he=>((h.en o ho).to e he).1,hp,fun s hs hh=>(h.ew hs hh).at⟩
end Kn
namespace Kn
theorem F7.mono{l l':List Obj}{o:Obj}(h:F7 l o)(hm:∀(j:Nat)x,l[j]? =some x->x.ah≠0->∃y,l'[j]? =some y/\y.ah≠0):F7 l' o:=
 ⟨h.eq,h.DL,h.cL,fun e he=>by obtain⟨h1,j,x,h2,h3,h4⟩:=h.to e he;obtain⟨y,h5,h6⟩:=hm j x h3 h4;exact⟨h1,j,y,h2,h5,h6⟩⟩
structure S0(k:Kr)(l':List Obj)(x:Obj):Prop where
 sm:x.sm
 d:x.data.length<=60
 q:∀q,q∈x.aj->q.has=true->fy k q.eT q.cf
 p:x.ah=5->∃n:Nat,x.aL=n/\n<k.ps.length
 e:F7 l' x
 z:x.ah=0->x=gH
theorem KI.bv{k:Kr}(h:KI k){l':List Obj}(hm:∀(j:Nat)x,k.l[j]? =some x->x.ah≠0->∃y,l'[j]? =some y/\y.ah≠0){x:Obj}(hx:x∈k.l):S0 k l' x:=
 ⟨h.sm x hx,h.PR x hx,h.qu x hx,h.pr x hx,(h.en x hx).mono hm,h.z x hx⟩
theorem fy.mono{k k':Kr}{z r:Int}(h:fy k z r)(ho:∀(n:Nat)o,k.ops[n]? =some o->fR k.l o.bv->∃o',k'.ops[n]? =some o'/\fR k'.l o'.bv):fy k' z r:=by obtain⟨h0,n,o,h1,h2,h3⟩:=h;obtain⟨o',h4,h5⟩:=ho n o h2 h3;exact⟨h0,n,o',h1,h4,h5⟩
theorem fR.mono{l l':List Obj}{z:Int}(h:fR l z)(hm:∀(j:Nat)x,l[j]? =some x->x.ah≠0->∃y,l'[j]? =some y/\y.ah≠0):fR l' z:=by obtain⟨j,x,h1,h2,h3⟩:=h;obtain⟨y,h4,h5⟩:=hm j x h2 h3;exact⟨j,y,h1,h4,h5⟩
theorem KI.AQ{k:Kr}(h:KI k){l':List Obj}(V1:l'.length<=40)(hm:∀(j:Nat)x,k.l[j]? =some x->x.ah≠0->∃y,l'[j]? =some y/\y.ah≠0)(hx:∀x,x∈l'->S0 k l' x)(BK:∀(i:Nat)o,l'[i]? =some o->o.ah=4->o.aJ= -1\/∃(j:Nat)(x:Obj),o.aJ=j/\l'[j]? =some x/\x.ah=4/\x.aJ=i)(ht:Tree (l'.map uB)):KI ⟨l',k.ops,k.ps⟩:=by
 have ew:∀z r,fy k z r->fy ⟨l',k.ops,k.ps⟩ z r:=fun z r hc=>hc.mono fun n o ho hi=>⟨o,ho,hi.mono hm⟩
 exact⟨V1,h.lo,h.lp,fun o ho=>(hx o ho).sm,h.sl,h.ne,h.bh,fun x hx s hs hh=>ew _ _ (h.cap x hx s hs hh),fun o ho q hq hh=>ew _ _ ((hx o ho).q q hq hh),fun o ho=>(hx o ho).p,fun o ho=>(hx o ho).e,fun o ho=>(hx o ho).z,BK,h.dm,fun o ho=>(hx o ho).d,ht⟩
theorem KI.JC{k:Kr}(h:KI k){n:Nat}{o o':Obj}(ho:k.l[n]? =some o)(hs:o'.ah=o.ah/\o'.ak=o.ak/\o'.up=o.up/\o'.am=o.am/\o'.aJ=o.aJ/\o'.aL=o.aL)(hk:o.ah≠0)(Ec:o'.sm)(hd:o'.data.length<=60)(hq:∀q,q∈o'.aj->q.has=true->fy k q.eT q.cf):KI ⟨k.l.set n o',k.ops,k.ps⟩:=by
 obtain⟨s1,s2,s3,s4,s5,s6⟩:=hs;have hn:=(aac.1 ho).1;have get:∀i:Nat,(k.l.set n o')[i]? =if i=n then some o' else k.l[i]? :=fun i=>by
  by_cases e:i=n
  .subst e;rw[if_pos rfl,aal hn]
  .rw[if_neg e,aas (fun x=>e x.symm)]
 have hm:∀(j:Nat)x,k.l[j]? =some x->x.ah≠0->∃y,(k.l.set n o')[j]? =some y/\y.ah≠0:=fun j x hx ZV=>by
  rw[get];by_cases e:j=n
  .rw[if_pos e];exact⟨o',rfl,by rw[s1];exact hk⟩
  .rw[if_neg e];exact⟨x,hx,ZV⟩
 have JS:=aag ho;refine h.AQ (by rw[aaE];exact h.ll) hm (fun x hx=>?_) (fun i x hx h4=>?_) ?_
 .rcases aaI hx with hx|rfl
  .exact h.bv hm hx
  .have he:=(h.en o JS).mono hm;have nM:eh x=eh o:=by unfold eh;rw[s2]
   exact⟨Ec,hd,hq,fun h5=>by rw[s6];exact h.pr o JS (s1▸h5),⟨by rw[nM,s2];exact he.eq,by rw[nM];exact he.DL,fun hn=>by rw[s2];exact he.cL (s1▸hn),fun e hx=>he.to e (nM▸hx)⟩,fun hz=>absurd (s1▸hz) hk⟩
 .have key:∀y:Obj,k.l[i]? =some y->y.ah=4->y.aJ= -1\/∃(j:Nat)(x:Obj),y.aJ=j/\(k.l.set n o')[j]? =some x/\x.ah=4/\x.aJ=i:=fun y hy Nv=>by
   rcases h.pe i y hy Nv with h1|⟨j,z,h1,h2,h3,h4⟩
   .exact .inl h1
   .right;by_cases e:j=n
    .subst e;rw[ho]at h2;cases h2;exact⟨j,o',h1,by rw[get,if_pos rfl],by rw[s1];exact h3,by rw[s5];exact h4⟩
    .exact⟨j,z,h1,by rw[get,if_neg e];exact h2,h3,h4⟩
  rw[get]at hx;by_cases e:i=n
  .rw[if_pos e]at hx;cases hx;rw[s5];exact key o (e▸ho) (s1▸h4)
  .rw[if_neg e]at hx;exact key x hx h4
 .have:(k.l.set n o').map uB=k.l.map uB:=by
   apply aa7;intro i;rw[aaf,aaf,get];by_cases e:i=n
   .subst e;rw[if_pos rfl,ho];show some _=some _;unfold uB eh;rw[s1,s2,s3,s4]
   .rw[if_neg e]
  rw[this];exact h.rJ
theorem gd{l:List Obj}{o:Obj}(h:(aK l o).2.2=0)(hl:l.length<=40):∃j:Nat,(aK l o).2.1=j/\(aK l o).1[j]? =some o/\(∀i,i≠j->(aK l o).1[i]? =l[i]?)/\(∀d,l[j]? =some d->d.ah=0)/\(aK l o).1.length<=40/\(∀x,x∈(aK l o).1->x∈l\/x=o):=by
 have hm:∀x,x∈(aK l o).1->x∈l\/x=o:=fun x=>y3
 revert h hm;unfold aK;split
 .rename_i k hk;intro _ hm;have pK:=aaN.1 hk;refine⟨k,rfl,aal pK.1,fun i hi=>aas (fun e=>hi e.symm),fun d hd=>?_,by rw[aaE];exact hl,fun x hx=>hm x hx⟩
  rw[aab pK.1]at hd;cases hd;simpa using pK.2.1
 .split
  .intro h;cases h
  .rename_i V1;intro _ hm;refine⟨l.length,rfl,by rw[aan (aaj _)];simp,fun i hi=>?_,fun d hd=>?_,by simp only[aa3,aax,aaT];omega,fun x hx=>hm x hx⟩
   .rcases aaq i l.length with h1|h1
    .exact aar h1
    .rw[aan h1,aaG h1];cases e:i-l.length with
     |zero=>omega
     |succ n=>rfl
   .rw[aaG (aaj _)]at hd;cases hd
structure PW(k:Kr)(o:Obj):Prop where
 sm:o.sm
 kd:o.ah≠0
 e:o.ak=[]
 q:o.aj=[]
 d:o.data.length<=60
 l:o.am=0
 u:o.up=0
 pe:o.ah=4->o.aJ= -1
 p:o.ah=5->∃n:Nat,o.aL=n/\n<k.ps.length
theorem KI.make{k:Kr}(h:KI k){o:Obj}(ho:PW k o)(he:(aK k.l o).2.2=0):KI ⟨(aK k.l o).1,k.ops,k.ps⟩:=by
 obtain⟨j,_,h2,h3,h4,h5,h6⟩:=gd he h.ll;have hm:∀(i:Nat)x,k.l[i]? =some x->x.ah≠0->∃y,(aK k.l o).1[i]? =some y/\y.ah≠0:=fun i x hx hk=>by
  by_cases e:i=j
  .subst e;exact absurd (h4 x hx) hk
  .exact⟨x,by rw[h3 i e];exact hx,hk⟩
 refine h.AQ h5 hm (fun x hx=>?_) (fun i x hx h4'=>?_) ?_
 .rcases h6 x hx with hx|rfl
  .exact h.bv hm hx
  .exact⟨ho.sm,ho.d,fun q hq=>(by rw[ho.q]at hq;cases hq),ho.p,⟨(by unfold eh;rw[ho.e];rfl),(by unfold eh;rw[ho.e];exact List.Pairwise.nil),fun _=>ho.e,fun e he=>(by unfold eh at he;rw[ho.e]at he;cases he)⟩,fun hz=>absurd hz ho.kd⟩
 .by_cases e:i=j
  .subst e;rw[h2]at hx;cases hx;exact .inl (ho.pe h4')
  .rw[h3 i e]at hx;rcases h.pe i x hx h4' with a|⟨n,y,a1,a2,a3,a4⟩
   .exact .inl a
   .exact .inr ⟨n,y,a1,by rw[h3 n fun e=>by subst e;have:=h4 y a2;omega];exact a2,a3,a4⟩
 .refine h.rJ.new (k:=j) (s:=uB o) ⟨ho.kd,ho.l,by unfold uB eh;rw[ho.e];rfl,.inl ho.u⟩ (f4 h2) (fun i hi=>by rw[aaf,aaf,h3 i hi]) fun d hd=>?_
  obtain⟨x,a1,rfl⟩:=oD hd;exact h4 x a1
theorem p4{l:List Obj}{z:Int}(h:o5 l z 0=true):fR l z:=by unfold o5 oe at h;rw[aap,aap,decide_eq_true_eq,decide_eq_true_eq,aad]at h;obtain⟨h1,h2,h3⟩:=h;have hz:z.toNat<l.length:=om;rw[aaf,aab hz]at h3;simp only[aaC,aap]at h3;refine⟨z.toNat,l[z.toNat],om,aab hz,?_⟩;have:=h3.1;simpa[Obj.ob]using this
theorem uf{b:Bool}{l:List Obj}{cL bv:Int}{name:ByteArray}(h:(de b l cL name bv).2=0):∃(n p:Nat)(o q:Obj),cL=n/\bv=p/\l[n]? =some o/\l[p]? =some q/\q.ah≠0/\o.ah=2/\o.am≠0/\b=true/\
  ¬fx (eh o) name>=0/\o.ak.length<8/\(de b l cL name bv).1=jw l n p name:=by
 have hr:=h;unfold de at hr;by_cases h1:o5 l cL 0=true
 .rw[if_pos h1]at hr;by_cases h2:o5 l bv 0=true
  .rw[if_pos h2]at hr;obtain⟨n,o,rfl,hn,_⟩:=p4 h1;obtain⟨p,q,rfl,hp,hq⟩:=p4 h2;rw[aaw,aaw,hn]at hr;simp only[]at hr;have hR:de b l n name p=y8 b o (jw l n p name) name:=by unfold de;rw[if_pos h1,if_pos h2,aaw,aaw,hn]
   unfold y8 at hr;by_cases a1:o.ah≠2
   .rw[if_pos a1]at hr;cases hr
   rw[if_neg a1]at hr;by_cases a2:o.am=0
   .rw[if_pos a2]at hr;cases hr
   rw[if_neg a2]at hr;by_cases a3:b=false
   .rw[if_pos a3]at hr;cases hr
   rw[if_neg a3]at hr;by_cases a4:fx (o.ak.map nu) name>=0
   .rw[if_pos a4]at hr;cases hr
   rw[if_neg a4]at hr;by_cases a5:o.ak.length>=8
   .rw[if_pos a5]at hr;cases hr
   exact⟨n,p,o,q,rfl,rfl,hn,hp,hq,by simpa using a1,a2,by simpa using a3,a4,om,by rw[hR,y8,if_neg a1,if_neg a2,if_neg a3,if_neg a4,if_neg a5]⟩
  .rw[if_neg h2]at hr;cases hr
 .rw[if_neg h1]at hr;cases hr
def rK(o:Obj)(name:ByteArray)(p:Nat):Obj:={o with ak:=(iK (name,(p:Int)) (eh o)).map fq}
def HF(q:Obj)(n:Nat):Obj:={q with am:=IntKind.i64.wrap (q.am+1),up:=if q.ah=2 then(n:Int)else q.up}
theorem zk{l:List Obj}{n p:Nat}{o q:Obj}(hn:l[n]? =some o)(hp:l[p]? =some q)(F5:n≠p)(name:ByteArray):
  (jw l n p name)[n]? =some (rK o name p)/\(jw l n p name)[p]? =some (HF q n)/\(∀j,j≠n->j≠p->(jw l n p name)[j]? =l[j]?)/\(jw l n p name).length=l.length:=by
 have kM:=(aac.1 hn).1;have gE:=(aac.1 hp).1;have Ks:(l.set n (rK o name p))[p]? =some q:=by rw[aas F5];exact hp
 have e:jw l n p name=(l.set n (rK o name p)).set p (HF q n):=by
  unfold jw;rw[hn];simp only[];rw[show {o with ak:=(iK (name,(p:Int)) (o.ak.map nu)).map fq}=rK o name p from rfl,Ks]
  rfl
 rw[e];refine⟨?_,?_,fun j h1 h2=>?_,aG⟩
 .rw[aas F5.symm,aal kM]
 .rw[aal (by simpa using gE)]
 .rw[aas (fun e=>h2 e.symm),aas (fun e=>h1 e.symm)]
theorem zl(x:NE):∀es:List NE,x∈iK x es
 | []=>by simp[iK]
 |e::r=>by
  rw[iK];split
  .simp
  .exact ab2 _ (zl x r)
theorem Db{x y:NE}:∀{es:List NE},y∈es->y∈iK x es
 | [],h=>by cases h
 |e::r,h=>by
  rw[iK];split
  .exact ab2 _ h
  .rcases aaJ.1 h with rfl|h
   .simp
   .exact ab2 _ (Db h)
theorem F8{es:List NE}{name:ByteArray}(dD:∀e,e∈es->0<=e.2)(h:¬fx es name>=0):∀e,e∈es->e.1.toList≠name.toList:=by
 rcases ju es name with⟨e,he,_,h2⟩|⟨_,h2⟩
 .have:=dD e he;rw[h2]at h;omega
 .exact h2
theorem KI.enter{k:Kr}(h:KI k){b:Bool}{cL bv:Int}{name:ByteArray}(GV:b=true->name.size<=12)(xG:∀(p:Nat)q,bv=p->k.l[p]? =some q->q.am=0)(he:(de b k.l cL name bv).2=0):KI ⟨(de b k.l cL name bv).1,k.ops,k.ps⟩:=by
 obtain⟨n,p,o,q,rfl,rfl,hn,hp,JO,jz,B2,hb,hf,h8,hR⟩:=uf he;have TE:=xG p q rfl hp;have F5:n≠p:=fun e=>by subst e;rw[hn]at hp;cases hp;exact B2 TE
 rw[hR];obtain⟨g1,g2,g3,g4⟩:=zk hn hp F5 name;have JS:=aag hn;have PX:=aag hp;have pk:=h.en o JS;have PN:q.ak=[]:=by have:=h.rJ.em p (uB q) (f4 hp) TE;have h2:=(h.en q PX).eq;have this:eh q=[]:=this;rw[this]at h2;exact h2
 have ug:eh (rK o name p)=iK (name,(p:Int)) (eh o):=by unfold eh rK;exact m6 _
 have Nw:eh (HF q n)=eh q:=rfl;have hw:IntKind.i64.wrap (q.am+1)=1:=by rw[TE];rfl
 have hm:∀(j:Nat)x,k.l[j]? =some x->x.ah≠0->∃y,(jw k.l n p name)[j]? =some y/\y.ah≠0:=fun j x hx hk=>by
  by_cases e:j=n
  .subst e;rw[hn]at hx;cases hx;exact⟨_,g1,hk⟩
  .by_cases e2:j=p
   .subst e2;rw[hp]at hx;cases hx;exact⟨_,g2,hk⟩
   .exact⟨x,by rw[g3 j e e2];exact hx,hk⟩
 have o6:∀(i:Nat)x,(jw k.l n p name)[i]? =some x->(i=n/\x=rK o name p)\/(i=p/\x=HF q n)\/(i≠n/\i≠p/\k.l[i]? =some x):=fun i x hx=>by
  by_cases e:i=n
  .subst e;rw[g1]at hx;cases hx;exact .inl ⟨rfl,rfl⟩
  .by_cases e2:i=p
   .subst e2;rw[g2]at hx;cases hx;exact .inr (.inl ⟨rfl,rfl⟩)
   .rw[g3 i e e2]at hx;exact .inr (.inr ⟨e,e2,hx⟩)
 have dD:∀e,e∈eh o->0<=e.2:=fun e hx=>by obtain⟨_,j,_,h1,_⟩:=pk.to e hx;omega
 refine h.AQ (by rw[g4];exact h.ll) hm (fun x hx=>?_) (fun i x hx h4=>?_) ?_
 .obtain⟨i,hi⟩:=aam hx;rcases o6 i x hi with⟨rfl,rfl⟩|⟨rfl,rfl⟩|⟨_,_,hx⟩
  .have hO:=h.bv hm JS;refine⟨⟨⟨hO.sm.t.1,⟨_,rfl⟩,hO.sm.t.2.2⟩,hO.sm.d,?_,hO.sm.q,hO.sm.qd⟩,hO.d,hO.q,hO.p,?_,fun hz=>absurd hz (by rw[show(rK o name p).ah=o.ah from rfl,jz];decide)⟩
   .show((iK (name,(p:Int)) (eh o)).map fq).length<=8;rw[aad,Ci,pk.len];omega
   .refine⟨by rw[ug];rfl,by rw[ug];exact LU pk.DL (F8 dD hf),fun hk=>absurd jz hk,fun e hx=>?_⟩
    rw[ug]at hx;rcases rk hx with hx|rfl
    .exact hO.e.to e hx
    .exact⟨GV hb,p,_,rfl,g2,JO⟩
  .have hO:=h.bv hm PX;exact⟨⟨hO.sm.t,hO.sm.d,hO.sm.e,hO.sm.q,hO.sm.qd⟩,hO.d,hO.q,hO.p,⟨hO.e.eq,hO.e.DL,hO.e.cL,hO.e.to⟩,fun hz=>absurd hz JO⟩
  .exact h.bv hm (aag hx)
 .have key:∀(i:Nat)y,k.l[i]? =some y->y.ah=4->y.aJ= -1\/∃(j:Nat)(x:Obj),y.aJ=j/\(jw k.l n p name)[j]? =some x/\x.ah=4/\x.aJ=i:=fun i y hy Nv=>by
   rcases h.pe i y hy Nv with h1|⟨j,z,h1,h2,h3,h4⟩
   .exact .inl h1
   .right;by_cases e:j=n
    .subst e;rw[hn]at h2;cases h2;omega
    .by_cases e2:j=p
     .subst e2;rw[hp]at h2;cases h2;exact⟨j,_,h1,g2,h3,h4⟩
     .exact⟨j,z,h1,by rw[g3 j e e2];exact h2,h3,h4⟩
  rcases o6 i x hx with⟨rfl,rfl⟩|⟨rfl,rfl⟩|⟨_,_,hx⟩
  .exact key _ o hn h4
  .exact key _ q hp h4
  .exact key i x hx h4
 .refine h.rJ.enter (nm:=name) (f4 hn) (f4 hp) B2 TE JO (f4 g1) (f4 g2) (fun j a b=>by rw[aaf,aaf,g3 j a b]) ⟨rfl,rfl,rfl⟩ (fun e=>?_) ⟨rfl,hw,Nw,rfl⟩
  show e∈eh (rK o name p)↔_;rw[ug];exact⟨rk,fun hx=>hx.elim Db fun hx=>hx▸zl _ _⟩
end Kn
namespace Kn
theorem AR{l:List Obj}{cL:Int}{name:ByteArray}(h:(da l cL name).2.2=0):∃(n k:Nat)(o q:Obj),cL=n/\l[n]? =some o/\o.ah=2/\fx (eh o) name=k/\l[k]? =some q/\¬(q.ah=2/\q.ak.length>0)/\
  (da l cL name).1=kY l n k name/\(da l cL name).2.1=k:=by
 have hr:=h;unfold da at hr;by_cases h1:o5 l cL 0=true
 .rw[if_pos h1]at hr;obtain⟨n,o,rfl,hn,_⟩:=p4 h1;rw[aaw,hn]at hr;simp only[]at hr;have hR:da l n name=wC o l n name:=by unfold da;rw[if_pos h1,aaw,hn]
  unfold wC at hr;by_cases a1:o.ah≠2
  .rw[if_pos a1]at hr;cases hr
  rw[if_neg a1]at hr;by_cases a2:fx (o.ak.map nu) name<0
  .rw[if_pos a2]at hr;cases hr
  rw[if_neg a2]at hr;cases hq:l[(fx (o.ak.map nu) name).toNat]? with
  |none=>rw[hq]at hr;cases hr
  |some q=>
   rw[hq]at hr;simp only[]at hr;by_cases a3:q.ah=2/\q.ak.length>0
   .rw[if_pos a3]at hr;cases hr
   have hk:fx (o.ak.map nu) name=((fx (o.ak.map nu) name).toNat:Nat):=om;refine⟨n,_,o,q,rfl,hn,by simpa using a1,hk,hq,a3,?_,?_⟩
   .rw[hR,wC,if_neg a1,if_neg a2,hq];simp only[if_neg a3]
   .rw[hR,wC,if_neg a1,if_neg a2,hq];simp only[if_neg a3];exact hk
 .rw[if_neg h1]at hr;cases hr
def uh(o:Obj)(name:ByteArray):Obj:={o with ak:=((eh o).filter fun e=>decide (e.1.toList≠name.toList)).map fq}
def HG(q:Obj)(p:Nat):Obj:={q with am:=IntKind.i64.wrap (q.am-1),up:=if q.ah=2 then(p:Int)else q.up}
theorem JT{l:List Obj}{n p:Nat}{o q:Obj}(hn:l[n]? =some o)(hp:l[p]? =some q)(F5:n≠p)(name:ByteArray):
  (kY l n p name)[n]? =some (uh o name)/\(kY l n p name)[p]? =some (HG q p)/\(∀j,j≠n->j≠p->(kY l n p name)[j]? =l[j]?)/\(kY l n p name).length=l.length:=by
 have kM:=(aac.1 hn).1;have gE:=(aac.1 hp).1;have Ks:(l.set n (uh o name))[p]? =some q:=by rw[aas F5];exact hp
 have e:kY l n p name=(l.set n (uh o name)).set p (HG q p):=by
  unfold kY;rw[hn];simp only[];rw[show {o with ak:=((o.ak.map nu).filter fun e=>decide (e.1.toList≠name.toList)).map fq}=uh o name from rfl,Ks]
  rfl
 rw[e];refine⟨?_,?_,fun j h1 h2=>?_,aG⟩
 .rw[aas F5.symm,aal kM]
 .rw[aal (by simpa using gE)]
 .rw[aas (fun e=>h2 e.symm),aas (fun e=>h1 e.symm)]
theorem KI.F6{k:Kr}(h:KI k){cL:Int}{name:ByteArray}(he:(da k.l cL name).2.2=0):KI ⟨(da k.l cL name).1,k.ops,k.ps⟩:=by
 obtain⟨n,p,o,q,rfl,hn,jz,hf,hp,PN,hR,_⟩:=AR he;have JS:=aag hn;have PX:=aag hp;have pk:=h.en o JS;obtain⟨e0,C8,N9,ZU⟩:∃e0,e0∈eh o/\e0.1.toList=name.toList/\e0.2=(p:Int):=by
  rcases ju (eh o) name with⟨e,a1,a2,a3⟩|⟨a3,_⟩
  .exact⟨e,a1,a2,om⟩
  .omega
 have TE:q.ak=[]:=by
  by_cases hk:q.ah=2
  .exact aat (by
    have:=fun h=>PN ⟨hk,h⟩
    omega)
  .exact(h.en q PX).cL hk
 have ZW:eh q=[]:=by unfold eh;rw[TE];rfl
 have F5:n≠p:=fun e=>by subst e;rw[hn]at hp;cases hp;rw[ZW]at C8;cases C8
 obtain⟨p',x,b1,_,b3,JO,Bq,_⟩:=h.rJ.tr n (uB o) e0 (f4 hn) C8;have:p'=p:=om;subst this;rw[f4 hp]at b3;cases b3;have JO:q.ah≠0:=JO;have Bq:q.am=1:=Bq;rw[hR];obtain⟨g1,g2,g3,g4⟩:=JT hn hp F5 name;have ug:eh (uh o name)=(eh o).filter fun e=>decide (e.1.toList≠name.toList):=by
  show((((eh o).filter fun e=>decide (e.1.toList≠name.toList)).map fq).map nu)=_
  exact m6 _
 have kN:∀e,e∈eh (uh o name)↔e∈eh o/\e≠e0:=fun e=>by rw[ug,acU,decide_eq_true_eq];refine⟨fun⟨a,b⟩=>⟨a,fun e1=>by subst e1;exact b N9⟩,fun⟨a,b⟩=>⟨a,fun e1=>b (vR pk.DL a C8 (e1.trans N9.symm))⟩⟩
 have Nw:eh (HG q p')=[]:=ZW;have hw:IntKind.i64.wrap (q.am-1)=0:=by rw[Bq];rfl
 have hm:∀(j:Nat)x,k.l[j]? =some x->x.ah≠0->∃y,(kY k.l n p' name)[j]? =some y/\y.ah≠0:=fun j x hx hk=>by
  by_cases e:j=n
  .subst e;rw[hn]at hx;cases hx;exact⟨_,g1,hk⟩
  .by_cases e2:j=p'
   .subst e2;rw[hp]at hx;cases hx;exact⟨_,g2,hk⟩
   .exact⟨x,by rw[g3 j e e2];exact hx,hk⟩
 have o6:∀(i:Nat)x,(kY k.l n p' name)[i]? =some x->(i=n/\x=uh o name)\/(i=p'/\x=HG q p')\/(i≠n/\i≠p'/\k.l[i]? =some x):=fun i x hx=>by
  by_cases e:i=n
  .subst e;rw[g1]at hx;cases hx;exact .inl ⟨rfl,rfl⟩
  .by_cases e2:i=p'
   .subst e2;rw[g2]at hx;cases hx;exact .inr (.inl ⟨rfl,rfl⟩)
   .rw[g3 i e e2]at hx;exact .inr (.inr ⟨e,e2,hx⟩)
 refine h.AQ (by rw[g4];exact h.ll) hm (fun x hx=>?_) (fun i x hx h4=>?_) ?_
 .obtain⟨i,hi⟩:=aam hx;rcases o6 i x hi with⟨rfl,rfl⟩|⟨rfl,rfl⟩|⟨_,_,hx⟩
  .have hO:=h.bv hm JS;refine⟨⟨⟨hO.sm.t.1,⟨_,rfl⟩,hO.sm.t.2.2⟩,hO.sm.d,?_,hO.sm.q,hO.sm.qd⟩,hO.d,hO.q,hO.p,?_,fun hz=>absurd hz (by rw[show(uh o name).ah=o.ah from rfl,jz];decide)⟩
   .show(((eh o).filter fun e=>decide (e.1.toList≠name.toList)).map fq).length<=8
    rw[aad];have:=abJ (fun e:NE=>decide (e.1.toList≠name.toList)) (eh o)
    have:=pk.len;have:=hO.sm.e;omega
   .exact⟨by rw[ug];rfl,by rw[ug];exact pk.DL.filter _,fun hk=>absurd jz hk,fun e hx=>hO.e.to e ((kN e).1 hx).1⟩
  .have hO:=h.bv hm PX;exact⟨⟨hO.sm.t,hO.sm.d,hO.sm.e,hO.sm.q,hO.sm.qd⟩,hO.d,hO.q,hO.p,⟨hO.e.eq,hO.e.DL,hO.e.cL,hO.e.to⟩,fun hz=>absurd hz JO⟩
  .exact h.bv hm (aag hx)
 .have key:∀(i:Nat)y,k.l[i]? =some y->y.ah=4->y.aJ= -1\/∃(j:Nat)(x:Obj),y.aJ=j/\(kY k.l n p' name)[j]? =some x/\x.ah=4/\x.aJ=i:=fun i y hy Nv=>by
   rcases h.pe i y hy Nv with h1|⟨j,z,h1,h2,h3,h4⟩
   .exact .inl h1
   .right;by_cases e:j=n
    .subst e;rw[hn]at h2;cases h2;omega
    .by_cases e2:j=p'
     .subst e2;rw[hp]at h2;cases h2;exact⟨j,_,h1,g2,h3,h4⟩
     .exact⟨j,z,h1,by rw[g3 j e e2];exact h2,h3,h4⟩
  rcases o6 i x hx with⟨rfl,rfl⟩|⟨rfl,rfl⟩|⟨_,_,hx⟩
  .exact key _ o hn h4
  .exact key _ q hp h4
  .exact key i x hx h4
 .exact h.rJ.F6 (f4 hn) C8 ZU (f4 hp) ZW (f4 g1) (f4 g2) (fun j a b=>by rw[aaf,aaf,g3 j a b]) ⟨rfl,rfl,rfl⟩ kN ⟨rfl,hw,Nw,rfl⟩
theorem Nx(k:Kr):PW k (bR (-1)):=⟨⟨⟨⟨[],rfl⟩,⟨[],rfl⟩,by simp[bR]⟩,by simp[bR],by simp[bR],by simp[bR],by simp[bR]⟩,by simp[bR],rfl,rfl,by simp[bR],rfl,rfl,fun _=>rfl,fun h=>by simp[bR]at h⟩
structure We(l:List Obj)(P:List Obj×(Int×Int)×Int)(a b:Nat):Prop where
 ea:P.2.1.1=a
 eb:P.2.1.2=b
 ab:a≠b
 za:∀d,l[a]? =some d->d.ah=0
 zb:∀d,l[b]? =some d->d.ah=0
 ga:P.1[a]? =some (bR b)
 gb:P.1[b]? =some (bR a)
 go:∀i,i≠a->i≠b->P.1[i]? =l[i]?
 m:∀x,x∈P.1->x∈l\/x=bR b\/x=bR a
 ll:P.1.length<=40
theorem F9{l:List Obj}(hl:l.length<=40)(h:(fp l).2.2=0):(aK l (bR (-1))).2.2=0/\∃a b:Nat,(aK l (bR (-1))).2.1=a/\We l (fp l) a b/\(∀d,(aK l (bR (-1))).1[b]? =some d->d.ah=0):=by
 unfold fp at h;by_cases h1:(aK l (bR (-1))).2.2=0
 .refine⟨h1,?_⟩;rw[if_neg (by simp[h1])]at h
  obtain⟨a,e1,a2,a3,a4,a5,a6⟩:=gd h1 hl;by_cases h2:(aK (aK l (bR (-1))).1 (bR (aK l (bR (-1))).2.1)).2.2=0
  .obtain⟨b,b1,b2,b3,b4,b5,b6⟩:=gd h2 a5;have DH:a≠b:=fun e=>by subst e;have:=b4 _ a2;simp[bR]at this
   have hP:fp l=(lL (aK (aK l (bR (-1))).1 (bR (aK l (bR (-1))).2.1)).1 a b,((a:Int),(b:Int)),0):=by
    rw[fp,if_neg (by simp[h1]),if_neg (by simp[h2]),e1]
    rw[e1]at b1;rw[b1,aaw]
   rw[e1]at b2 b3 hP b5 b6;have ha:(aK (aK l (bR (-1))).1 (bR (a:Int))).1[a]? =some (bR (-1)):=by rw[b3 a DH];exact a2
   have Qt:=(aac.1 ha).1;have zS:lL (aK (aK l (bR (-1))).1 (bR (a:Int))).1 a b=(aK (aK l (bR (-1))).1 (bR (a:Int))).1.set a (bR b):=by rw[lL,ha];rfl
   rw[zS]at hP;refine⟨a,b,e1,?_,b4⟩;rw[hP];refine⟨rfl,rfl,DH,a4,fun d hd=>b4 d (by rw[a3 b (fun e=>DH e.symm)];exact hd),aal Qt,by rw[aas DH];exact b2,fun i h3 h4=>by rw[aas (fun e=>h3 e.symm),b3 i h4,a3 i h3],fun x hx=>?_,by rw[aaE];exact b5⟩
   rcases aaI hx with hx|hx
   .rcases b6 x hx with hx|hx
    .rcases a6 x hx with hx|hx
     .exact .inl hx
     .obtain⟨i,hi⟩:=aam (show x∈(aK (aK l (bR (-1))).1 (bR (a:Int))).1.set a (bR b)from by assumption)
      by_cases ea:i=a
      .subst ea;rw[aal Qt]at hi;cases hi;exact .inr (.inl rfl)
      .rw[aas (fun e=>ea e.symm)]at hi
       by_cases eb:i=b
       .subst eb;rw[b2]at hi;cases hi;exact .inr (.inr rfl)
       .rw[b3 i eb,a3 i ea]at hi;exact .inl (aag hi)
    .exact .inr (.inr hx)
   .exact .inr (.inl hx)
  .rw[if_pos h2]at h;exact absurd h h2
 .rw[if_pos h1]at h;exact absurd h h1
theorem KI.Ny{k:Kr}(h:KI k)(he:(fp k.l).2.2=0):KI ⟨(fp k.l).1,k.ops,k.ps⟩/\fR (fp k.l).1 (fp k.l).2.1.1/\fR (fp k.l).1 (fp k.l).2.1.2:=by
 obtain⟨h1,a,b,e1,P,Xl⟩:=F9 h.ll he;have h2:=h.make (Nx k) h1;obtain⟨a',e1',a2,a3,a4,a5,a6⟩:=gd h1 h.ll;have:a'=a:=om;subst this;have hEK:∀p:Int,S0 k (fp k.l).1 (bR p):=fun p=>⟨⟨⟨⟨[],rfl⟩,⟨[],rfl⟩,by simp[bR]⟩,by simp[bR],by simp[bR],by simp[bR],by simp[bR]⟩,by simp[bR],by simp[bR],fun h=>by simp[bR]at h,⟨rfl,List.Pairwise.nil,fun _=>rfl,fun e he=>by cases he⟩,fun h=>by simp[bR]at h⟩
 have hm:∀(j:Nat)x,k.l[j]? =some x->x.ah≠0->∃y,(fp k.l).1[j]? =some y/\y.ah≠0:=fun j x hx hk=>by
  have ea:j≠a':=fun e=>by subst e;exact hk (P.za x hx)
  have eb:j≠b:=fun e=>by subst e;exact hk (P.zb x hx)
  exact⟨x,by rw[P.go j ea eb];exact hx,hk⟩
 refine⟨h.AQ P.ll hm (fun x hx=>?_) (fun i x hx h4=>?_) ?_,⟨a',_,P.ea,P.ga,by simp[bR]⟩,⟨b,_,P.eb,P.gb,by simp[bR]⟩⟩
 .rcases P.m x hx with hx|rfl|rfl
  .exact h.bv hm hx
  .exact hEK _
  .exact hEK _
 .by_cases ea:i=a'
  .subst ea;rw[P.ga]at hx;cases hx;exact .inr ⟨b,_,rfl,P.gb,rfl,rfl⟩
  .by_cases eb:i=b
   .subst eb;rw[P.gb]at hx;cases hx;exact .inr ⟨a',_,rfl,P.ga,rfl,rfl⟩
   .rw[P.go i ea eb]at hx;rcases h.pe i x hx h4 with c|⟨j,y,c1,c2,c3,c4⟩
    .exact .inl c
    .refine .inr ⟨j,y,c1,?_,c3,c4⟩;rw[P.go j (fun e=>by subst e;have:=P.za y c2;omega) (fun e=>by subst e;have:=P.zb y c2;omega)]
     exact c2
 .refine h2.rJ.new (k:=b) (s:=uB (bR a')) ⟨by simp[uB,bR],rfl,rfl,.inl rfl⟩ (f4 P.gb) (fun j hj=>?_) fun d hd=>?_
  .rw[aaf,aaf];by_cases ea:j=a'
   .subst ea;rw[P.ga,a2];rfl
   .rw[P.go j ea hj,a3 j ea]
  .obtain⟨x,c1,rfl⟩:=oD hd;exact Xl x c1
theorem Ga{l:List Obj}{e:Int}{m:bw}(h:(fe l e m).2=0):∃(n p:Nat)(o q:Obj),e=n/\l[n]? =some o/\o.ah=4/\o.aJ=p/\l[p]? =some q/\q.ah=4/\m.data.length<=60/\q.aj.length<4/\(fe l e m).1=l.set p {q with aj:=q.aj++ [m]}:=by
 have hr:=h;unfold fe at hr;by_cases h1:e<0\/e>=l.length
 .rw[if_pos h1]at hr;cases hr
 rw[if_neg h1]at hr;have hn:e.toNat<l.length:=om;have jC:=aab hn;rw[jC]at hr;simp only[]at hr;by_cases h2:l[e.toNat].ah≠4
 .rw[if_pos h2]at hr;cases hr
 rw[if_neg h2]at hr;by_cases h3:l[e.toNat].aJ<0\/l[e.toNat].aJ>=l.length
 .rw[if_pos h3]at hr;cases hr
 rw[if_neg h3]at hr;have hp:l[e.toNat].aJ.toNat<l.length:=om;have ZX:=aab hp;rw[ZX]at hr;simp only[]at hr;by_cases h4:l[l[e.toNat].aJ.toNat].ah≠4
 .rw[if_pos h4]at hr;cases hr
 rw[if_neg h4]at hr;by_cases h5:m.data.length>60
 .rw[if_pos h5]at hr;cases hr
 rw[if_neg h5]at hr;by_cases h6:l[l[e.toNat].aJ.toNat].aj.length>=4
 .rw[if_pos h6]at hr;cases hr
 refine⟨e.toNat,l[e.toNat].aJ.toNat,_,_,om,jC,by simpa using h2,om,ZX,by simpa using h4,om,om,?_⟩
 rw[fe,if_neg h1,jC];simp only[];rw[if_neg h2,if_neg h3,ZX];simp only[];rw[if_neg h4,if_neg h5,if_neg h6]
theorem KI.send{k:Kr}(h:KI k){e:Int}{m:bw}(ht:m.Kk)(hc:m.has=true->fy k m.eT m.cf)(he:(fe k.l e m).2=0):KI ⟨(fe k.l e m).1,k.ops,k.ps⟩:=by
 obtain⟨n,p,o,q,_,_,_,_,hp,hq4,Tj,Bq,hR⟩:=Ga he;have PX:=aag hp;have hs:=h.sm q PX;rw[hR];refine h.JC hp ⟨rfl,rfl,rfl,rfl,rfl,rfl⟩ om ⟨⟨hs.t.1,hs.t.2.1,fun x hx=>?_⟩,hs.d,hs.e,?_,fun x hx=>?_⟩ (h.PR q PX) fun x hx hh=>?_
 .rcases abf.1 hx with hx|hx
  .exact hs.t.2.2 x hx
  .simp at hx;subst hx;exact ht
 .simp only[aa3,aax,aaT];omega
 .rcases abf.1 hx with hx|hx
  .exact hs.qd x hx
  .simp at hx;subst hx;omega
 .rcases abf.1 hx with hx|hx
  .exact h.qu q PX x hx hh
  .simp at hx;subst hx;exact hc hh
theorem wU{l:List Obj}{e:Int}(h:(fw l e).2.2=0):∃(n:Nat)(o:Obj)(x:bw)(r:List bw),e=n/\l[n]? =some o/\o.ah=4/\o.aj=x::r/\(fw l e).1=l.set n {o with aj:=r}/\(fw l e).2.1=x:=by
 have hr:=h;unfold fw at hr;by_cases h1:e<0\/e>=l.length
 .rw[if_pos h1]at hr;cases hr
 rw[if_neg h1]at hr;have hn:e.toNat<l.length:=om;have jC:=aab hn;rw[jC]at hr;simp only[]at hr;by_cases h2:l[e.toNat].ah≠4
 .rw[if_pos h2]at hr;cases hr
 rw[if_neg h2]at hr;have hR:fw l e=(match l[e.toNat].aj with
  | []=>if l[e.toNat].aJ<0\/l[e.toNat].aJ>=l.length then([],mE,17)else match l[l[e.toNat].aJ.toNat]? with
   |none=>([],mE,17)
   |some q=>if q.ah≠4 then([],mE,17)else([],mE,16)
  |x::r=>(l.set e.toNat {l[e.toNat]with aj:=r},x,0)):=by
  rw[fw,if_neg h1,jC];simp only[];rw[if_neg h2];rfl
 cases hq:l[e.toNat].aj with
 |nil=>
  rw[hq]at hr;simp only[]at hr;split at hr
  .cases hr
  .split at hr
   .cases hr
   .split at hr<;>cases hr
 |cons x r=>
  rw[hq]at hR;refine⟨e.toNat,_,x,r,om,jC,by simpa using h2,hq,?_,?_⟩<;>rw[hR]
theorem KI.recv{k:Kr}(h:KI k){e:Int}(he:(fw k.l e).2.2=0):KI ⟨(fw k.l e).1,k.ops,k.ps⟩/\((fw k.l e).2.1.has=true->fy k (fw k.l e).2.1.eT (fw k.l e).2.1.cf):=by
 obtain⟨n,o,x,r,_,hn,ho4,hq,hR,hx⟩:=wU he;have JS:=aag hn;have hs:=h.sm o JS;rw[hR,hx];have sa:∀y,y∈r->y∈o.aj:=fun y hy=>by rw[hq];exact ab2 _ hy
 refine⟨h.JC hn ⟨rfl,rfl,rfl,rfl,rfl,rfl⟩ om ⟨⟨hs.t.1,hs.t.2.1,fun y hy=>hs.t.2.2 y (sa y hy)⟩,hs.d,hs.e,?_,fun y hy=>hs.qd y (sa y hy)⟩ (h.PR o JS) fun y hy hh=>h.qu o JS y (sa y hy) hh,fun hh=>h.qu o JS x (by rw[hq];simp) hh⟩
 have:=hs.q;rw[hq]at this;simp only[aax]at this⊢;omega
end Kn
end Go.Proofs.YtojhmadmlnfpcaaGreatDoor
