/- Part 36 of 39: what the law stands on. -/
import Derived.Test.YtodckkkbiidffaaGreatDoorT16
import Derived.Test.YtodckkkbiidffaaGreatDoorT35
set_option linter.unusedVariables false
set_option linter.unusedSimpArgs false
set_option linter.unnecessarySimpa false
set_option maxRecDepth 100000
set_option maxHeartbeats 64000000
namespace Go.Proofs.YtodckkkbiidffaaGreatDoor
open Go.AM Go.ChangeShapes Go.WideShapes Go.ChangeAt Go.RowKit
namespace Kn
structure Dq(l:List Obj)(o:Obj):Prop where
 eq:o.aj=(dF o).map fw
 Bg:B9 (dF o)
 cD:o.ah≠2->o.aj=[]
 to:∀e,e∈dF o->e.1.size<=12/\∃(j:Nat)(x:Obj),e.2=j/\l[j]? =some x/\x.ah≠0
def ft(l:List Obj)(z:Int):Prop:=∃(j:Nat)(x:Obj),z=j/\l[j]? =some x/\x.ah≠0
def fh(k:Kr)(z r:Int):Prop:=(0<=r/\r<=4095)/\∃(n:Nat)(o:bD),z=n/\k.ops[n]? =some o/\ft k.l o.br
structure KI(k:Kr):Prop where
 ll:k.l.length<=40
 lo:k.ops.length<=60
 lp:k.ps.length<=8
 sm:∀o,o∈k.l->o.sm
 sl:∀x,x∈k.ps->x.bd.length<=10
 ne:k.ps≠[]
 aO:∀x,x∈k.ps->x.a7=false->x.bd=[]
 cap:∀x,x∈k.ps->∀s,s∈x.bd->s.has=true->fh k s.eE s.cn
 qu:∀o,o∈k.l->∀q,q∈o.ak->q.has=true->fh k q.eE q.cn
 pr:∀o,o∈k.l->o.ah=5->∃n:Nat,o.aM=n/\n<k.ps.length
 en:∀o,o∈k.l->Dq k.l o
 z:∀o,o∈k.l->o.ah=0->o=gE
 pe:∀(i:Nat)o,k.l[i]? =some o->o.ah=4->o.aC= -1\/∃(j:Nat)(x:Obj),o.aC=j/\k.l[j]? =some x/\x.ah=4/\x.aC=i
 cT:∀o,o∈k.ops->0<=o.cT/\o.cT<=64
 MA:∀o,o∈k.l->o.data.length<=60
 pU:Tree (k.l.map sD)
theorem KI.kr{k:Kr}(h:KI k):dz k.l k.ops k.ps:=⟨h.sm,by have:=h.ll;omega,by have:=h.lo;omega,by have:=h.lp;omega,h.sl,h.ne⟩
theorem fz{l:List Obj}{i:Nat}{o:Obj}(h:l[i]? =some o):(l.map sD)[i]? =some (sD o):=by rw[NO,h];rfl
theorem nh{l:List Obj}{i:Nat}{d:Sk}(h:(l.map sD)[i]? =some d):∃o,l[i]? =some o/\d=sD o:=by
 rw[NO]at h;cases ho:l[i]? with
 |none=>rw[ho]at h;cases h
 |some o=>rw[ho]at h;cases h;exact⟨o,rfl,rfl⟩
theorem KI.up{k:Kr}(h:KI k){o:Obj}(ho:o∈k.l):0<=o.up/\o.up<k.l.length:=by obtain⟨i,hi⟩:=Un ho;have:=h.pU.Tg (fz hi);rwa [KB]at this
theorem KI.ap{k:Kr}(h:KI k):∃o,k.l[0]? =some o/\o.ah=2:=by obtain⟨d,h1,h2,_⟩:=h.pU.r0;obtain⟨o,h3,rfl⟩:=nh h1;exact⟨o,h3,h2⟩
theorem KI.pos{k:Kr}(h:KI k):0<k.l.length:=by obtain⟨o,h1,_⟩:=h.ap;exact(Gf.1 h1).1
theorem Dq.len{l:List Obj}{o:Obj}(h:Dq l o):(dF o).length=o.aj.length:=by have:=congrArg List.length h.eq;rw[KB]at this;exact this.symm
theorem KI.Bg{k:Kr}(h:KI k):uy k.l:=by
 refine⟨⟨by have:=h.ll;omega,fun o ho=>(h.sm o ho).mz⟩,fun o ho=>?_⟩
 have he:=h.en o ho;refine⟨dF o,he.eq,he.Bg,by rw[he.len];have:=(h.sm o ho).e;omega,fun e hx=>?_⟩
 obtain⟨_,j,x,h1,h2,_⟩:=he.to e hx;have:=(Gf.1 h2).1;omega
theorem KI.lk{k:Kr}(h:KI k):lT (k.l.map Obj.ob):=by
 refine⟨by rw[KB];have:=h.ll;omega,by rw[KB];exact h.pos,fun o ho=>?_,fun o ho=>?_,fun o ho=>?_⟩
 .obtain⟨x,hx,rfl⟩:=Z5.1 ho;have he:=h.en x hx;refine⟨dF x,he.eq,he.Bg,fun e Vf=>?_,fun hk=>?_⟩
  .obtain⟨_,j,y,h1,h2,_⟩:=he.to e Vf;have:=(Gf.1 h2).1;rw[KB];omega
  .have:=he.cD hk;show x.aj.map ma=[];rw[this];rfl
 .obtain⟨x,hx,rfl⟩:=Z5.1 ho;have:=(h.sm x hx).e;show x.aj.length<=64;omega
 .obtain⟨x,hx,rfl⟩:=Z5.1 ho;have:=h.up hx;rw[KB];exact this
def wP(x o:Obj):Prop:=x=o\/x={o with aC:= -1}
theorem wP.all{x o:Obj}(h:wP x o):x.ah=o.ah/\x.data=o.data/\x.aj=o.aj/\x.target=o.target/\x.ak=o.ak/\x.aM=o.aM/\x.am=o.am/\x.up=o.up:=by
 rcases h with rfl|rfl<;>exact⟨rfl,rfl,rfl,rfl,rfl,rfl,rfl,rfl⟩
theorem wP.sk{x o:Obj}(h:wP x o):sD x=sD o:=by obtain⟨h1,_,h2,_,_,_,h3,h4⟩:=h.all;unfold sD dF;rw[h1,h2,h3,h4]
theorem jj{l:List Obj}(hz:∀o,o∈l->o.ah=0->o=gE)(b:Mk){i:Nat}{o:Obj}(ho:l[i]? =some o):
  (cA b l l.length i o=gE/\(o.ah=0\/¬dt b.O i))\/(dt b.O i/\o.ah≠0/\((cA b l l.length i o=o/\(o.ah=4->∀(j:Nat)x,o.aC=j->l[j]? =some x->x.ah≠0->dt b.O j))\/
   (cA b l l.length i o={o with aC:= -1}/\o.ah=4/\∃(j:Nat)(x:Obj),o.aC=j/\l[j]? =some x/\¬dt b.O j))):=by
 have hi:=(Gf.1 ho).1;have VU:∀j,(b.O[j]? ==some true)=true↔dt b.O j:=fun j=>by unfold dt;simp
 have ur:∀(j:Nat)x,l[j]? =some x->(eT b l j=true↔¬dt b.O j/\x.ah≠0):=fun j x hx=>by unfold eT;rw[hx];simp only[SD,aaT,bne_iff_ne,ne_eq];rw[<-VU j];simp
 unfold cA;by_cases h1:(eT b l i&&decide (i<l.length))=true
 .rw[if_pos h1];rw[SD]at h1;exact .inl ⟨rfl,.inr ((ur i o ho).1 h1.1).1⟩
 .rw[if_neg h1];have pZ:¬eT b l i=true:=fun h=>h1 (by rw[h];simpa using hi)
  by_cases hk:o.ah=0
  .have:=hz o (NQ ho) hk;subst this;exact .inl ⟨rfl,.inl rfl⟩
  .have hM:dt b.O i:=Yh fun hn=>pZ ((ur i o ho).2 ⟨hn,hk⟩)
   refine .inr ⟨hM,hk,?_⟩;by_cases h2:(o.ah==4&&nU b l l.length o.aC)=true
   .rw[if_pos h2];rw[SD]at h2;refine .inr ⟨rfl,by simpa using h2.1,?_⟩
    have h3:=h2.2;unfold nU at h3;rw[SD,decide_eq_true_eq]at h3;obtain⟨⟨h4,h5⟩,h6⟩:=h3;refine⟨o.aC.toNat,l[o.aC.toNat],om,sA h5,((ur _ _ (sA h5)).1 h6).1⟩
   .rw[if_neg h2];refine .inl ⟨rfl,fun h4 j x hp hx W7=>?_⟩
    refine Yh fun hn=>h2 ?_
    have hj:=(Gf.1 hx).1;rw[h4,SD];refine⟨rfl,?_⟩;unfold nU;rw[hp,Wk,(ur j x hx).2 ⟨hn,W7⟩,Bool.and_true,decide_eq_true_eq];omega
theorem GU(L:List Obj)(k t:Nat)(x:bj):wu L k t x=fF\/wu L k t x=x:=by
 unfold wu;split
 .exact .inl rfl
 .exact .inr rfl
theorem MB:gE.data.length<=60:=by simp[gE]
theorem KI.Tj{k c:Kr}{en:Bool}(h:KI k)(ho:da k.l k.ops k.ps c.l c.ops c.ps en):KI c:=by
 obtain⟨b,hb,hL,hP⟩:=ho.ex;have hR:=ho.pr;have nJ:∀(i:Nat)x,c.l[i]? =some x->x=gE\/∃o,k.l[i]? =some o/\dt b.O i/\o.ah≠0/\wP x o:=fun i x hx=>by
  obtain⟨o,h1,h2⟩:=hL.get hx;rcases jj h.z b h1 with⟨h3,_⟩|⟨h3,h4,h5⟩
  .exact .inl (h2.trans h3)
  .refine .inr ⟨o,h1,h3,h4,?_⟩;rcases h5 with⟨h5,_⟩|⟨h5,_⟩
   .exact .inl (h2.trans h5)
   .exact .inr (h2.trans h5)
 have eQ:∀(i:Nat)o,k.l[i]? =some o->dt b.O i->o.ah≠0->∃x,c.l[i]? =some x/\wP x o:=fun i o h1 hM hk=>by
  refine⟨_,hL.2 i o h1,?_⟩;rcases jj h.z b h1 with⟨_,h4|h4⟩|⟨_,_,⟨h5,_⟩|⟨h5,_⟩⟩
  .exact absurd h4 hk
  .exact absurd hM h4
  .exact .inl h5
  .exact .inr h5
 have yx:∀z,ft k.l z->(∀n:Nat,vO k.l z n->dt b.O n)->ft c.l z:=fun z⟨j,x,h1,h2,h3⟩hm=>by
  obtain⟨y,h4,h5⟩:=eQ j x h2 (hm j ⟨h1,x,h2,h3⟩) h3;exact⟨j,y,h1,h4,by rw[h5.all.1];exact h3⟩
 have dJ:∀z r,fh k z r->(∀n:Nat,vP k.ops z n->dt b.P n)->fh c z r:=fun z r⟨hr,n,o,h1,h2,h3⟩hm=>by
  have hn:=(Gf.1 h2).1;have hM:=hm n ⟨h1,hn⟩;refine⟨hr,n,o,h1,?_,yx _ h3 fun j hv=>hb.cl.p n o hM h2 j hv⟩
  rw[hP.2 n o h2,Bc,if_neg];have:(b.P[n]? ==some true)=true:=by unfold dt at hM;rw[hM];rfl
  rw[this];simp
 have hlen:c.l.length=k.l.length:=hL.1;have mem:∀x,x∈c.l->∃i:Nat,c.l[i]? =some x:=fun x hx=>Un hx
 have Kh:∀x,x∈c.ps->x=fF\/x∈k.ps:=fun x hx=>by
  obtain⟨t,ht⟩:=Un hx;obtain⟨o,h1,h2⟩:=hR.get ht;rcases GU c.l k.ps.length t o with h3|h3
  .exact .inl (h2.trans h3)
  .exact .inr (by rw[h2,h3];exact NQ h1)
 refine⟨by rw[hlen];exact h.ll,by rw[hP.1];exact h.lo,by rw[hR.1];exact h.lp,(ho.kr h.kr).sm,(ho.kr h.kr).sl,(ho.kr h.kr).ne,fun x hx hl=>?_,fun x hx s hs hh=>?_,fun o iG q hq hh=>?_,fun o iG h5=>?_,fun o iG=>?_,fun o iG hk=>?_,fun i o hi h4=>?_,fun o iG=>?_,fun o iG=>?_,?_⟩
 .rcases Kh x hx with rfl|hx
  .rfl
  .exact h.aO x hx hl
 .rcases Kh x hx with rfl|sn
  .cases hs
  .cases hl:x.a7 with
   |false=>rw[h.aO x sn hl]at hs;cases hs
   |true=>
    obtain⟨p,hp⟩:=Un sn;exact dJ _ _ (h.cap x sn s hs hh) fun n hv=>hb.tU.2 p x hp hl s hs hh n hv
 .obtain⟨i,hi⟩:=mem o iG;rcases nJ i o hi with rfl|⟨y,h1,hM,hk,hs⟩
  .cases hq
  .rw[hs.all.2.2.2.2.1]at hq;exact dJ _ _ (h.qu y (NQ h1) q hq hh) fun n hv=>hb.cl.q i y hM h1 q.eE n ⟨q,hq,hh,rfl⟩ hv
 .obtain⟨i,hi⟩:=mem o iG;rcases nJ i o hi with rfl|⟨y,h1,hM,hk,hs⟩
  .cases h5
  .rw[hs.all.1]at h5;rw[hs.all.2.2.2.2.2.1,hR.1];exact h.pr y (NQ h1) h5
 .obtain⟨i,hi⟩:=mem o iG;rcases nJ i o hi with rfl|⟨y,h1,hM,hk,hs⟩
  .exact⟨rfl,List.Pairwise.nil,fun _=>rfl,fun e he=>by cases he⟩
  .have he:=h.en y (NQ h1);have mC:dF o=dF y:=by unfold dF;rw[hs.all.2.2.1]
   refine⟨by rw[hs.all.2.2.1,mC];exact he.eq,by rw[mC];exact he.Bg,fun hn=>by rw[hs.all.2.2.1];exact he.cD (by rw[<-hs.all.1];exact hn),fun e hx=>?_⟩
   rw[mC]at hx;obtain⟨h2,j,x,h3,h4,h5⟩:=he.to e hx;have BC:sE y e.2:=⟨e.1,by rw[he.eq];exact Z5.2 ⟨e,hx,rfl⟩⟩
   obtain⟨x',h6,h7⟩:=eQ j x h4 (hb.cl.e i y hM h1 e.2 j BC ⟨h3,x,h4,h5⟩) h5;exact⟨h2,j,x',h3,h6,by rw[h7.all.1];exact h5⟩
 .obtain⟨i,hi⟩:=mem o iG;rcases nJ i o hi with rfl|⟨y,h1,hM,oh,hs⟩
  .rfl
  .exact absurd (hs.all.1▸hk) oh
 .obtain⟨y,h1,h2⟩:=hL.get hi;rcases jj h.z b h1 with⟨h3,_⟩|⟨hM,hk,h5⟩
  .rw[h2,h3]at h4;cases h4
  .rcases h5 with⟨h5,h6⟩|⟨h5,_⟩
   .rw[h2,h5]at h4⊢;rcases h.pe i y h1 h4 with h7|⟨j,x,h7,h8,h9,Px⟩
    .exact .inl h7
    .refine .inr ⟨j,cA b k.l k.l.length j x,h7,hL.2 j x h8,?_⟩;have Qj:=h6 h4 j x h7 h8 om;rcases jj h.z b h8 with⟨_,C9|C9⟩|⟨_,_,⟨C9,_⟩|⟨_,_,j',x',DX,Bh,J4⟩⟩
     .omega
     .exact absurd Qj C9
     .rw[C9];exact⟨h9,Px⟩
     .have:j'=i:=om;subst this;exact absurd hM J4
   .rw[h2,h5];exact .inl rfl
 .obtain⟨t,ht⟩:=Un iG;obtain⟨x,h1,h2⟩:=hP.get ht;rw[h2,Bc];split
  .exact⟨abK _,by show(0:Int)<=64;omega⟩
  .exact h.cT x (NQ h1)
 .obtain⟨i,hi⟩:=mem o iG;rcases nJ i o hi with rfl|⟨y,h1,hM,hk,hs⟩
  .exact MB
  .rw[hs.all.2.1];exact h.MA y (NQ h1)
 .obtain⟨r,yQ,sR⟩:=h.ap;refine h.pU.sub (M:=dt b.O) (hb.tU.1 0 ⟨rfl,r,yQ,om⟩) (fun i d e j hM hd he hj=>?_) (fun i d hM hd hk=>?_) (fun i d' xq=>?_)
  .obtain⟨o,h1,rfl⟩:=nh hd;have rY:=h.en o (NQ h1);obtain⟨_,j',x,h3,h4,h5⟩:=rY.to e he;have:j'=j:=om;subst this;exact hb.cl.e i o hM h1 e.2 j' ⟨e.1,by rw[rY.eq];exact Z5.2 ⟨e,he,rfl⟩⟩ ⟨h3,x,h4,h5⟩
  .obtain⟨o,h1,rfl⟩:=nh hd;obtain⟨x,h2,h3⟩:=eQ i o h1 hM hk;rw[<-h3.sk];exact fz h2
  .obtain⟨x,h1,rfl⟩:=nh xq;rcases nJ i x h1 with rfl|⟨y,h2,hM,hk,hs⟩
   .exact .inl rfl
   .exact .inr ⟨by rw[hs.sk];exact fz h2,hM⟩
theorem Ki{α:Type}{l:List α}{n i:Nat}{x:α}(h:(l.take n)[i]? =some x):l[i]? =some x/\i<n:=by
 rw[aaj]at h;split at h
 .exact⟨h,by assumption⟩
 .cases h
theorem AN{α:Type}{l:List α}{n i:Nat}{x:α}(h:l[i]? =some x)(hi:i<n):(l.take n)[i]? =some x:=by rw[aaj,if_pos hi];exact h
theorem GV(O:List Obj)(k t:Nat)(x:bj):xP O k t x=fF\/xP O k t x=x:=by
 unfold xP;split
 .exact .inl rfl
 .exact .inr rfl
theorem KI.iu{c d:Kr}(h:KI c)(hf:kp c d):KI d:=by
 obtain⟨n1,n2,n3,P,h1,h2,h3,h4,rfl⟩:=hf.ex;have eQ:∀(i:Nat)o,c.l[i]? =some o->o.ah≠0->(c.l.take n1)[i]? =some o:=fun i o ho hk=>AN ho (abP fun hle=>hk (by simpa[qO]using h1.t.dr i o hle ho))
 have yx:∀z,ft c.l z->ft (c.l.take n1) z:=fun z⟨j,x,a1,a2,a3⟩=>⟨j,x,a1,eQ j x a2 a3,a3⟩
 have dJ:∀z r,fh c z r->fh ⟨c.l.take n1,c.ops.take n2,P.take n3⟩ z r:=fun z r⟨hr,n,o,a1,a2,a3⟩=>by
  refine⟨hr,n,o,a1,AN a2 (abP fun hle=>?_),yx _ a3⟩
  have hq:=h2.t.dr n o hle a2;obtain⟨j,_,e,_⟩:=a3;simp only[qP,decide_eq_true_eq]at hq;omega
 have dd:=h.pos;have og:1<=n1:=by have:=h1.t.mn;omega
 have Ud:P.length=c.ps.length:=h3.1;have oP:0<c.ps.length:=abX.2 h.ne;have SJ:1<=n3:=by have:=h4.t.mn;omega
 have aa2:=h4.t.le;have Kh:∀x,x∈P.take n3->x=fF\/x∈c.ps:=fun x hx=>by
  obtain⟨t,ht⟩:=Un (aaw hx);obtain⟨o,a1,a2⟩:=h3.get ht;rcases GV (c.l.take n1) c.ps.length t o with a3|a3
  .exact .inl (a2.trans a3)
  .exact .inr (by rw[a2,a3];exact NQ a1)
 have kr:=hf.kr h.kr;refine⟨?_,?_,?_,kr.sm,kr.sl,kr.ne,fun x hx hl=>?_,fun x hx s hs hh=>?_,fun o ho q hq hh=>dJ _ _ (h.qu o (aaw ho) q hq hh),fun o ho h5=>?_,fun o ho=>?_,fun o ho hk=>h.z o (aaw ho) hk,fun i o hi hk=>?_,fun o ho=>h.cT o (aaw ho),fun o ho=>h.MA o (aaw ho),?_⟩
 .show(c.l.take n1).length<=40;rw[Z3];have:=h.ll;omega
 .show(c.ops.take n2).length<=60;rw[Z3];have:=h.lo;omega
 .show(P.take n3).length<=8;rw[Z3];have:=h.lp;omega
 .rcases Kh x hx with rfl|hx
  .rfl
  .exact h.aO x hx hl
 .rcases Kh x hx with rfl|hx
  .cases hs
  .exact dJ _ _ (h.cap x hx s hs hh)
 .obtain⟨n,a1,a2⟩:=h.pr o (aaw ho) h5;refine⟨n,a1,?_⟩;show n<(P.take n3).length;rw[Z3];refine Nat.lt_min.2 ⟨abP fun hle=>?_,om⟩
  have hq:=h4.t.dr n P[n] hle (sA om);simp only[qR,SD,aaT]at hq;have:(c.l.take n1).any (eD (n:Int))=true:=aaB.2 ⟨o,ho,by simp[eD,h5,a1]⟩
  rw[this]at hq;cases hq.2
 .have he:=h.en o (aaw ho);refine⟨he.eq,he.Bg,he.cD,fun e hx=>?_⟩
  obtain⟨a0,j,x,a1,a2,a3⟩:=he.to e hx;exact⟨a0,j,x,a1,eQ j x a2 a3,a3⟩
 .obtain⟨a1,a2⟩:=Ki hi;rcases h.pe i o a1 hk with a3|⟨j,x,a3,a4,a5,a6⟩
  .exact .inl a3
  .exact .inr ⟨j,x,a3,eQ j x a4 om,a5,a6⟩
 .show Tree ((c.l.take n1).map sD);rw[abd];refine h.pU.take og fun i d hle hd=>?_
  obtain⟨o,a1,rfl⟩:=nh hd;have:=h1.t.dr i o hle a1;show o.ah=0;simpa[qO]using this
theorem KI.to{k a:Kr}(h:KI k)(h1:iB k a):KI a:=by
 induction h1 with
 |refl=>exact h
 |step _ ho ih=>exact ih.Tj ho
theorem KI.Tk{k:Kr}(h:KI k):KI (ox k):=by obtain⟨a,c,h1,h2,h3⟩:=(wv h.kr).ex;exact((h.to h1).Tj h2).iu h3
end Kn
namespace Kn
theorem sS{l:List Ob}{au:Nat}{ax follow:Bool}{rec:Nat->List bp.cQ->Nat->R4}{A:Nat->Prop}{Q:R4->Prop}(h0:∀e,e≠0->Q (R4.no e))(h1:∀a,A a->Q ⟨a,x8 l a,[],0⟩)(h2:∀a w,A a->(iT l a).ah=2->jH l a w<0->Q ⟨-1,a,w,0⟩)(h3:∀a w,A a->(iT l a).ah=2->¬jH l a w<0->Q ⟨jH l a w,a,w,0⟩)(MC:∀a,A a->(iT l a).ah=2->¬(ax=true/\a=au)->A (x8 l a))(MD:∀a w,A a->(iT l a).ah=2->¬jH l a w<0->A (jH l a w).toNat)(sw:∀a rest k,A a->Q (rec a rest k)):∀(parts:List bp.cQ)(a:Nat),A a->Q (Ad l au ax follow rec parts a)
 | [],a,ha=>h1 a ha
 |w::rest,a,ha=>by
  rw[Ad];split
  .exact h0 11 (by decide)
  .rename_i hk;have hk:(iT l a).ah=2:=by simpa using hk
   split
   .split
    .exact h0 14 (by decide)
    .rename_i hf;exact sS h0 h1 h2 h3 MC MD sw rest _ (MC a ha hk hf)
   .split
    .rename_i hn;split
     .exact h0 6 (by decide)
     .exact h2 a w ha hk hn
    .rename_i hn;split
     .exact sw a rest _ ha
     .split
      .exact h3 a w ha hk hn
      .exact sS h0 h1 h2 h3 MC MD sw rest _ (MD a w ha hk hn)
theorem EV{l:List Ob}{au:Nat}{ax follow:Bool}{A:Nat->Prop}{Q:R4->Prop}(h0:∀e,e≠0->Q (R4.no e))(h1:∀a,A a->Q ⟨a,x8 l a,[],0⟩)(h2:∀a w,A a->(iT l a).ah=2->jH l a w<0->Q ⟨-1,a,w,0⟩)(h3:∀a w,A a->(iT l a).ah=2->¬jH l a w<0->Q ⟨jH l a w,a,w,0⟩)(MC:∀a,A a->(iT l a).ah=2->¬(ax=true/\a=au)->A (x8 l a))(MD:∀a w,A a->(iT l a).ah=2->¬jH l a w<0->A (jH l a w).toNat)(hr:ax=false->A 0):
  ∀(n:Nat)(parts:List bp.cQ)(a:Nat),A a->Q (wB l au ax follow n parts a)
 |0,parts,a,ha=>sS h0 h1 h2 h3 MC MD (fun _ _ _ _=>h0 13 (by decide)) parts a ha
 |n+1,parts,a,ha=>by
  refine sS h0 h1 h2 h3 MC MD (fun a rest k ha=>?_) parts a ha
  rw[K3];split
  .rename_i h;exact h0 _ h
  .split
   .exact h0 14 (by decide)
   .rename_i hf;refine EV h0 h1 h2 h3 MC MD hr n _ _ ?_;split
    .rename_i fu;exact hr (by cases ax with|false=>rfl|true=>exact absurd ⟨fu,rfl⟩ hf)
    .exact ha
theorem GW{l:List Ob}{au:Int}{s:bp.cQ}{ax follow:Bool}{A:Nat->Prop}{Q:R4->Prop}(h0:∀e,e≠0->Q (R4.no e))(h1:∀a,A a->Q ⟨a,x8 l a,[],0⟩)(h2:∀a w,A a->(iT l a).ah=2->jH l a w<0->Q ⟨-1,a,w,0⟩)(h3:∀a w,A a->(iT l a).ah=2->¬jH l a w<0->Q ⟨jH l a w,a,w,0⟩)(MC:∀a,A a->(iT l a).ah=2->¬(ax=true/\a=au.toNat)->A (x8 l a))(MD:∀a w,A a->(iT l a).ah=2->¬jH l a w<0->A (jH l a w).toNat)(hr:ax=false->A 0)(hb:∀n:Nat,au=n->n<l.length->(iT l n).ah=2->A n):Q (mf l au s ax follow):=by
 rw[mf];split
 .rename_i hi;obtain⟨n,rfl,hn⟩:=IQ hi;split
  .exact h0 11 (by decide)
  .rename_i hk;have hk:(iT l n).ah=2:=by simpa using hk
   split
   .rename_i h;exact h0 _ h
   .split
    .exact h0 14 (by decide)
    .rename_i hf;refine EV h0 h1 h2 h3 MC MD hr 6 _ _ ?_;split
     .rename_i fu;exact hr (by cases ax with|false=>rfl|true=>exact absurd ⟨fu,rfl⟩ hf)
     .exact hb n rfl hn hk
 .exact h0 6 (by decide)
theorem Kj{l:List Obj}{n:Nat}{o:Obj}(h:l[n]? =some o):iT (l.map Obj.ob) n=o.ob:=by rw[iT,NO,h];rfl
theorem Tl{l:List Obj}{n:Nat}(h:(iT (l.map Obj.ob) n).ah≠0):∃o,l[n]? =some o/\iT (l.map Obj.ob) n=o.ob:=by
 cases ho:l[n]? with
 |none=>exfalso;apply h;rw[iT,NO,ho];rfl
 |some o=>exact⟨o,rfl,Kj ho⟩
theorem PQ{l:List Obj}{n:Nat}{o:Obj}(h:l[n]? =some o):x8 (l.map Obj.ob) n=o.up.toNat:=by rw[x8,Kj h];rfl
theorem PR{l:List Obj}{n:Nat}{o:Obj}(h:l[n]? =some o)(w:bp.cQ):jH (l.map Obj.ob) n w=dG (dF o) (bp.b7 w):=by rw[jH,Kj h];rfl
theorem MF{l:List Obj}{n:Nat}{o:Obj}(h:l[n]? =some o){w:bp.cQ}(hf:¬jH (l.map Obj.ob) n w<0):∃e,e∈dF o/\e.1.toList=(bp.b7 w).toList/\jH (l.map Obj.ob) n w=e.2:=by
 rw[PR h]at hf⊢;rcases iA (dF o) (bp.b7 w)with⟨e,h1,h2,h3⟩|⟨h3,_⟩
 .exact⟨e,h1,h2,h3⟩
 .omega
def AO(l:List Obj)(a:Nat):Prop:=∃o,l[a]? =some o/\o.ah≠0
theorem KI.Kk{k:Kr}(h:KI k){a:Nat}(ha:AO k.l a):AO k.l (x8 (k.l.map Obj.ob) a):=by
 obtain⟨o,h1,h2⟩:=ha;rw[PQ h1];rcases h.pU.ux a (sD o) (fz h1)with h3|h3|⟨_,u,x,e,h3,h4,h5,_⟩
 .have h3:o.up=a:=h3;rw[h3];exact⟨o,h1,h2⟩
 .have h3:o.up=0:=h3;rw[h3];obtain⟨r,h4,h5⟩:=h.ap;exact⟨r,h4,om⟩
 .have h3:o.up=u:=h3;rw[h3];obtain⟨y,h6,rfl⟩:=nh h4;refine⟨y,h6,fun hz=>?_⟩
  have:=h.z y (NQ h6) hz;subst this;cases h5
theorem KI.wQ{k:Kr}(h:KI k){a:Nat}{w:bp.cQ}(ha:AO k.l a)(hf:¬jH (k.l.map Obj.ob) a w<0):AO k.l (jH (k.l.map Obj.ob) a w).toNat/\0<=jH (k.l.map Obj.ob) a w:=by obtain⟨o,h1,_⟩:=ha;obtain⟨e,h3,_,h4⟩:=MF h1 hf;obtain⟨_,j,x,h5,h6,h7⟩:=(h.en o (NQ h1)).to e h3;rw[h4,h5];exact⟨⟨x,h6,h7⟩,om⟩
theorem KI.PS{k:Kr}(h:KI k)(au:Int)(s:bp.cQ)(ax follow:Bool):(fW k au s ax follow).f4=0->(fW k au s ax follow).br= -1\/ft k.l (fW k au s ax follow).br:=by
 refine GW (A:=AO k.l) (Q:=fun r=>r.f4=0->r.br= -1\/ft k.l r.br) (fun e he h0=>absurd h0 he) (fun a⟨o,h1,h2⟩ _=>.inr ⟨a,o,rfl,h1,h2⟩) (fun _ _ _ _ _ _=>.inl rfl) (fun a w ha _ hf _=>?_)
  (fun a ha _ _=>h.Kk ha) (fun a w ha _ hf=>(h.wQ ha hf).1) (fun _=>?_) (fun n _ hn hk=>?_)
 .obtain⟨⟨o,h1,h2⟩,h3⟩:=h.wQ ha hf;exact .inr ⟨_,o,by show jH _ _ _=_;omega,h1,h2⟩
 .obtain⟨r,h4,h5⟩:=h.ap;exact⟨r,h4,om⟩
 .obtain⟨o,h1,h2⟩:=Tl (l:=k.l) (n:=n) (by rw[hk];decide)
  rw[h2]at hk;have hk:o.ah=2:=hk;exact⟨o,h1,om⟩
theorem fh.at{k:Kr}{z r:Int}(h:fh k z r):∃n j:Nat,z=n/\n<k.ops.length/\kq k.ops n=j/\j<k.l.length:=by obtain⟨_,n,o,h1,h2,j,x,h3,h4,_⟩:=h;refine⟨n,j,h1,(Gf.1 h2).1,?_,(Gf.1 h4).1⟩;rw[kq,Wk,h2];exact h3
theorem KI.dJ{k:Kr}(h:KI k){p:Nat}{s:fq}(hs:s∈aW k.ps p)(hh:s.has=true):fh k s.eE s.cn:=by
 unfold aW at hs;cases hp:k.ps[p]? with
 |none=>rw[hp]at hs;cases hs
 |some x=>rw[hp]at hs;exact h.cap x (NQ hp) s hs hh
theorem KI.kw{k:Kr}(h:KI k){p:Nat}(hp:p<k.ps.length):KW k p:=
 ⟨h.kr,h.ll,h.Bg,h.lk,fun o ho e he=>((h.en o ho).to e he).1,hp,fun s hs hh=>(h.dJ hs hh).at⟩
end Kn
namespace Kn
theorem Dq.mono{l l':List Obj}{o:Obj}(h:Dq l o)(hm:∀(j:Nat)x,l[j]? =some x->x.ah≠0->∃y,l'[j]? =some y/\y.ah≠0):Dq l' o:=
 ⟨h.eq,h.Bg,h.cD,fun e he=>by obtain⟨h1,j,x,h2,h3,h4⟩:=h.to e he;obtain⟨y,h5,h6⟩:=hm j x h3 h4;exact⟨h1,j,y,h2,h5,h6⟩⟩
structure PT(k:Kr)(l':List Obj)(x:Obj):Prop where
 sm:x.sm
 d:x.data.length<=60
 q:∀q,q∈x.ak->q.has=true->fh k q.eE q.cn
 p:x.ah=5->∃n:Nat,x.aM=n/\n<k.ps.length
 e:Dq l' x
 z:x.ah=0->x=gE
theorem KI.br{k:Kr}(h:KI k){l':List Obj}(hm:∀(j:Nat)x,k.l[j]? =some x->x.ah≠0->∃y,l'[j]? =some y/\y.ah≠0){x:Obj}(hx:x∈k.l):PT k l' x:=
 ⟨h.sm x hx,h.MA x hx,h.qu x hx,h.pr x hx,(h.en x hx).mono hm,h.z x hx⟩
theorem fh.mono{k k':Kr}{z r:Int}(h:fh k z r)(ho:∀(n:Nat)o,k.ops[n]? =some o->ft k.l o.br->∃o',k'.ops[n]? =some o'/\ft k'.l o'.br):fh k' z r:=by obtain⟨h0,n,o,h1,h2,h3⟩:=h;obtain⟨o',h4,h5⟩:=ho n o h2 h3;exact⟨h0,n,o',h1,h4,h5⟩
theorem ft.mono{l l':List Obj}{z:Int}(h:ft l z)(hm:∀(j:Nat)x,l[j]? =some x->x.ah≠0->∃y,l'[j]? =some y/\y.ah≠0):ft l' z:=by obtain⟨j,x,h1,h2,h3⟩:=h;obtain⟨y,h4,h5⟩:=hm j x h2 h3;exact⟨j,y,h1,h4,h5⟩
theorem KI.yx{k:Kr}(h:KI k){l':List Obj}(S6:l'.length<=40)(hm:∀(j:Nat)x,k.l[j]? =some x->x.ah≠0->∃y,l'[j]? =some y/\y.ah≠0)(hx:∀x,x∈l'->PT k l' x)(y9:∀(i:Nat)o,l'[i]? =some o->o.ah=4->o.aC= -1\/∃(j:Nat)(x:Obj),o.aC=j/\l'[j]? =some x/\x.ah=4/\x.aC=i)(ht:Tree (l'.map sD)):KI ⟨l',k.ops,k.ps⟩:=by
 have dJ:∀z r,fh k z r->fh ⟨l',k.ops,k.ps⟩ z r:=fun z r hc=>hc.mono fun n o ho hi=>⟨o,ho,hi.mono hm⟩
 exact⟨S6,h.lo,h.lp,fun o ho=>(hx o ho).sm,h.sl,h.ne,h.aO,fun x hx s hs hh=>dJ _ _ (h.cap x hx s hs hh),fun o ho q hq hh=>dJ _ _ ((hx o ho).q q hq hh),fun o ho=>(hx o ho).p,fun o ho=>(hx o ho).e,fun o ho=>(hx o ho).z,y9,h.cT,fun o ho=>(hx o ho).d,ht⟩
theorem KI.GG{k:Kr}(h:KI k){n:Nat}{o o':Obj}(ho:k.l[n]? =some o)(hs:o'.ah=o.ah/\o'.aj=o.aj/\o'.up=o.up/\o'.am=o.am/\o'.aC=o.aC/\o'.aM=o.aM)(hk:o.ah≠0)(BG:o'.sm)(hd:o'.data.length<=60)(hq:∀q,q∈o'.ak->q.has=true->fh k q.eE q.cn):KI ⟨k.l.set n o',k.ops,k.ps⟩:=by
 obtain⟨s1,s2,s3,s4,s5,s6⟩:=hs;have hn:=(Gf.1 ho).1;have get:∀i:Nat,(k.l.set n o')[i]? =if i=n then some o' else k.l[i]? :=fun i=>by
  by_cases e:i=n
  .subst e;rw[if_pos rfl,Pr hn]
  .rw[if_neg e,Wf (fun x=>e x.symm)]
 have hm:∀(j:Nat)x,k.l[j]? =some x->x.ah≠0->∃y,(k.l.set n o')[j]? =some y/\y.ah≠0:=fun j x hx W7=>by
  rw[get];by_cases e:j=n
  .rw[if_pos e];exact⟨o',rfl,by rw[s1];exact hk⟩
  .rw[if_neg e];exact⟨x,hx,W7⟩
 have GX:=NQ ho;refine h.yx (by rw[Yy];exact h.ll) hm (fun x hx=>?_) (fun i x hx h4=>?_) ?_
 .rcases aac hx with hx|rfl
  .exact h.br hm hx
  .have he:=(h.en o GX).mono hm;have mC:dF x=dF o:=by unfold dF;rw[s2]
   exact⟨BG,hd,hq,fun h5=>by rw[s6];exact h.pr o GX (s1▸h5),⟨by rw[mC,s2];exact he.eq,by rw[mC];exact he.Bg,fun hn=>by rw[s2];exact he.cD (s1▸hn),fun e hx=>he.to e (mC▸hx)⟩,fun hz=>absurd (s1▸hz) hk⟩
 .have key:∀y:Obj,k.l[i]? =some y->y.ah=4->y.aC= -1\/∃(j:Nat)(x:Obj),y.aC=j/\(k.l.set n o')[j]? =some x/\x.ah=4/\x.aC=i:=fun y hy Kl=>by
   rcases h.pe i y hy Kl with h1|⟨j,z,h1,h2,h3,h4⟩
   .exact .inl h1
   .right;by_cases e:j=n
    .subst e;rw[ho]at h2;cases h2;exact⟨j,o',h1,by rw[get,if_pos rfl],by rw[s1];exact h3,by rw[s5];exact h4⟩
    .exact⟨j,z,h1,by rw[get,if_neg e];exact h2,h3,h4⟩
  rw[get]at hx;by_cases e:i=n
  .rw[if_pos e]at hx;cases hx;rw[s5];exact key o (e▸ho) (s1▸h4)
  .rw[if_neg e]at hx;exact key x hx h4
 .have:(k.l.set n o').map sD=k.l.map sD:=by
   apply aaL;intro i;rw[NO,NO,get];by_cases e:i=n
   .subst e;rw[if_pos rfl,ho];show some _=some _;unfold sD dF;rw[s1,s2,s3,s4]
   .rw[if_neg e]
  rw[this];exact h.pU
theorem gg{l:List Obj}{o:Obj}(h:(aG l o).2.2=0)(hl:l.length<=40):∃j:Nat,(aG l o).2.1=j/\(aG l o).1[j]? =some o/\(∀i,i≠j->(aG l o).1[i]? =l[i]?)/\(∀d,l[j]? =some d->d.ah=0)/\(aG l o).1.length<=40/\(∀x,x∈(aG l o).1->x∈l\/x=o):=by
 have hm:∀x,x∈(aG l o).1->x∈l\/x=o:=fun x=>wz
 revert h hm;unfold aG;split
 .rename_i k hk;intro _ hm;have oh:=aam.1 hk;refine⟨k,rfl,Pr oh.1,fun i hi=>Wf (fun e=>hi e.symm),fun d hd=>?_,by rw[Yy];exact hl,fun x hx=>hm x hx⟩
  rw[sA oh.1]at hd;cases hd;simpa using oh.2.1
 .split
  .intro h;cases h
  .rename_i S6;intro _ hm;refine⟨l.length,rfl,by rw[SF (Pq _)];simp,fun i hi=>?_,fun d hd=>?_,by simp only[aaH,Wo,aaq];omega,fun x hx=>hm x hx⟩
   .rcases Wj i l.length with h1|h1
    .exact Tz h1
    .rw[SF h1,aae h1];cases e:i-l.length with
     |zero=>omega
     |succ n=>rfl
   .rw[aae (Pq _)]at hd;cases hd
structure MG(k:Kr)(o:Obj):Prop where
 sm:o.sm
 kd:o.ah≠0
 e:o.aj=[]
 q:o.ak=[]
 d:o.data.length<=60
 l:o.am=0
 u:o.up=0
 pe:o.ah=4->o.aC= -1
 p:o.ah=5->∃n:Nat,o.aM=n/\n<k.ps.length
theorem KI.make{k:Kr}(h:KI k){o:Obj}(ho:MG k o)(he:(aG k.l o).2.2=0):KI ⟨(aG k.l o).1,k.ops,k.ps⟩:=by
 obtain⟨j,_,h2,h3,h4,h5,h6⟩:=gg he h.ll;have hm:∀(i:Nat)x,k.l[i]? =some x->x.ah≠0->∃y,(aG k.l o).1[i]? =some y/\y.ah≠0:=fun i x hx hk=>by
  by_cases e:i=j
  .subst e;exact absurd (h4 x hx) hk
  .exact⟨x,by rw[h3 i e];exact hx,hk⟩
 refine h.yx h5 hm (fun x hx=>?_) (fun i x hx Yt=>?_) ?_
 .rcases h6 x hx with hx|rfl
  .exact h.br hm hx
  .exact⟨ho.sm,ho.d,fun q hq=>(by rw[ho.q]at hq;cases hq),ho.p,⟨(by unfold dF;rw[ho.e];rfl),(by unfold dF;rw[ho.e];exact List.Pairwise.nil),fun _=>ho.e,fun e he=>(by unfold dF at he;rw[ho.e]at he;cases he)⟩,fun hz=>absurd hz ho.kd⟩
 .by_cases e:i=j
  .subst e;rw[h2]at hx;cases hx;exact .inl (ho.pe Yt)
  .rw[h3 i e]at hx;rcases h.pe i x hx Yt with a|⟨n,y,a1,a2,a3,a4⟩
   .exact .inl a
   .exact .inr ⟨n,y,a1,by rw[h3 n fun e=>by subst e;have:=h4 y a2;omega];exact a2,a3,a4⟩
 .refine h.pU.new (k:=j) (s:=sD o) ⟨ho.kd,ho.l,by unfold sD dF;rw[ho.e];rfl,.inl ho.u⟩ (fz h2) (fun i hi=>by rw[NO,NO,h3 i hi]) fun d hd=>?_
  obtain⟨x,a1,rfl⟩:=nh hd;exact h4 x a1
theorem oK{l:List Obj}{z:Int}(h:nH l z 0=true):ft l z:=by unfold nH lN at h;rw[SD,SD,decide_eq_true_eq,decide_eq_true_eq,KB]at h;obtain⟨h1,h2,h3⟩:=h;have hz:z.toNat<l.length:=om;rw[NO,sA hz]at h3;simp only[Wn,SD]at h3;refine⟨z.toNat,l[z.toNat],om,sA hz,?_⟩;have:=h3.1;simpa[Obj.ob]using this
theorem sf{b:Bool}{l:List Obj}{cD br:Int}{name:ByteArray}(h:(cO b l cD name br).2=0):∃(n p:Nat)(o q:Obj),cD=n/\br=p/\l[n]? =some o/\l[p]? =some q/\q.ah≠0/\o.ah=2/\o.am≠0/\b=true/\
  ¬dG (dF o) name>=0/\o.aj.length<8/\(cO b l cD name br).1=iD l n p name:=by
 have hr:=h;unfold cO at hr;by_cases h1:nH l cD 0=true
 .rw[if_pos h1]at hr;by_cases h2:nH l br 0=true
  .rw[if_pos h2]at hr;obtain⟨n,o,rfl,hn,_⟩:=oK h1;obtain⟨p,q,rfl,hp,hq⟩:=oK h2;rw[Wk,Wk,hn]at hr;simp only[]at hr;have hR:cO b l n name p=wF b o (iD l n p name) name:=by unfold cO;rw[if_pos h1,if_pos h2,Wk,Wk,hn]
   unfold wF at hr;by_cases a1:o.ah≠2
   .rw[if_pos a1]at hr;cases hr
   rw[if_neg a1]at hr;by_cases a2:o.am=0
   .rw[if_pos a2]at hr;cases hr
   rw[if_neg a2]at hr;by_cases a3:b=false
   .rw[if_pos a3]at hr;cases hr
   rw[if_neg a3]at hr;by_cases a4:dG (o.aj.map ma) name>=0
   .rw[if_pos a4]at hr;cases hr
   rw[if_neg a4]at hr;by_cases a5:o.aj.length>=8
   .rw[if_pos a5]at hr;cases hr
   exact⟨n,p,o,q,rfl,rfl,hn,hp,hq,by simpa using a1,a2,by simpa using a3,a4,om,by rw[hR,wF,if_neg a1,if_neg a2,if_neg a3,if_neg a4,if_neg a5]⟩
  .rw[if_neg h2]at hr;cases hr
 .rw[if_neg h1]at hr;cases hr
def pV(o:Obj)(name:ByteArray)(p:Nat):Obj:={o with aj:=(gN (name,(p:Int)) (dF o)).map fw}
def EW(q:Obj)(n:Nat):Obj:={q with am:=IntKind.i64.wrap (q.am+1),up:=if q.ah=2 then(n:Int)else q.up}
theorem wR{l:List Obj}{n p:Nat}{o q:Obj}(hn:l[n]? =some o)(hp:l[p]? =some q)(Dn:n≠p)(name:ByteArray):
  (iD l n p name)[n]? =some (pV o name p)/\(iD l n p name)[p]? =some (EW q n)/\(∀j,j≠n->j≠p->(iD l n p name)[j]? =l[j]?)/\(iD l n p name).length=l.length:=by
 have jQ:=(Gf.1 hn).1;have ix:=(Gf.1 hp).1;have J9:(l.set n (pV o name p))[p]? =some q:=by rw[Wf Dn];exact hp
 have e:iD l n p name=(l.set n (pV o name p)).set p (EW q n):=by
  unfold iD;rw[hn];simp only[];rw[show {o with aj:=(gN (name,(p:Int)) (o.aj.map ma)).map fw}=pV o name p from rfl,J9]
  rfl
 rw[e];refine⟨?_,?_,fun j h1 h2=>?_,aI⟩
 .rw[Wf Dn.symm,Pr jQ]
 .rw[Pr (by simpa using ix)]
 .rw[Wf (fun e=>h2 e.symm),Wf (fun e=>h1 e.symm)]
theorem wS(x:NE):∀es:List NE,x∈gN x es
 | []=>by simp[gN]
 |e::r=>by
  rw[gN];split
  .simp
  .exact abw _ (wS x r)
theorem AP{x y:NE}:∀{es:List NE},y∈es->y∈gN x es
 | [],h=>by cases h
 |e::r,h=>by
  rw[gN];split
  .exact abw _ h
  .rcases aaf.1 h with rfl|h
   .simp
   .exact abw _ (AP h)
theorem Dr{es:List NE}{name:ByteArray}(dd:∀e,e∈es->0<=e.2)(h:¬dG es name>=0):∀e,e∈es->e.1.toList≠name.toList:=by
 rcases iA es name with⟨e,he,_,h2⟩|⟨_,h2⟩
 .have:=dd e he;rw[h2]at h;omega
 .exact h2
theorem KI.enter{k:Kr}(h:KI k){b:Bool}{cD br:Int}{name:ByteArray}(D5:b=true->name.size<=12)(u0:∀(p:Nat)q,br=p->k.l[p]? =some q->q.am=0)(he:(cO b k.l cD name br).2=0):KI ⟨(cO b k.l cD name br).1,k.ops,k.ps⟩:=by
 obtain⟨n,p,o,q,rfl,rfl,hn,hp,GS,iQ,zs,hb,hf,h8,hR⟩:=sf he;have Qu:=u0 p q rfl hp;have Dn:n≠p:=fun e=>by subst e;rw[hn]at hp;cases hp;exact zs Qu
 rw[hR];obtain⟨g1,g2,g3,g4⟩:=wR hn hp Dn name;have GX:=NQ hn;have MH:=NQ hp;have rY:=h.en o GX;have My:q.aj=[]:=by have:=h.pU.em p (sD q) (fz hp) Qu;have h2:=(h.en q MH).eq;have this:dF q=[]:=this;rw[this]at h2;exact h2
 have sh:dF (pV o name p)=gN (name,(p:Int)) (dF o):=by unfold dF pV;exact lO _
 have Km:dF (EW q n)=dF q:=rfl;have hw:IntKind.i64.wrap (q.am+1)=1:=by rw[Qu];rfl
 have hm:∀(j:Nat)x,k.l[j]? =some x->x.ah≠0->∃y,(iD k.l n p name)[j]? =some y/\y.ah≠0:=fun j x hx hk=>by
  by_cases e:j=n
  .subst e;rw[hn]at hx;cases hx;exact⟨_,g1,hk⟩
  .by_cases e2:j=p
   .subst e2;rw[hp]at hx;cases hx;exact⟨_,g2,hk⟩
   .exact⟨x,by rw[g3 j e e2];exact hx,hk⟩
 have nJ:∀(i:Nat)x,(iD k.l n p name)[i]? =some x->(i=n/\x=pV o name p)\/(i=p/\x=EW q n)\/(i≠n/\i≠p/\k.l[i]? =some x):=fun i x hx=>by
  by_cases e:i=n
  .subst e;rw[g1]at hx;cases hx;exact .inl ⟨rfl,rfl⟩
  .by_cases e2:i=p
   .subst e2;rw[g2]at hx;cases hx;exact .inr (.inl ⟨rfl,rfl⟩)
   .rw[g3 i e e2]at hx;exact .inr (.inr ⟨e,e2,hx⟩)
 have dd:∀e,e∈dF o->0<=e.2:=fun e hx=>by obtain⟨_,j,_,h1,_⟩:=rY.to e hx;omega
 refine h.yx (by rw[g4];exact h.ll) hm (fun x hx=>?_) (fun i x hx h4=>?_) ?_
 .obtain⟨i,hi⟩:=Un hx;rcases nJ i x hi with⟨rfl,rfl⟩|⟨rfl,rfl⟩|⟨_,_,hx⟩
  .have hO:=h.br hm GX;refine⟨⟨⟨hO.sm.t.1,⟨_,rfl⟩,hO.sm.t.2.2⟩,hO.sm.d,?_,hO.sm.q,hO.sm.qd⟩,hO.d,hO.q,hO.p,?_,fun hz=>absurd hz (by rw[show(pV o name p).ah=o.ah from rfl,iQ];decide)⟩
   .show((gN (name,(p:Int)) (dF o)).map fw).length<=8;rw[KB,zL,rY.len];omega
   .refine⟨by rw[sh];rfl,by rw[sh];exact IP rY.Bg (Dr dd hf),fun hk=>absurd iQ hk,fun e hx=>?_⟩
    rw[sh]at hx;rcases pB hx with hx|rfl
    .exact hO.e.to e hx
    .exact⟨D5 hb,p,_,rfl,g2,GS⟩
  .have hO:=h.br hm MH;exact⟨⟨hO.sm.t,hO.sm.d,hO.sm.e,hO.sm.q,hO.sm.qd⟩,hO.d,hO.q,hO.p,⟨hO.e.eq,hO.e.Bg,hO.e.cD,hO.e.to⟩,fun hz=>absurd hz GS⟩
  .exact h.br hm (NQ hx)
 .have key:∀(i:Nat)y,k.l[i]? =some y->y.ah=4->y.aC= -1\/∃(j:Nat)(x:Obj),y.aC=j/\(iD k.l n p name)[j]? =some x/\x.ah=4/\x.aC=i:=fun i y hy Kl=>by
   rcases h.pe i y hy Kl with h1|⟨j,z,h1,h2,h3,h4⟩
   .exact .inl h1
   .right;by_cases e:j=n
    .subst e;rw[hn]at h2;cases h2;omega
    .by_cases e2:j=p
     .subst e2;rw[hp]at h2;cases h2;exact⟨j,_,h1,g2,h3,h4⟩
     .exact⟨j,z,h1,by rw[g3 j e e2];exact h2,h3,h4⟩
  rcases nJ i x hx with⟨rfl,rfl⟩|⟨rfl,rfl⟩|⟨_,_,hx⟩
  .exact key _ o hn h4
  .exact key _ q hp h4
  .exact key i x hx h4
 .refine h.pU.enter (nm:=name) (fz hn) (fz hp) zs Qu GS (fz g1) (fz g2) (fun j a b=>by rw[NO,NO,g3 j a b]) ⟨rfl,rfl,rfl⟩ (fun e=>?_) ⟨rfl,hw,Km,rfl⟩
  show e∈dF (pV o name p)↔_;rw[sh];exact⟨pB,fun hx=>hx.elim AP fun hx=>hx▸wS _ _⟩
end Kn
namespace Kn
theorem yy{l:List Obj}{cD:Int}{name:ByteArray}(h:(cL l cD name).2.2=0):∃(n k:Nat)(o q:Obj),cD=n/\l[n]? =some o/\o.ah=2/\dG (dF o) name=k/\l[k]? =some q/\¬(q.ah=2/\q.aj.length>0)/\
  (cL l cD name).1=jJ l n k name/\(cL l cD name).2.1=k:=by
 have hr:=h;unfold cL at hr;by_cases h1:nH l cD 0=true
 .rw[if_pos h1]at hr;obtain⟨n,o,rfl,hn,_⟩:=oK h1;rw[Wk,hn]at hr;simp only[]at hr;have hR:cL l n name=uz o l n name:=by unfold cL;rw[if_pos h1,Wk,hn]
  unfold uz at hr;by_cases a1:o.ah≠2
  .rw[if_pos a1]at hr;cases hr
  rw[if_neg a1]at hr;by_cases a2:dG (o.aj.map ma) name<0
  .rw[if_pos a2]at hr;cases hr
  rw[if_neg a2]at hr;cases hq:l[(dG (o.aj.map ma) name).toNat]? with
  |none=>rw[hq]at hr;cases hr
  |some q=>
   rw[hq]at hr;simp only[]at hr;by_cases a3:q.ah=2/\q.aj.length>0
   .rw[if_pos a3]at hr;cases hr
   have hk:dG (o.aj.map ma) name=((dG (o.aj.map ma) name).toNat:Nat):=om;refine⟨n,_,o,q,rfl,hn,by simpa using a1,hk,hq,a3,?_,?_⟩
   .rw[hR,uz,if_neg a1,if_neg a2,hq];simp only[if_neg a3]
   .rw[hR,uz,if_neg a1,if_neg a2,hq];simp only[if_neg a3];exact hk
 .rw[if_neg h1]at hr;cases hr
def si(o:Obj)(name:ByteArray):Obj:={o with aj:=((dF o).filter fun e=>decide (e.1.toList≠name.toList)).map fw}
def EX(q:Obj)(p:Nat):Obj:={q with am:=IntKind.i64.wrap (q.am-1),up:=if q.ah=2 then(p:Int)else q.up}
theorem GY{l:List Obj}{n p:Nat}{o q:Obj}(hn:l[n]? =some o)(hp:l[p]? =some q)(Dn:n≠p)(name:ByteArray):
  (jJ l n p name)[n]? =some (si o name)/\(jJ l n p name)[p]? =some (EX q p)/\(∀j,j≠n->j≠p->(jJ l n p name)[j]? =l[j]?)/\(jJ l n p name).length=l.length:=by
 have jQ:=(Gf.1 hn).1;have ix:=(Gf.1 hp).1;have J9:(l.set n (si o name))[p]? =some q:=by rw[Wf Dn];exact hp
 have e:jJ l n p name=(l.set n (si o name)).set p (EX q p):=by
  unfold jJ;rw[hn];simp only[];rw[show {o with aj:=((o.aj.map ma).filter fun e=>decide (e.1.toList≠name.toList)).map fw}=si o name from rfl,J9]
  rfl
 rw[e];refine⟨?_,?_,fun j h1 h2=>?_,aI⟩
 .rw[Wf Dn.symm,Pr jQ]
 .rw[Pr (by simpa using ix)]
 .rw[Wf (fun e=>h2 e.symm),Wf (fun e=>h1 e.symm)]
theorem KI.Dp{k:Kr}(h:KI k){cD:Int}{name:ByteArray}(he:(cL k.l cD name).2.2=0):KI ⟨(cL k.l cD name).1,k.ops,k.ps⟩:=by
 obtain⟨n,p,o,q,rfl,hn,iQ,hf,hp,My,hR,_⟩:=yy he;have GX:=NQ hn;have MH:=NQ hp;have rY:=h.en o GX;obtain⟨e0,AL,Nh,W6⟩:∃e0,e0∈dF o/\e0.1.toList=name.toList/\e0.2=(p:Int):=by
  rcases iA (dF o) name with⟨e,a1,a2,a3⟩|⟨a3,_⟩
  .exact⟨e,a1,a2,om⟩
  .omega
 have Qu:q.aj=[]:=by
  by_cases hk:q.ah=2
  .exact Wg (by
    have:=fun h=>My ⟨hk,h⟩
    omega)
  .exact(h.en q MH).cD hk
 have W8:dF q=[]:=by unfold dF;rw[Qu];rfl
 have Dn:n≠p:=fun e=>by subst e;rw[hn]at hp;cases hp;rw[W8]at AL;cases AL
 obtain⟨p',x,b1,_,b3,GS,IK,_⟩:=h.pU.tr n (sD o) e0 (fz hn) AL;have:p'=p:=om;subst this;rw[fz hp]at b3;cases b3;have GS:q.ah≠0:=GS;have IK:q.am=1:=IK;rw[hR];obtain⟨g1,g2,g3,g4⟩:=GY hn hp Dn name;have sh:dF (si o name)=(dF o).filter fun e=>decide (e.1.toList≠name.toList):=by
  show((((dF o).filter fun e=>decide (e.1.toList≠name.toList)).map fw).map ma)=_
  exact lO _
 have my:∀e,e∈dF (si o name)↔e∈dF o/\e≠e0:=fun e=>by rw[sh,acb,decide_eq_true_eq];refine⟨fun⟨a,b⟩=>⟨a,fun e1=>by subst e1;exact b Nh⟩,fun⟨a,b⟩=>⟨a,fun e1=>b (tS rY.Bg a AL (e1.trans Nh.symm))⟩⟩
 have Km:dF (EX q p')=[]:=W8;have hw:IntKind.i64.wrap (q.am-1)=0:=by rw[IK];rfl
 have hm:∀(j:Nat)x,k.l[j]? =some x->x.ah≠0->∃y,(jJ k.l n p' name)[j]? =some y/\y.ah≠0:=fun j x hx hk=>by
  by_cases e:j=n
  .subst e;rw[hn]at hx;cases hx;exact⟨_,g1,hk⟩
  .by_cases e2:j=p'
   .subst e2;rw[hp]at hx;cases hx;exact⟨_,g2,hk⟩
   .exact⟨x,by rw[g3 j e e2];exact hx,hk⟩
 have nJ:∀(i:Nat)x,(jJ k.l n p' name)[i]? =some x->(i=n/\x=si o name)\/(i=p'/\x=EX q p')\/(i≠n/\i≠p'/\k.l[i]? =some x):=fun i x hx=>by
  by_cases e:i=n
  .subst e;rw[g1]at hx;cases hx;exact .inl ⟨rfl,rfl⟩
  .by_cases e2:i=p'
   .subst e2;rw[g2]at hx;cases hx;exact .inr (.inl ⟨rfl,rfl⟩)
   .rw[g3 i e e2]at hx;exact .inr (.inr ⟨e,e2,hx⟩)
 refine h.yx (by rw[g4];exact h.ll) hm (fun x hx=>?_) (fun i x hx h4=>?_) ?_
 .obtain⟨i,hi⟩:=Un hx;rcases nJ i x hi with⟨rfl,rfl⟩|⟨rfl,rfl⟩|⟨_,_,hx⟩
  .have hO:=h.br hm GX;refine⟨⟨⟨hO.sm.t.1,⟨_,rfl⟩,hO.sm.t.2.2⟩,hO.sm.d,?_,hO.sm.q,hO.sm.qd⟩,hO.d,hO.q,hO.p,?_,fun hz=>absurd hz (by rw[show(si o name).ah=o.ah from rfl,iQ];decide)⟩
   .show(((dF o).filter fun e=>decide (e.1.toList≠name.toList)).map fw).length<=8
    rw[KB];have:=abj (fun e:NE=>decide (e.1.toList≠name.toList)) (dF o)
    have:=rY.len;have:=hO.sm.e;omega
   .exact⟨by rw[sh];rfl,by rw[sh];exact rY.Bg.filter _,fun hk=>absurd iQ hk,fun e hx=>hO.e.to e ((my e).1 hx).1⟩
  .have hO:=h.br hm MH;exact⟨⟨hO.sm.t,hO.sm.d,hO.sm.e,hO.sm.q,hO.sm.qd⟩,hO.d,hO.q,hO.p,⟨hO.e.eq,hO.e.Bg,hO.e.cD,hO.e.to⟩,fun hz=>absurd hz GS⟩
  .exact h.br hm (NQ hx)
 .have key:∀(i:Nat)y,k.l[i]? =some y->y.ah=4->y.aC= -1\/∃(j:Nat)(x:Obj),y.aC=j/\(jJ k.l n p' name)[j]? =some x/\x.ah=4/\x.aC=i:=fun i y hy Kl=>by
   rcases h.pe i y hy Kl with h1|⟨j,z,h1,h2,h3,h4⟩
   .exact .inl h1
   .right;by_cases e:j=n
    .subst e;rw[hn]at h2;cases h2;omega
    .by_cases e2:j=p'
     .subst e2;rw[hp]at h2;cases h2;exact⟨j,_,h1,g2,h3,h4⟩
     .exact⟨j,z,h1,by rw[g3 j e e2];exact h2,h3,h4⟩
  rcases nJ i x hx with⟨rfl,rfl⟩|⟨rfl,rfl⟩|⟨_,_,hx⟩
  .exact key _ o hn h4
  .exact key _ q hp h4
  .exact key i x hx h4
 .exact h.pU.Dp (fz hn) AL W6 (fz hp) W8 (fz g1) (fz g2) (fun j a b=>by rw[NO,NO,g3 j a b]) ⟨rfl,rfl,rfl⟩ my ⟨rfl,hw,Km,rfl⟩
theorem Ko(k:Kr):MG k (bM (-1)):=⟨⟨⟨⟨[],rfl⟩,⟨[],rfl⟩,by simp[bM]⟩,by simp[bM],by simp[bM],by simp[bM],by simp[bM]⟩,by simp[bM],rfl,rfl,by simp[bM],rfl,rfl,fun _=>rfl,fun h=>by simp[bM]at h⟩
structure Tm(l:List Obj)(P:List Obj×(Int×Int)×Int)(a b:Nat):Prop where
 ea:P.2.1.1=a
 eb:P.2.1.2=b
 ab:a≠b
 za:∀d,l[a]? =some d->d.ah=0
 zb:∀d,l[b]? =some d->d.ah=0
 ga:P.1[a]? =some (bM b)
 gb:P.1[b]? =some (bM a)
 go:∀i,i≠a->i≠b->P.1[i]? =l[i]?
 m:∀x,x∈P.1->x∈l\/x=bM b\/x=bM a
 ll:P.1.length<=40
theorem Du{l:List Obj}(hl:l.length<=40)(h:(e8 l).2.2=0):(aG l (bM (-1))).2.2=0/\∃a b:Nat,(aG l (bM (-1))).2.1=a/\Tm l (e8 l) a b/\(∀d,(aG l (bM (-1))).1[b]? =some d->d.ah=0):=by
 unfold e8 at h;by_cases h1:(aG l (bM (-1))).2.2=0
 .refine⟨h1,?_⟩;rw[if_neg (by simp[h1])]at h
  obtain⟨a,e1,a2,a3,a4,a5,a6⟩:=gg h1 hl;by_cases h2:(aG (aG l (bM (-1))).1 (bM (aG l (bM (-1))).2.1)).2.2=0
  .obtain⟨b,b1,b2,b3,b4,b5,b6⟩:=gg h2 a5;have Be:a≠b:=fun e=>by subst e;have:=b4 _ a2;simp[bM]at this
   have hP:e8 l=(kn (aG (aG l (bM (-1))).1 (bM (aG l (bM (-1))).2.1)).1 a b,((a:Int),(b:Int)),0):=by
    rw[e8,if_neg (by simp[h1]),if_neg (by simp[h2]),e1]
    rw[e1]at b1;rw[b1,Wk]
   rw[e1]at b2 b3 hP b5 b6;have ha:(aG (aG l (bM (-1))).1 (bM (a:Int))).1[a]? =some (bM (-1)):=by rw[b3 a Be];exact a2
   have Rc:=(Gf.1 ha).1;have xx:kn (aG (aG l (bM (-1))).1 (bM (a:Int))).1 a b=(aG (aG l (bM (-1))).1 (bM (a:Int))).1.set a (bM b):=by rw[kn,ha];rfl
   rw[xx]at hP;refine⟨a,b,e1,?_,b4⟩;rw[hP];refine⟨rfl,rfl,Be,a4,fun d hd=>b4 d (by rw[a3 b (fun e=>Be e.symm)];exact hd),Pr Rc,by rw[Wf Be];exact b2,fun i h3 h4=>by rw[Wf (fun e=>h3 e.symm),b3 i h4,a3 i h3],fun x hx=>?_,by rw[Yy];exact b5⟩
   rcases aac hx with hx|hx
   .rcases b6 x hx with hx|hx
    .rcases a6 x hx with hx|hx
     .exact .inl hx
     .obtain⟨i,hi⟩:=Un (show x∈(aG (aG l (bM (-1))).1 (bM (a:Int))).1.set a (bM b)from by assumption)
      by_cases ea:i=a
      .subst ea;rw[Pr Rc]at hi;cases hi;exact .inr (.inl rfl)
      .rw[Wf (fun e=>ea e.symm)]at hi
       by_cases eb:i=b
       .subst eb;rw[b2]at hi;cases hi;exact .inr (.inr rfl)
       .rw[b3 i eb,a3 i ea]at hi;exact .inl (NQ hi)
    .exact .inr (.inr hx)
   .exact .inr (.inl hx)
  .rw[if_pos h2]at h;exact absurd h h2
 .rw[if_pos h1]at h;exact absurd h h1
theorem KI.PU{k:Kr}(h:KI k)(he:(e8 k.l).2.2=0):KI ⟨(e8 k.l).1,k.ops,k.ps⟩/\ft (e8 k.l).1 (e8 k.l).2.1.1/\ft (e8 k.l).1 (e8 k.l).2.1.2:=by
 obtain⟨h1,a,b,e1,P,Um⟩:=Du h.ll he;have h2:=h.make (Ko k) h1;obtain⟨a',e1',a2,a3,a4,a5,a6⟩:=gg h1 h.ll;have:a'=a:=om;subst this;have Yu:∀p:Int,PT k (e8 k.l).1 (bM p):=fun p=>⟨⟨⟨⟨[],rfl⟩,⟨[],rfl⟩,by simp[bM]⟩,by simp[bM],by simp[bM],by simp[bM],by simp[bM]⟩,by simp[bM],by simp[bM],fun h=>by simp[bM]at h,⟨rfl,List.Pairwise.nil,fun _=>rfl,fun e he=>by cases he⟩,fun h=>by simp[bM]at h⟩
 have hm:∀(j:Nat)x,k.l[j]? =some x->x.ah≠0->∃y,(e8 k.l).1[j]? =some y/\y.ah≠0:=fun j x hx hk=>by
  have ea:j≠a':=fun e=>by subst e;exact hk (P.za x hx)
  have eb:j≠b:=fun e=>by subst e;exact hk (P.zb x hx)
  exact⟨x,by rw[P.go j ea eb];exact hx,hk⟩
 refine⟨h.yx P.ll hm (fun x hx=>?_) (fun i x hx h4=>?_) ?_,⟨a',_,P.ea,P.ga,by simp[bM]⟩,⟨b,_,P.eb,P.gb,by simp[bM]⟩⟩
 .rcases P.m x hx with hx|rfl|rfl
  .exact h.br hm hx
  .exact Yu _
  .exact Yu _
 .by_cases ea:i=a'
  .subst ea;rw[P.ga]at hx;cases hx;exact .inr ⟨b,_,rfl,P.gb,rfl,rfl⟩
  .by_cases eb:i=b
   .subst eb;rw[P.gb]at hx;cases hx;exact .inr ⟨a',_,rfl,P.ga,rfl,rfl⟩
   .rw[P.go i ea eb]at hx;rcases h.pe i x hx h4 with c|⟨j,y,c1,c2,c3,c4⟩
    .exact .inl c
    .refine .inr ⟨j,y,c1,?_,c3,c4⟩;rw[P.go j (fun e=>by subst e;have:=P.za y c2;omega) (fun e=>by subst e;have:=P.zb y c2;omega)]
     exact c2
 .refine h2.pU.new (k:=b) (s:=sD (bM a')) ⟨by simp[sD,bM],rfl,rfl,.inl rfl⟩ (fz P.gb) (fun j hj=>?_) fun d hd=>?_
  .rw[NO,NO];by_cases ea:j=a'
   .subst ea;rw[P.ga,a2];rfl
   .rw[P.go j ea hj,a3 j ea]
  .obtain⟨x,c1,rfl⟩:=nh hd;exact Um x c1
theorem Dv{l:List Obj}{e:Int}{m:bo}(h:(eJ l e m).2=0):∃(n p:Nat)(o q:Obj),e=n/\l[n]? =some o/\o.ah=4/\o.aC=p/\l[p]? =some q/\q.ah=4/\m.data.length<=60/\q.ak.length<4/\(eJ l e m).1=l.set p {q with ak:=q.ak++ [m]}:=by
 have hr:=h;unfold eJ at hr;by_cases h1:e<0\/e>=l.length
 .rw[if_pos h1]at hr;cases hr
 rw[if_neg h1]at hr;have hn:e.toNat<l.length:=om;have iH:=sA hn;rw[iH]at hr;simp only[]at hr;by_cases h2:l[e.toNat].ah≠4
 .rw[if_pos h2]at hr;cases hr
 rw[if_neg h2]at hr;by_cases h3:l[e.toNat].aC<0\/l[e.toNat].aC>=l.length
 .rw[if_pos h3]at hr;cases hr
 rw[if_neg h3]at hr;have hp:l[e.toNat].aC.toNat<l.length:=om;have W9:=sA hp;rw[W9]at hr;simp only[]at hr;by_cases h4:l[l[e.toNat].aC.toNat].ah≠4
 .rw[if_pos h4]at hr;cases hr
 rw[if_neg h4]at hr;by_cases h5:m.data.length>60
 .rw[if_pos h5]at hr;cases hr
 rw[if_neg h5]at hr;by_cases h6:l[l[e.toNat].aC.toNat].ak.length>=4
 .rw[if_pos h6]at hr;cases hr
 refine⟨e.toNat,l[e.toNat].aC.toNat,_,_,om,iH,by simpa using h2,om,W9,by simpa using h4,om,om,?_⟩
 rw[eJ,if_neg h1,iH];simp only[];rw[if_neg h2,if_neg h3,W9];simp only[];rw[if_neg h4,if_neg h5,if_neg h6]
theorem KI.send{k:Kr}(h:KI k){e:Int}{m:bo}(ht:m.Ny)(hc:m.has=true->fh k m.eE m.cn)(he:(eJ k.l e m).2=0):KI ⟨(eJ k.l e m).1,k.ops,k.ps⟩:=by
 obtain⟨n,p,o,q,_,_,_,_,hp,hq4,Qb,IK,hR⟩:=Dv he;have MH:=NQ hp;have hs:=h.sm q MH;rw[hR];refine h.GG hp ⟨rfl,rfl,rfl,rfl,rfl,rfl⟩ om ⟨⟨hs.t.1,hs.t.2.1,fun x hx=>?_⟩,hs.d,hs.e,?_,fun x hx=>?_⟩ (h.MA q MH) fun x hx hh=>?_
 .rcases aaN.1 hx with hx|hx
  .exact hs.t.2.2 x hx
  .simp at hx;subst hx;exact ht
 .simp only[aaH,Wo,aaq];omega
 .rcases aaN.1 hx with hx|hx
  .exact hs.qd x hx
  .simp at hx;subst hx;omega
 .rcases aaN.1 hx with hx|hx
  .exact h.qu q MH x hx hh
  .simp at hx;subst hx;exact hc hh
theorem uO{l:List Obj}{e:Int}(h:(e9 l e).2.2=0):∃(n:Nat)(o:Obj)(x:bo)(r:List bo),e=n/\l[n]? =some o/\o.ah=4/\o.ak=x::r/\(e9 l e).1=l.set n {o with ak:=r}/\(e9 l e).2.1=x:=by
 have hr:=h;unfold e9 at hr;by_cases h1:e<0\/e>=l.length
 .rw[if_pos h1]at hr;cases hr
 rw[if_neg h1]at hr;have hn:e.toNat<l.length:=om;have iH:=sA hn;rw[iH]at hr;simp only[]at hr;by_cases h2:l[e.toNat].ah≠4
 .rw[if_pos h2]at hr;cases hr
 rw[if_neg h2]at hr;have hR:e9 l e=(match l[e.toNat].ak with
  | []=>if l[e.toNat].aC<0\/l[e.toNat].aC>=l.length then([],lj,17)else match l[l[e.toNat].aC.toNat]? with
   |none=>([],lj,17)
   |some q=>if q.ah≠4 then([],lj,17)else([],lj,16)
  |x::r=>(l.set e.toNat {l[e.toNat]with ak:=r},x,0)):=by
  rw[e9,if_neg h1,iH];simp only[];rw[if_neg h2];rfl
 cases hq:l[e.toNat].ak with
 |nil=>
  rw[hq]at hr;simp only[]at hr;split at hr
  .cases hr
  .split at hr
   .cases hr
   .split at hr<;>cases hr
 |cons x r=>
  rw[hq]at hR;refine⟨e.toNat,_,x,r,om,iH,by simpa using h2,hq,?_,?_⟩<;>rw[hR]
theorem KI.recv{k:Kr}(h:KI k){e:Int}(he:(e9 k.l e).2.2=0):KI ⟨(e9 k.l e).1,k.ops,k.ps⟩/\((e9 k.l e).2.1.has=true->fh k (e9 k.l e).2.1.eE (e9 k.l e).2.1.cn):=by
 obtain⟨n,o,x,r,_,hn,ho4,hq,hR,hx⟩:=uO he;have GX:=NQ hn;have hs:=h.sm o GX;rw[hR,hx];have qk:∀y,y∈r->y∈o.ak:=fun y hy=>by rw[hq];exact abw _ hy
 refine⟨h.GG hn ⟨rfl,rfl,rfl,rfl,rfl,rfl⟩ om ⟨⟨hs.t.1,hs.t.2.1,fun y hy=>hs.t.2.2 y (qk y hy)⟩,hs.d,hs.e,?_,fun y hy=>hs.qd y (qk y hy)⟩ (h.MA o GX) fun y hy hh=>h.qu o GX y (qk y hy) hh,fun hh=>h.qu o GX x (by rw[hq];simp) hh⟩
 have:=hs.q;rw[hq]at this;simp only[Wo]at this⊢;omega
end Kn
end Go.Proofs.YtodckkkbiidffaaGreatDoor
