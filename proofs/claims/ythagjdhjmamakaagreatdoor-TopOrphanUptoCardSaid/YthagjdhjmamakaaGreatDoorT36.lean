/- Part 36 of 41: what the law stands on. -/
import Derived.Test.YthagjdhjmamakaaGreatDoorT16
import Derived.Test.YthagjdhjmamakaaGreatDoorT35
set_option linter.unusedVariables false
set_option linter.unusedSimpArgs false
set_option linter.unnecessarySimpa false
set_option maxRecDepth 100000
set_option maxHeartbeats 64000000
namespace Go.Proofs.YthagjdhjmamakaaGreatDoor
open Go.AM Go.ChangeShapes Go.WideShapes Go.ChangeAt Go.RowKit
namespace Kn
structure Ew(l:List Obj)(o:Obj):Prop where
 eq:o.aj=(dI o).map fD
 Cm:Dg (dI o)
 cE:o.ah≠2->o.aj=[]
 to:∀e,e∈dI o->e.1.size<=12/\∃(j:Nat)(x:Obj),e.2=j/\l[j]? =some x/\x.ah≠0
def fA(l:List Obj)(z:Int):Prop:=∃(j:Nat)(x:Obj),z=j/\l[j]? =some x/\x.ah≠0
def fu(k:Kr)(z r:Int):Prop:=(0<=r/\r<=4095)/\∃(n:Nat)(o:bC),z=n/\k.ops[n]? =some o/\fA k.l o.bt
structure KI(k:Kr):Prop where
 ll:k.l.length<=40
 lo:k.ops.length<=60
 lp:k.ps.length<=8
 sm:∀o,o∈k.l->o.sm
 sl:∀x,x∈k.ps->x.bd.length<=10
 ne:k.ps≠[]
 aZ:∀x,x∈k.ps->x.a8=false->x.bd=[]
 cap:∀x,x∈k.ps->∀s,s∈x.bd->s.has=true->fu k s.eJ s.cn
 qu:∀o,o∈k.l->∀q,q∈o.ak->q.has=true->fu k q.eJ q.cn
 pr:∀o,o∈k.l->o.ah=5->∃n:Nat,o.aM=n/\n<k.ps.length
 en:∀o,o∈k.l->Ew k.l o
 z:∀o,o∈k.l->o.ah=0->o=gQ
 pe:∀(i:Nat)o,k.l[i]? =some o->o.ah=4->o.aG= -1\/∃(j:Nat)(x:Obj),o.aG=j/\k.l[j]? =some x/\x.ah=4/\x.aG=i
 cU:∀o,o∈k.ops->0<=o.cU/\o.cU<=64
 NQ:∀o,o∈k.l->o.data.length<=60
 qC:Tree (k.l.map tv)
theorem KI.kr{k:Kr}(h:KI k):dC k.l k.ops k.ps:=⟨h.sm,by have:=h.ll;omega,by have:=h.lo;omega,by have:=h.lp;omega,h.sl,h.ne⟩
theorem fG{l:List Obj}{i:Nat}{o:Obj}(h:l[i]? =some o):(l.map tv)[i]? =some (tv o):=by rw[O6,h];rfl
theorem nL{l:List Obj}{i:Nat}{d:Sk}(h:(l.map tv)[i]? =some d):∃o,l[i]? =some o/\d=tv o:=by
 rw[O6]at h;cases ho:l[i]? with
 |none=>rw[ho]at h;cases h
 |some o=>rw[ho]at h;cases h;exact⟨o,rfl,rfl⟩
theorem KI.up{k:Kr}(h:KI k){o:Obj}(ho:o∈k.l):0<=o.up/\o.up<k.l.length:=by obtain⟨i,hi⟩:=Xz ho;have:=h.qC.UD (fG hi);rwa [LW]at this
theorem KI.ap{k:Kr}(h:KI k):∃o,k.l[0]? =some o/\o.ah=2:=by obtain⟨d,h1,h2,_⟩:=h.qC.r0;obtain⟨o,h3,rfl⟩:=nL h1;exact⟨o,h3,h2⟩
theorem KI.pos{k:Kr}(h:KI k):0<k.l.length:=by obtain⟨o,h1,_⟩:=h.ap;exact(Hy.1 h1).1
theorem Ew.len{l:List Obj}{o:Obj}(h:Ew l o):(dI o).length=o.aj.length:=by have:=congrArg List.length h.eq;rw[LW]at this;exact this.symm
theorem KI.Cm{k:Kr}(h:KI k):vh k.l:=by
 refine⟨⟨by have:=h.ll;omega,fun o ho=>(h.sm o ho).mU⟩,fun o ho=>?_⟩
 have he:=h.en o ho;refine⟨dI o,he.eq,he.Cm,by rw[he.len];have:=(h.sm o ho).e;omega,fun e hx=>?_⟩
 obtain⟨_,j,x,h1,h2,_⟩:=he.to e hx;have:=(Hy.1 h2).1;omega
theorem KI.lk{k:Kr}(h:KI k):mi (k.l.map Obj.ob):=by
 refine⟨by rw[LW];have:=h.ll;omega,by rw[LW];exact h.pos,fun o ho=>?_,fun o ho=>?_,fun o ho=>?_⟩
 .obtain⟨x,hx,rfl⟩:=aae.1 ho;have he:=h.en x hx;refine⟨dI x,he.eq,he.Cm,fun e WE=>?_,fun hk=>?_⟩
  .obtain⟨_,j,y,h1,h2,_⟩:=he.to e WE;have:=(Hy.1 h2).1;rw[LW];omega
  .have:=he.cE hk;show x.aj.map mH=[];rw[this];rfl
 .obtain⟨x,hx,rfl⟩:=aae.1 ho;have:=(h.sm x hx).e;show x.aj.length<=64;omega
 .obtain⟨x,hx,rfl⟩:=aae.1 ho;have:=h.up hx;rw[LW];exact this
def xQ(x o:Obj):Prop:=x=o\/x={o with aG:= -1}
theorem xQ.all{x o:Obj}(h:xQ x o):x.ah=o.ah/\x.data=o.data/\x.aj=o.aj/\x.target=o.target/\x.ak=o.ak/\x.aM=o.aM/\x.am=o.am/\x.up=o.up:=by
 rcases h with rfl|rfl<;>exact⟨rfl,rfl,rfl,rfl,rfl,rfl,rfl,rfl⟩
theorem xQ.sk{x o:Obj}(h:xQ x o):tv x=tv o:=by obtain⟨h1,_,h2,_,_,_,h3,h4⟩:=h.all;unfold tv dI;rw[h1,h2,h3,h4]
theorem ju{l:List Obj}(hz:∀o,o∈l->o.ah=0->o=gQ)(b:Mk){i:Nat}{o:Obj}(ho:l[i]? =some o):
  (cz b l l.length i o=gQ/\(o.ah=0\/¬dx b.O i))\/(dx b.O i/\o.ah≠0/\((cz b l l.length i o=o/\(o.ah=4->∀(j:Nat)x,o.aG=j->l[j]? =some x->x.ah≠0->dx b.O j))\/
   (cz b l l.length i o={o with aG:= -1}/\o.ah=4/\∃(j:Nat)(x:Obj),o.aG=j/\l[j]? =some x/\¬dx b.O j))):=by
 have hi:=(Hy.1 ho).1;have Xo:∀j,(b.O[j]? ==some true)=true↔dx b.O j:=fun j=>by unfold dx;simp
 have va:∀(j:Nat)x,l[j]? =some x->(eY b l j=true↔¬dx b.O j/\x.ah≠0):=fun j x hx=>by unfold eY;rw[hx];simp only[T6,aaP,bne_iff_ne,ne_eq];rw[<-Xo j];simp
 unfold cz;by_cases h1:(eY b l i&&decide (i<l.length))=true
 .rw[if_pos h1];rw[T6]at h1;exact .inl ⟨rfl,.inr ((va i o ho).1 h1.1).1⟩
 .rw[if_neg h1];have qJ:¬eY b l i=true:=fun h=>h1 (by rw[h];simpa using hi)
  by_cases hk:o.ah=0
  .have:=hz o (O9 ho) hk;subst this;exact .inl ⟨rfl,.inl rfl⟩
  .have hM:dx b.O i:=ZM fun hn=>qJ ((va i o ho).2 ⟨hn,hk⟩)
   refine .inr ⟨hM,hk,?_⟩;by_cases h2:(o.ah==4&&oC b l l.length o.aG)=true
   .rw[if_pos h2];rw[T6]at h2;refine .inr ⟨rfl,by simpa using h2.1,?_⟩
    have h3:=h2.2;unfold oC at h3;rw[T6,decide_eq_true_eq]at h3;obtain⟨⟨h4,h5⟩,h6⟩:=h3;refine⟨o.aG.toNat,l[o.aG.toNat],om,tq h5,((va _ _ (tq h5)).1 h6).1⟩
   .rw[if_neg h2];refine .inl ⟨rfl,fun h4 j x hp hx Yx=>?_⟩
    refine ZM fun hn=>h2 ?_
    have hj:=(Hy.1 hx).1;rw[h4,T6];refine⟨rfl,?_⟩;unfold oC;rw[hp,XO,(va j x hx).2 ⟨hn,Yx⟩,Bool.and_true,decide_eq_true_eq];omega
theorem Ie(L:List Obj)(k t:Nat)(x:bi):xu L k t x=fN\/xu L k t x=x:=by
 unfold xu;split
 .exact .inl rfl
 .exact .inr rfl
theorem NR:gQ.data.length<=60:=by simp[gQ]
theorem KI.UG{k c:Kr}{en:Bool}(h:KI k)(ho:db k.l k.ops k.ps c.l c.ops c.ps en):KI c:=by
 obtain⟨b,hb,hL,hP⟩:=ho.ex;have hR:=ho.pr;have ot:∀(i:Nat)x,c.l[i]? =some x->x=gQ\/∃o,k.l[i]? =some o/\dx b.O i/\o.ah≠0/\xQ x o:=fun i x hx=>by
  obtain⟨o,h1,h2⟩:=hL.get hx;rcases ju h.z b h1 with⟨h3,_⟩|⟨h3,h4,h5⟩
  .exact .inl (h2.trans h3)
  .refine .inr ⟨o,h1,h3,h4,?_⟩;rcases h5 with⟨h5,_⟩|⟨h5,_⟩
   .exact .inl (h2.trans h5)
   .exact .inr (h2.trans h5)
 have eV:∀(i:Nat)o,k.l[i]? =some o->dx b.O i->o.ah≠0->∃x,c.l[i]? =some x/\xQ x o:=fun i o h1 hM hk=>by
  refine⟨_,hL.2 i o h1,?_⟩;rcases ju h.z b h1 with⟨_,h4|h4⟩|⟨_,_,⟨h5,_⟩|⟨h5,_⟩⟩
  .exact absurd h4 hk
  .exact absurd hM h4
  .exact .inl h5
  .exact .inr h5
 have zh:∀z,fA k.l z->(∀n:Nat,vO k.l z n->dx b.O n)->fA c.l z:=fun z⟨j,x,h1,h2,h3⟩hm=>by
  obtain⟨y,h4,h5⟩:=eV j x h2 (hm j ⟨h1,x,h2,h3⟩) h3;exact⟨j,y,h1,h4,by rw[h5.all.1];exact h3⟩
 have dN:∀z r,fu k z r->(∀n:Nat,vP k.ops z n->dx b.P n)->fu c z r:=fun z r⟨hr,n,o,h1,h2,h3⟩hm=>by
  have hn:=(Hy.1 h2).1;have hM:=hm n ⟨h1,hn⟩;refine⟨hr,n,o,h1,?_,zh _ h3 fun j hv=>hb.cl.p n o hM h2 j hv⟩
  rw[hP.2 n o h2,Ch,if_neg];have:(b.P[n]? ==some true)=true:=by unfold dx at hM;rw[hM];rfl
  rw[this];simp
 have hlen:c.l.length=k.l.length:=hL.1;have mem:∀x,x∈c.l->∃i:Nat,c.l[i]? =some x:=fun x hx=>Xz hx
 have LA:∀x,x∈c.ps->x=fN\/x∈k.ps:=fun x hx=>by
  obtain⟨t,ht⟩:=Xz hx;obtain⟨o,h1,h2⟩:=hR.get ht;rcases Ie c.l k.ps.length t o with h3|h3
  .exact .inl (h2.trans h3)
  .exact .inr (by rw[h2,h3];exact O9 h1)
 refine⟨by rw[hlen];exact h.ll,by rw[hP.1];exact h.lo,by rw[hR.1];exact h.lp,(ho.kr h.kr).sm,(ho.kr h.kr).sl,(ho.kr h.kr).ne,fun x hx hl=>?_,fun x hx s hs hh=>?_,fun o iU q hq hh=>?_,fun o iU h5=>?_,fun o iU=>?_,fun o iU hk=>?_,fun i o hi h4=>?_,fun o iU=>?_,fun o iU=>?_,?_⟩
 .rcases LA x hx with rfl|hx
  .rfl
  .exact h.aZ x hx hl
 .rcases LA x hx with rfl|th
  .cases hs
  .cases hl:x.a8 with
   |false=>rw[h.aZ x th hl]at hs;cases hs
   |true=>
    obtain⟨p,hp⟩:=Xz th;exact dN _ _ (h.cap x th s hs hh) fun n hv=>hb.uI.2 p x hp hl s hs hh n hv
 .obtain⟨i,hi⟩:=mem o iU;rcases ot i o hi with rfl|⟨y,h1,hM,hk,hs⟩
  .cases hq
  .rw[hs.all.2.2.2.2.1]at hq;exact dN _ _ (h.qu y (O9 h1) q hq hh) fun n hv=>hb.cl.q i y hM h1 q.eJ n ⟨q,hq,hh,rfl⟩ hv
 .obtain⟨i,hi⟩:=mem o iU;rcases ot i o hi with rfl|⟨y,h1,hM,hk,hs⟩
  .cases h5
  .rw[hs.all.1]at h5;rw[hs.all.2.2.2.2.2.1,hR.1];exact h.pr y (O9 h1) h5
 .obtain⟨i,hi⟩:=mem o iU;rcases ot i o hi with rfl|⟨y,h1,hM,hk,hs⟩
  .exact⟨rfl,List.Pairwise.nil,fun _=>rfl,fun e he=>by cases he⟩
  .have he:=h.en y (O9 h1);have mZ:dI o=dI y:=by unfold dI;rw[hs.all.2.2.1]
   refine⟨by rw[hs.all.2.2.1,mZ];exact he.eq,by rw[mZ];exact he.Cm,fun hn=>by rw[hs.all.2.2.1];exact he.cE (by rw[<-hs.all.1];exact hn),fun e hx=>?_⟩
   rw[mZ]at hx;obtain⟨h2,j,x,h3,h4,h5⟩:=he.to e hx;have CI:sE y e.2:=⟨e.1,by rw[he.eq];exact aae.2 ⟨e,hx,rfl⟩⟩
   obtain⟨x',h6,h7⟩:=eV j x h4 (hb.cl.e i y hM h1 e.2 j CI ⟨h3,x,h4,h5⟩) h5;exact⟨h2,j,x',h3,h6,by rw[h7.all.1];exact h5⟩
 .obtain⟨i,hi⟩:=mem o iU;rcases ot i o hi with rfl|⟨y,h1,hM,oP,hs⟩
  .rfl
  .exact absurd (hs.all.1▸hk) oP
 .obtain⟨y,h1,h2⟩:=hL.get hi;rcases ju h.z b h1 with⟨h3,_⟩|⟨hM,hk,h5⟩
  .rw[h2,h3]at h4;cases h4
  .rcases h5 with⟨h5,h6⟩|⟨h5,_⟩
   .rw[h2,h5]at h4⊢;rcases h.pe i y h1 h4 with h7|⟨j,x,h7,h8,h9,QT⟩
    .exact .inl h7
    .refine .inr ⟨j,cz b k.l k.l.length j x,h7,hL.2 j x h8,?_⟩;have RL:=h6 h4 j x h7 h8 om;rcases ju h.z b h8 with⟨_,IQ|IQ⟩|⟨_,_,⟨IQ,_⟩|⟨_,_,j',x',Ff,Cn,Lo⟩⟩
     .omega
     .exact absurd RL IQ
     .rw[IQ];exact⟨h9,QT⟩
     .have:j'=i:=om;subst this;exact absurd hM Lo
   .rw[h2,h5];exact .inl rfl
 .obtain⟨t,ht⟩:=Xz iU;obtain⟨x,h1,h2⟩:=hP.get ht;rw[h2,Ch];split
  .exact⟨abT _,by show(0:Int)<=64;omega⟩
  .exact h.cU x (O9 h1)
 .obtain⟨i,hi⟩:=mem o iU;rcases ot i o hi with rfl|⟨y,h1,hM,hk,hs⟩
  .exact NR
  .rw[hs.all.2.1];exact h.NQ y (O9 h1)
 .obtain⟨r,zO,tL⟩:=h.ap;refine h.qC.sub (M:=dx b.O) (hb.uI.1 0 ⟨rfl,r,zO,om⟩) (fun i d e j hM hd he hj=>?_) (fun i d hM hd hk=>?_) (fun i d' yk=>?_)
  .obtain⟨o,h1,rfl⟩:=nL hd;have sX:=h.en o (O9 h1);obtain⟨_,j',x,h3,h4,h5⟩:=sX.to e he;have:j'=j:=om;subst this;exact hb.cl.e i o hM h1 e.2 j' ⟨e.1,by rw[sX.eq];exact aae.2 ⟨e,he,rfl⟩⟩ ⟨h3,x,h4,h5⟩
  .obtain⟨o,h1,rfl⟩:=nL hd;obtain⟨x,h2,h3⟩:=eV i o h1 hM hk;rw[<-h3.sk];exact fG h2
  .obtain⟨x,h1,rfl⟩:=nL yk;rcases ot i x h1 with rfl|⟨y,h2,hM,hk,hs⟩
   .exact .inl rfl
   .exact .inr ⟨by rw[hs.sk];exact fG h2,hM⟩
theorem LB{α:Type}{l:List α}{n i:Nat}{x:α}(h:(l.take n)[i]? =some x):l[i]? =some x/\i<n:=by
 rw[aao]at h;split at h
 .exact⟨h,by assumption⟩
 .cases h
theorem BI{α:Type}{l:List α}{n i:Nat}{x:α}(h:l[i]? =some x)(hi:i<n):(l.take n)[i]? =some x:=by rw[aao,if_pos hi];exact h
theorem Ig(O:List Obj)(k t:Nat)(x:bi):yH O k t x=fN\/yH O k t x=x:=by
 unfold yH;split
 .exact .inl rfl
 .exact .inr rfl
theorem KI.hU{c d:Kr}(h:KI c)(hf:kL c d):KI d:=by
 obtain⟨n1,n2,n3,P,h1,h2,h3,h4,rfl⟩:=hf.ex;have eV:∀(i:Nat)o,c.l[i]? =some o->o.ah≠0->(c.l.take n1)[i]? =some o:=fun i o ho hk=>BI ho (abX fun hle=>hk (by simpa[qO]using h1.t.dr i o hle ho))
 have zh:∀z,fA c.l z->fA (c.l.take n1) z:=fun z⟨j,x,a1,a2,a3⟩=>⟨j,x,a1,eV j x a2 a3,a3⟩
 have dN:∀z r,fu c z r->fu ⟨c.l.take n1,c.ops.take n2,P.take n3⟩ z r:=fun z r⟨hr,n,o,a1,a2,a3⟩=>by
  refine⟨hr,n,o,a1,BI a2 (abX fun hle=>?_),zh _ a3⟩
  have hq:=h2.t.dr n o hle a2;obtain⟨j,_,e,_⟩:=a3;simp only[qP,decide_eq_true_eq]at hq;omega
 have de:=h.pos;have oO:1<=n1:=by have:=h1.t.mn;omega
 have VE:P.length=c.ps.length:=h3.1;have pi:0<c.ps.length:=ab8.2 h.ne;have Ua:1<=n3:=by have:=h4.t.mn;omega
 have acA:=h4.t.le;have LA:∀x,x∈P.take n3->x=fN\/x∈c.ps:=fun x hx=>by
  obtain⟨t,ht⟩:=Xz (aaB hx);obtain⟨o,a1,a2⟩:=h3.get ht;rcases Ig (c.l.take n1) c.ps.length t o with a3|a3
  .exact .inl (a2.trans a3)
  .exact .inr (by rw[a2,a3];exact O9 a1)
 have kr:=hf.kr h.kr;refine⟨?_,?_,?_,kr.sm,kr.sl,kr.ne,fun x hx hl=>?_,fun x hx s hs hh=>?_,fun o ho q hq hh=>dN _ _ (h.qu o (aaB ho) q hq hh),fun o ho h5=>?_,fun o ho=>?_,fun o ho hk=>h.z o (aaB ho) hk,fun i o hi hk=>?_,fun o ho=>h.cU o (aaB ho),fun o ho=>h.NQ o (aaB ho),?_⟩
 .show(c.l.take n1).length<=40;rw[Z3];have:=h.ll;omega
 .show(c.ops.take n2).length<=60;rw[Z3];have:=h.lo;omega
 .show(P.take n3).length<=8;rw[Z3];have:=h.lp;omega
 .rcases LA x hx with rfl|hx
  .rfl
  .exact h.aZ x hx hl
 .rcases LA x hx with rfl|hx
  .cases hs
  .exact dN _ _ (h.cap x hx s hs hh)
 .obtain⟨n,a1,a2⟩:=h.pr o (aaB ho) h5;refine⟨n,a1,?_⟩;show n<(P.take n3).length;rw[Z3];refine Nat.lt_min.2 ⟨abX fun hle=>?_,om⟩
  have hq:=h4.t.dr n P[n] hle (tq om);simp only[qR,T6,aaP]at hq;have:(c.l.take n1).any (eH (n:Int))=true:=aaH.2 ⟨o,ho,by simp[eH,h5,a1]⟩
  rw[this]at hq;cases hq.2
 .have he:=h.en o (aaB ho);refine⟨he.eq,he.Cm,he.cE,fun e hx=>?_⟩
  obtain⟨a0,j,x,a1,a2,a3⟩:=he.to e hx;exact⟨a0,j,x,a1,eV j x a2 a3,a3⟩
 .obtain⟨a1,a2⟩:=LB hi;rcases h.pe i o a1 hk with a3|⟨j,x,a3,a4,a5,a6⟩
  .exact .inl a3
  .exact .inr ⟨j,x,a3,eV j x a4 om,a5,a6⟩
 .show Tree ((c.l.take n1).map tv);rw[abc];refine h.qC.take oO fun i d hle hd=>?_
  obtain⟨o,a1,rfl⟩:=nL hd;have:=h1.t.dr i o hle a1;show o.ah=0;simpa[qO]using this
theorem KI.to{k a:Kr}(h:KI k)(h1:iL k a):KI a:=by
 induction h1 with
 |refl=>exact h
 |step _ ho ih=>exact ih.UG ho
theorem KI.UH{k:Kr}(h:KI k):KI (oX k):=by obtain⟨a,c,h1,h2,h3⟩:=(xw h.kr).ex;exact((h.to h1).UG h2).hU h3
end Kn
namespace Kn
theorem tM{l:List Ob}{au:Nat}{ax follow:Bool}{rec:Nat->List bD.di->Nat->R4}{A:Nat->Prop}{Q:R4->Prop}(h0:∀e,e≠0->Q (R4.no e))(h1:∀a,A a->Q ⟨a,yU l a,[],0⟩)(h2:∀a w,A a->(j9 l a).ah=2->lh l a w<0->Q ⟨-1,a,w,0⟩)(h3:∀a w,A a->(j9 l a).ah=2->¬lh l a w<0->Q ⟨lh l a w,a,w,0⟩)(NS:∀a,A a->(j9 l a).ah=2->¬(ax=true/\a=au)->A (yU l a))(NT:∀a w,A a->(j9 l a).ah=2->¬lh l a w<0->A (lh l a w).toNat)(yo:∀a rest k,A a->Q (rec a rest k)):∀(parts:List bD.di)(a:Nat),A a->Q (F3 l au ax follow rec parts a)
 | [],a,ha=>h1 a ha
 |w::rest,a,ha=>by
  rw[F3];split
  .exact h0 11 (by decide)
  .rename_i hk;have hk:(j9 l a).ah=2:=by simpa using hk
   split
   .split
    .exact h0 14 (by decide)
    .rename_i hf;exact tM h0 h1 h2 h3 NS NT yo rest _ (NS a ha hk hf)
   .split
    .rename_i hn;split
     .exact h0 6 (by decide)
     .exact h2 a w ha hk hn
    .rename_i hn;split
     .exact yo a rest _ ha
     .split
      .exact h3 a w ha hk hn
      .exact tM h0 h1 h2 h3 NS NT yo rest _ (NT a w ha hk hn)
theorem Gf{l:List Ob}{au:Nat}{ax follow:Bool}{A:Nat->Prop}{Q:R4->Prop}(h0:∀e,e≠0->Q (R4.no e))(h1:∀a,A a->Q ⟨a,yU l a,[],0⟩)(h2:∀a w,A a->(j9 l a).ah=2->lh l a w<0->Q ⟨-1,a,w,0⟩)(h3:∀a w,A a->(j9 l a).ah=2->¬lh l a w<0->Q ⟨lh l a w,a,w,0⟩)(NS:∀a,A a->(j9 l a).ah=2->¬(ax=true/\a=au)->A (yU l a))(NT:∀a w,A a->(j9 l a).ah=2->¬lh l a w<0->A (lh l a w).toNat)(hr:ax=false->A 0):
  ∀(n:Nat)(parts:List bD.di)(a:Nat),A a->Q (zQ l au ax follow n parts a)
 |0,parts,a,ha=>tM h0 h1 h2 h3 NS NT (fun _ _ _ _=>h0 13 (by decide)) parts a ha
 |n+1,parts,a,ha=>by
  refine tM h0 h1 h2 h3 NS NT (fun a rest k ha=>?_) parts a ha
  rw[No];split
  .rename_i h;exact h0 _ h
  .split
   .exact h0 14 (by decide)
   .rename_i hf;refine Gf h0 h1 h2 h3 NS NT hr n _ _ ?_;split
    .rename_i fB;exact hr (by cases ax with|false=>rfl|true=>exact absurd ⟨fB,rfl⟩ hf)
    .exact ha
theorem Ih{l:List Ob}{au:Int}{s:bD.di}{ax follow:Bool}{A:Nat->Prop}{Q:R4->Prop}(h0:∀e,e≠0->Q (R4.no e))(h1:∀a,A a->Q ⟨a,yU l a,[],0⟩)(h2:∀a w,A a->(j9 l a).ah=2->lh l a w<0->Q ⟨-1,a,w,0⟩)(h3:∀a w,A a->(j9 l a).ah=2->¬lh l a w<0->Q ⟨lh l a w,a,w,0⟩)(NS:∀a,A a->(j9 l a).ah=2->¬(ax=true/\a=au.toNat)->A (yU l a))(NT:∀a w,A a->(j9 l a).ah=2->¬lh l a w<0->A (lh l a w).toNat)(hr:ax=false->A 0)(hb:∀n:Nat,au=n->n<l.length->(j9 l n).ah=2->A n):Q (oF l au s ax follow):=by
 rw[oF];split
 .rename_i hi;obtain⟨n,rfl,hn⟩:=J7 hi;split
  .exact h0 11 (by decide)
  .rename_i hk;have hk:(j9 l n).ah=2:=by simpa using hk
   split
   .rename_i h;exact h0 _ h
   .split
    .exact h0 14 (by decide)
    .rename_i hf;refine Gf h0 h1 h2 h3 NS NT hr 6 _ _ ?_;split
     .rename_i fB;exact hr (by cases ax with|false=>rfl|true=>exact absurd ⟨fB,rfl⟩ hf)
     .exact hb n rfl hn hk
 .exact h0 6 (by decide)
theorem LD{l:List Obj}{n:Nat}{o:Obj}(h:l[n]? =some o):j9 (l.map Obj.ob) n=o.ob:=by rw[j9,O6,h];rfl
theorem UI{l:List Obj}{n:Nat}(h:(j9 (l.map Obj.ob) n).ah≠0):∃o,l[n]? =some o/\j9 (l.map Obj.ob) n=o.ob:=by
 cases ho:l[n]? with
 |none=>exfalso;apply h;rw[j9,O6,ho];rfl
 |some o=>exact⟨o,rfl,LD ho⟩
theorem Rb{l:List Obj}{n:Nat}{o:Obj}(h:l[n]? =some o):yU (l.map Obj.ob) n=o.up.toNat:=by rw[yU,LD h];rfl
theorem Rc{l:List Obj}{n:Nat}{o:Obj}(h:l[n]? =some o)(w:bD.di):lh (l.map Obj.ob) n w=fg (dI o) (bD.cu w):=by rw[lh,LD h];rfl
theorem NU{l:List Obj}{n:Nat}{o:Obj}(h:l[n]? =some o){w:bD.di}(hf:¬lh (l.map Obj.ob) n w<0):∃e,e∈dI o/\e.1.toList=(bD.cu w).toList/\lh (l.map Obj.ob) n w=e.2:=by
 rw[Rc h]at hf⊢;rcases iK (dI o) (bD.cu w)with⟨e,h1,h2,h3⟩|⟨h3,_⟩
 .exact⟨e,h1,h2,h3⟩
 .omega
def BJ(l:List Obj)(a:Nat):Prop:=∃o,l[a]? =some o/\o.ah≠0
theorem KI.LG{k:Kr}(h:KI k){a:Nat}(ha:BJ k.l a):BJ k.l (yU (k.l.map Obj.ob) a):=by
 obtain⟨o,h1,h2⟩:=ha;rw[Rb h1];rcases h.qC.ux a (tv o) (fG h1)with h3|h3|⟨_,u,x,e,h3,h4,h5,_⟩
 .have h3:o.up=a:=h3;rw[h3];exact⟨o,h1,h2⟩
 .have h3:o.up=0:=h3;rw[h3];obtain⟨r,h4,h5⟩:=h.ap;exact⟨r,h4,om⟩
 .have h3:o.up=u:=h3;rw[h3];obtain⟨y,h6,rfl⟩:=nL h4;refine⟨y,h6,fun hz=>?_⟩
  have:=h.z y (O9 h6) hz;subst this;cases h5
theorem KI.xR{k:Kr}(h:KI k){a:Nat}{w:bD.di}(ha:BJ k.l a)(hf:¬lh (k.l.map Obj.ob) a w<0):BJ k.l (lh (k.l.map Obj.ob) a w).toNat/\0<=lh (k.l.map Obj.ob) a w:=by obtain⟨o,h1,_⟩:=ha;obtain⟨e,h3,_,h4⟩:=NU h1 hf;obtain⟨_,j,x,h5,h6,h7⟩:=(h.en o (O9 h1)).to e h3;rw[h4,h5];exact⟨⟨x,h6,h7⟩,om⟩
theorem KI.Rd{k:Kr}(h:KI k)(au:Int)(s:bD.di)(ax follow:Bool):(iQ k au s ax follow).ix=0->(iQ k au s ax follow).bt= -1\/fA k.l (iQ k au s ax follow).bt:=by
 refine Ih (A:=BJ k.l) (Q:=fun r=>r.ix=0->r.bt= -1\/fA k.l r.bt) (fun e he h0=>absurd h0 he) (fun a⟨o,h1,h2⟩ _=>.inr ⟨a,o,rfl,h1,h2⟩) (fun _ _ _ _ _ _=>.inl rfl) (fun a w ha _ hf _=>?_)
  (fun a ha _ _=>h.LG ha) (fun a w ha _ hf=>(h.xR ha hf).1) (fun _=>?_) (fun n _ hn hk=>?_)
 .obtain⟨⟨o,h1,h2⟩,h3⟩:=h.xR ha hf;exact .inr ⟨_,o,by show lh _ _ _=_;omega,h1,h2⟩
 .obtain⟨r,h4,h5⟩:=h.ap;exact⟨r,h4,om⟩
 .obtain⟨o,h1,h2⟩:=UI (l:=k.l) (n:=n) (by rw[hk];decide)
  rw[h2]at hk;have hk:o.ah=2:=hk;exact⟨o,h1,om⟩
theorem fu.at{k:Kr}{z r:Int}(h:fu k z r):∃n j:Nat,z=n/\n<k.ops.length/\jT k.ops n=j/\j<k.l.length:=by obtain⟨_,n,o,h1,h2,j,x,h3,h4,_⟩:=h;refine⟨n,j,h1,(Hy.1 h2).1,?_,(Hy.1 h4).1⟩;rw[jT,XO,h2];exact h3
theorem KI.dN{k:Kr}(h:KI k){p:Nat}{s:fq}(hs:s∈aV k.ps p)(hh:s.has=true):fu k s.eJ s.cn:=by
 unfold aV at hs;cases hp:k.ps[p]? with
 |none=>rw[hp]at hs;cases hs
 |some x=>rw[hp]at hs;exact h.cap x (O9 hp) s hs hh
theorem KI.kw{k:Kr}(h:KI k){p:Nat}(hp:p<k.ps.length):KW k p:=
 ⟨h.kr,h.ll,h.Cm,h.lk,fun o ho e he=>((h.en o ho).to e he).1,hp,fun s hs hh=>(h.dN hs hh).at⟩
end Kn
namespace Kn
theorem Ew.mono{l l':List Obj}{o:Obj}(h:Ew l o)(hm:∀(j:Nat)x,l[j]? =some x->x.ah≠0->∃y,l'[j]? =some y/\y.ah≠0):Ew l' o:=
 ⟨h.eq,h.Cm,h.cE,fun e he=>by obtain⟨h1,j,x,h2,h3,h4⟩:=h.to e he;obtain⟨y,h5,h6⟩:=hm j x h3 h4;exact⟨h1,j,y,h2,h5,h6⟩⟩
structure Re(k:Kr)(l':List Obj)(x:Obj):Prop where
 sm:x.sm
 d:x.data.length<=60
 q:∀q,q∈x.ak->q.has=true->fu k q.eJ q.cn
 p:x.ah=5->∃n:Nat,x.aM=n/\n<k.ps.length
 e:Ew l' x
 z:x.ah=0->x=gQ
theorem KI.bt{k:Kr}(h:KI k){l':List Obj}(hm:∀(j:Nat)x,k.l[j]? =some x->x.ah≠0->∃y,l'[j]? =some y/\y.ah≠0){x:Obj}(hx:x∈k.l):Re k l' x:=
 ⟨h.sm x hx,h.NQ x hx,h.qu x hx,h.pr x hx,(h.en x hx).mono hm,h.z x hx⟩
theorem fu.mono{k k':Kr}{z r:Int}(h:fu k z r)(ho:∀(n:Nat)o,k.ops[n]? =some o->fA k.l o.bt->∃o',k'.ops[n]? =some o'/\fA k'.l o'.bt):fu k' z r:=by obtain⟨h0,n,o,h1,h2,h3⟩:=h;obtain⟨o',h4,h5⟩:=ho n o h2 h3;exact⟨h0,n,o',h1,h4,h5⟩
theorem fA.mono{l l':List Obj}{z:Int}(h:fA l z)(hm:∀(j:Nat)x,l[j]? =some x->x.ah≠0->∃y,l'[j]? =some y/\y.ah≠0):fA l' z:=by obtain⟨j,x,h1,h2,h3⟩:=h;obtain⟨y,h4,h5⟩:=hm j x h2 h3;exact⟨j,y,h1,h4,h5⟩
theorem KI.zh{k:Kr}(h:KI k){l':List Obj}(Uv:l'.length<=40)(hm:∀(j:Nat)x,k.l[j]? =some x->x.ah≠0->∃y,l'[j]? =some y/\y.ah≠0)(hx:∀x,x∈l'->Re k l' x)(Ad:∀(i:Nat)o,l'[i]? =some o->o.ah=4->o.aG= -1\/∃(j:Nat)(x:Obj),o.aG=j/\l'[j]? =some x/\x.ah=4/\x.aG=i)(ht:Tree (l'.map tv)):KI ⟨l',k.ops,k.ps⟩:=by
 have dN:∀z r,fu k z r->fu ⟨l',k.ops,k.ps⟩ z r:=fun z r hc=>hc.mono fun n o ho hi=>⟨o,ho,hi.mono hm⟩
 exact⟨Uv,h.lo,h.lp,fun o ho=>(hx o ho).sm,h.sl,h.ne,h.aZ,fun x hx s hs hh=>dN _ _ (h.cap x hx s hs hh),fun o ho q hq hh=>dN _ _ ((hx o ho).q q hq hh),fun o ho=>(hx o ho).p,fun o ho=>(hx o ho).e,fun o ho=>(hx o ho).z,Ad,h.cU,fun o ho=>(hx o ho).d,ht⟩
theorem KI.HZ{k:Kr}(h:KI k){n:Nat}{o o':Obj}(ho:k.l[n]? =some o)(hs:o'.ah=o.ah/\o'.aj=o.aj/\o'.up=o.up/\o'.am=o.am/\o'.aG=o.aG/\o'.aM=o.aM)(hk:o.ah≠0)(CM:o'.sm)(hd:o'.data.length<=60)(hq:∀q,q∈o'.ak->q.has=true->fu k q.eJ q.cn):KI ⟨k.l.set n o',k.ops,k.ps⟩:=by
 obtain⟨s1,s2,s3,s4,s5,s6⟩:=hs;have hn:=(Hy.1 ho).1;have get:∀i:Nat,(k.l.set n o')[i]? =if i=n then some o' else k.l[i]? :=fun i=>by
  by_cases e:i=n
  .subst e;rw[if_pos rfl,QO hn]
  .rw[if_neg e,XK (fun x=>e x.symm)]
 have hm:∀(j:Nat)x,k.l[j]? =some x->x.ah≠0->∃y,(k.l.set n o')[j]? =some y/\y.ah≠0:=fun j x hx Yx=>by
  rw[get];by_cases e:j=n
  .rw[if_pos e];exact⟨o',rfl,by rw[s1];exact hk⟩
  .rw[if_neg e];exact⟨x,hx,Yx⟩
 have Ii:=O9 ho;refine h.zh (by rw[aab];exact h.ll) hm (fun x hx=>?_) (fun i x hx h4=>?_) ?_
 .rcases aag hx with hx|rfl
  .exact h.bt hm hx
  .have he:=(h.en o Ii).mono hm;have mZ:dI x=dI o:=by unfold dI;rw[s2]
   exact⟨CM,hd,hq,fun h5=>by rw[s6];exact h.pr o Ii (s1▸h5),⟨by rw[mZ,s2];exact he.eq,by rw[mZ];exact he.Cm,fun hn=>by rw[s2];exact he.cE (s1▸hn),fun e hx=>he.to e (mZ▸hx)⟩,fun hz=>absurd (s1▸hz) hk⟩
 .have key:∀y:Obj,k.l[i]? =some y->y.ah=4->y.aG= -1\/∃(j:Nat)(x:Obj),y.aG=j/\(k.l.set n o')[j]? =some x/\x.ah=4/\x.aG=i:=fun y hy LH=>by
   rcases h.pe i y hy LH with h1|⟨j,z,h1,h2,h3,h4⟩
   .exact .inl h1
   .right;by_cases e:j=n
    .subst e;rw[ho]at h2;cases h2;exact⟨j,o',h1,by rw[get,if_pos rfl],by rw[s1];exact h3,by rw[s5];exact h4⟩
    .exact⟨j,z,h1,by rw[get,if_neg e];exact h2,h3,h4⟩
  rw[get]at hx;by_cases e:i=n
  .rw[if_pos e]at hx;cases hx;rw[s5];exact key o (e▸ho) (s1▸h4)
  .rw[if_neg e]at hx;exact key x hx h4
 .have:(k.l.set n o').map tv=k.l.map tv:=by
   apply aaI;intro i;rw[O6,O6,get];by_cases e:i=n
   .subst e;rw[if_pos rfl,ho];show some _=some _;unfold tv dI;rw[s1,s2,s3,s4]
   .rw[if_neg e]
  rw[this];exact h.qC
theorem gn{l:List Obj}{o:Obj}(h:(aI l o).2.2=0)(hl:l.length<=40):∃j:Nat,(aI l o).2.1=j/\(aI l o).1[j]? =some o/\(∀i,i≠j->(aI l o).1[i]? =l[i]?)/\(∀d,l[j]? =some d->d.ah=0)/\(aI l o).1.length<=40/\(∀x,x∈(aI l o).1->x∈l\/x=o):=by
 have hm:∀x,x∈(aI l o).1->x∈l\/x=o:=fun x=>xA
 revert h hm;unfold aI;split
 .rename_i k hk;intro _ hm;have oP:=aar.1 hk;refine⟨k,rfl,QO oP.1,fun i hi=>XK (fun e=>hi e.symm),fun d hd=>?_,by rw[aab];exact hl,fun x hx=>hm x hx⟩
  rw[tq oP.1]at hd;cases hd;simpa using oP.2.1
 .split
  .intro h;cases h
  .rename_i Uv;intro _ hm;refine⟨l.length,rfl,by rw[UX (QN _)];simp,fun i hi=>?_,fun d hd=>?_,by simp only[aaw,XR,aat];omega,fun x hx=>hm x hx⟩
   .rcases XN i l.length with h1|h1
    .exact VO h1
    .rw[UX h1,aaj h1];cases e:i-l.length with
     |zero=>omega
     |succ n=>rfl
   .rw[aaj (QN _)]at hd;cases hd
structure NV(k:Kr)(o:Obj):Prop where
 sm:o.sm
 kd:o.ah≠0
 e:o.aj=[]
 q:o.ak=[]
 d:o.data.length<=60
 l:o.am=0
 u:o.up=0
 pe:o.ah=4->o.aG= -1
 p:o.ah=5->∃n:Nat,o.aM=n/\n<k.ps.length
theorem KI.make{k:Kr}(h:KI k){o:Obj}(ho:NV k o)(he:(aI k.l o).2.2=0):KI ⟨(aI k.l o).1,k.ops,k.ps⟩:=by
 obtain⟨j,_,h2,h3,h4,h5,h6⟩:=gn he h.ll;have hm:∀(i:Nat)x,k.l[i]? =some x->x.ah≠0->∃y,(aI k.l o).1[i]? =some y/\y.ah≠0:=fun i x hx hk=>by
  by_cases e:i=j
  .subst e;exact absurd (h4 x hx) hk
  .exact⟨x,by rw[h3 i e];exact hx,hk⟩
 refine h.zh h5 hm (fun x hx=>?_) (fun i x hx ZY=>?_) ?_
 .rcases h6 x hx with hx|rfl
  .exact h.bt hm hx
  .exact⟨ho.sm,ho.d,fun q hq=>(by rw[ho.q]at hq;cases hq),ho.p,⟨(by unfold dI;rw[ho.e];rfl),(by unfold dI;rw[ho.e];exact List.Pairwise.nil),fun _=>ho.e,fun e he=>(by unfold dI at he;rw[ho.e]at he;cases he)⟩,fun hz=>absurd hz ho.kd⟩
 .by_cases e:i=j
  .subst e;rw[h2]at hx;cases hx;exact .inl (ho.pe ZY)
  .rw[h3 i e]at hx;rcases h.pe i x hx ZY with a|⟨n,y,a1,a2,a3,a4⟩
   .exact .inl a
   .exact .inr ⟨n,y,a1,by rw[h3 n fun e=>by subst e;have:=h4 y a2;omega];exact a2,a3,a4⟩
 .refine h.qC.new (k:=j) (s:=tv o) ⟨ho.kd,ho.l,by unfold tv dI;rw[ho.e];rfl,.inl ho.u⟩ (fG h2) (fun i hi=>by rw[O6,O6,h3 i hi]) fun d hd=>?_
  obtain⟨x,a1,rfl⟩:=nL hd;exact h4 x a1
theorem o9{l:List Obj}{z:Int}(h:oq l z 0=true):fA l z:=by unfold oq ns at h;rw[T6,T6,decide_eq_true_eq,decide_eq_true_eq,LW]at h;obtain⟨h1,h2,h3⟩:=h;have hz:z.toNat<l.length:=om;rw[O6,tq hz]at h3;simp only[XS,T6]at h3;refine⟨z.toNat,l[z.toNat],om,tq hz,?_⟩;have:=h3.1;simpa[Obj.ob]using this
theorem tc{b:Bool}{l:List Obj}{cE bt:Int}{name:ByteArray}(h:(cP b l cE name bt).2=0):∃(n p:Nat)(o q:Obj),cE=n/\bt=p/\l[n]? =some o/\l[p]? =some q/\q.ah≠0/\o.ah=2/\o.am≠0/\b=true/\
  ¬fg (dI o) name>=0/\o.aj.length<8/\(cP b l cE name bt).1=iO l n p name:=by
 have hr:=h;unfold cP at hr;by_cases h1:oq l cE 0=true
 .rw[if_pos h1]at hr;by_cases h2:oq l bt 0=true
  .rw[if_pos h2]at hr;obtain⟨n,o,rfl,hn,_⟩:=o9 h1;obtain⟨p,q,rfl,hp,hq⟩:=o9 h2;rw[XO,XO,hn]at hr;simp only[]at hr;have hR:cP b l n name p=xH b o (iO l n p name) name:=by unfold cP;rw[if_pos h1,if_pos h2,XO,XO,hn]
   unfold xH at hr;by_cases a1:o.ah≠2
   .rw[if_pos a1]at hr;cases hr
   rw[if_neg a1]at hr;by_cases a2:o.am=0
   .rw[if_pos a2]at hr;cases hr
   rw[if_neg a2]at hr;by_cases a3:b=false
   .rw[if_pos a3]at hr;cases hr
   rw[if_neg a3]at hr;by_cases a4:fg (o.aj.map mH) name>=0
   .rw[if_pos a4]at hr;cases hr
   rw[if_neg a4]at hr;by_cases a5:o.aj.length>=8
   .rw[if_pos a5]at hr;cases hr
   exact⟨n,p,o,q,rfl,rfl,hn,hp,hq,by simpa using a1,a2,by simpa using a3,a4,om,by rw[hR,xH,if_neg a1,if_neg a2,if_neg a3,if_neg a4,if_neg a5]⟩
  .rw[if_neg h2]at hr;cases hr
 .rw[if_neg h1]at hr;cases hr
def qD(o:Obj)(name:ByteArray)(p:Nat):Obj:={o with aj:=(gZ (name,(p:Int)) (dI o)).map fD}
def Gg(q:Obj)(n:Nat):Obj:={q with am:=IntKind.i64.wrap (q.am+1),up:=if q.ah=2 then(n:Int)else q.up}
theorem xS{l:List Obj}{n p:Nat}{o q:Obj}(hn:l[n]? =some o)(hp:l[p]? =some q)(Eu:n≠p)(name:ByteArray):
  (iO l n p name)[n]? =some (qD o name p)/\(iO l n p name)[p]? =some (Gg q n)/\(∀j,j≠n->j≠p->(iO l n p name)[j]? =l[j]?)/\(iO l n p name).length=l.length:=by
 have j8:=(Hy.1 hn).1;have iI:=(Hy.1 hp).1;have Lt:(l.set n (qD o name p))[p]? =some q:=by rw[XK Eu];exact hp
 have e:iO l n p name=(l.set n (qD o name p)).set p (Gg q n):=by
  unfold iO;rw[hn];simp only[];rw[show {o with aj:=(gZ (name,(p:Int)) (o.aj.map mH)).map fD}=qD o name p from rfl,Lt]
  rfl
 rw[e];refine⟨?_,?_,fun j h1 h2=>?_,aK⟩
 .rw[XK Eu.symm,QO j8]
 .rw[QO (by simpa using iI)]
 .rw[XK (fun e=>h2 e.symm),XK (fun e=>h1 e.symm)]
theorem xT(x:NE):∀es:List NE,x∈gZ x es
 | []=>by simp[gZ]
 |e::r=>by
  rw[gZ];split
  .simp
  .exact abC _ (xT x r)
theorem BK{x y:NE}:∀{es:List NE},y∈es->y∈gZ x es
 | [],h=>by cases h
 |e::r,h=>by
  rw[gZ];split
  .exact abC _ h
  .rcases aad.1 h with rfl|h
   .simp
   .exact abC _ (BK h)
theorem Ey{es:List NE}{name:ByteArray}(de:∀e,e∈es->0<=e.2)(h:¬fg es name>=0):∀e,e∈es->e.1.toList≠name.toList:=by
 rcases iK es name with⟨e,he,_,h2⟩|⟨_,h2⟩
 .have:=de e he;rw[h2]at h;omega
 .exact h2
theorem KI.enter{k:Kr}(h:KI k){b:Bool}{cE bt:Int}{name:ByteArray}(Fo:b=true->name.size<=12)(vY:∀(p:Nat)q,bt=p->k.l[p]? =some q->q.am=0)(he:(cP b k.l cE name bt).2=0):KI ⟨(cP b k.l cE name bt).1,k.ops,k.ps⟩:=by
 obtain⟨n,p,o,q,rfl,rfl,hn,hp,Ic,i5,Aw,hb,hf,h8,hR⟩:=tc he;have RX:=vY p q rfl hp;have Eu:n≠p:=fun e=>by subst e;rw[hn]at hp;cases hp;exact Aw RX
 rw[hR];obtain⟨g1,g2,g3,g4⟩:=xS hn hp Eu name;have Ii:=O9 hn;have NW:=O9 hp;have sX:=h.en o Ii;have NO:q.aj=[]:=by have:=h.qC.em p (tv q) (fG hp) RX;have h2:=(h.en q NW).eq;have this:dI q=[]:=this;rw[this]at h2;exact h2
 have td:dI (qD o name p)=gZ (name,(p:Int)) (dI o):=by unfold dI qD;exact me _
 have LI:dI (Gg q n)=dI q:=rfl;have hw:IntKind.i64.wrap (q.am+1)=1:=by rw[RX];rfl
 have hm:∀(j:Nat)x,k.l[j]? =some x->x.ah≠0->∃y,(iO k.l n p name)[j]? =some y/\y.ah≠0:=fun j x hx hk=>by
  by_cases e:j=n
  .subst e;rw[hn]at hx;cases hx;exact⟨_,g1,hk⟩
  .by_cases e2:j=p
   .subst e2;rw[hp]at hx;cases hx;exact⟨_,g2,hk⟩
   .exact⟨x,by rw[g3 j e e2];exact hx,hk⟩
 have ot:∀(i:Nat)x,(iO k.l n p name)[i]? =some x->(i=n/\x=qD o name p)\/(i=p/\x=Gg q n)\/(i≠n/\i≠p/\k.l[i]? =some x):=fun i x hx=>by
  by_cases e:i=n
  .subst e;rw[g1]at hx;cases hx;exact .inl ⟨rfl,rfl⟩
  .by_cases e2:i=p
   .subst e2;rw[g2]at hx;cases hx;exact .inr (.inl ⟨rfl,rfl⟩)
   .rw[g3 i e e2]at hx;exact .inr (.inr ⟨e,e2,hx⟩)
 have de:∀e,e∈dI o->0<=e.2:=fun e hx=>by obtain⟨_,j,_,h1,_⟩:=sX.to e hx;omega
 refine h.zh (by rw[g4];exact h.ll) hm (fun x hx=>?_) (fun i x hx h4=>?_) ?_
 .obtain⟨i,hi⟩:=Xz hx;rcases ot i x hi with⟨rfl,rfl⟩|⟨rfl,rfl⟩|⟨_,_,hx⟩
  .have hO:=h.bt hm Ii;refine⟨⟨⟨hO.sm.t.1,⟨_,rfl⟩,hO.sm.t.2.2⟩,hO.sm.d,?_,hO.sm.q,hO.sm.qd⟩,hO.d,hO.q,hO.p,?_,fun hz=>absurd hz (by rw[show(qD o name p).ah=o.ah from rfl,i5];decide)⟩
   .show((gZ (name,(p:Int)) (dI o)).map fD).length<=8;rw[LW,AQ,sX.len];omega
   .refine⟨by rw[td];rfl,by rw[td];exact J6 sX.Cm (Ey de hf),fun hk=>absurd i5 hk,fun e hx=>?_⟩
    rw[td]at hx;rcases p0 hx with hx|rfl
    .exact hO.e.to e hx
    .exact⟨Fo hb,p,_,rfl,g2,Ic⟩
  .have hO:=h.bt hm NW;exact⟨⟨hO.sm.t,hO.sm.d,hO.sm.e,hO.sm.q,hO.sm.qd⟩,hO.d,hO.q,hO.p,⟨hO.e.eq,hO.e.Cm,hO.e.cE,hO.e.to⟩,fun hz=>absurd hz Ic⟩
  .exact h.bt hm (O9 hx)
 .have key:∀(i:Nat)y,k.l[i]? =some y->y.ah=4->y.aG= -1\/∃(j:Nat)(x:Obj),y.aG=j/\(iO k.l n p name)[j]? =some x/\x.ah=4/\x.aG=i:=fun i y hy LH=>by
   rcases h.pe i y hy LH with h1|⟨j,z,h1,h2,h3,h4⟩
   .exact .inl h1
   .right;by_cases e:j=n
    .subst e;rw[hn]at h2;cases h2;omega
    .by_cases e2:j=p
     .subst e2;rw[hp]at h2;cases h2;exact⟨j,_,h1,g2,h3,h4⟩
     .exact⟨j,z,h1,by rw[g3 j e e2];exact h2,h3,h4⟩
  rcases ot i x hx with⟨rfl,rfl⟩|⟨rfl,rfl⟩|⟨_,_,hx⟩
  .exact key _ o hn h4
  .exact key _ q hp h4
  .exact key i x hx h4
 .refine h.qC.enter (nm:=name) (fG hn) (fG hp) Aw RX Ic (fG g1) (fG g2) (fun j a b=>by rw[O6,O6,g3 j a b]) ⟨rfl,rfl,rfl⟩ (fun e=>?_) ⟨rfl,hw,LI,rfl⟩
  show e∈dI (qD o name p)↔_;rw[td];exact⟨p0,fun hx=>hx.elim BK fun hx=>hx▸xT _ _⟩
end Kn
namespace Kn
theorem zi{l:List Obj}{cE:Int}{name:ByteArray}(h:(cN l cE name).2.2=0):∃(n k:Nat)(o q:Obj),cE=n/\l[n]? =some o/\o.ah=2/\fg (dI o) name=k/\l[k]? =some q/\¬(q.ah=2/\q.aj.length>0)/\
  (cN l cE name).1=jS l n k name/\(cN l cE name).2.1=k:=by
 have hr:=h;unfold cN at hr;by_cases h1:oq l cE 0=true
 .rw[if_pos h1]at hr;obtain⟨n,o,rfl,hn,_⟩:=o9 h1;rw[XO,hn]at hr;simp only[]at hr;have hR:cN l n name=vj o l n name:=by unfold cN;rw[if_pos h1,XO,hn]
  unfold vj at hr;by_cases a1:o.ah≠2
  .rw[if_pos a1]at hr;cases hr
  rw[if_neg a1]at hr;by_cases a2:fg (o.aj.map mH) name<0
  .rw[if_pos a2]at hr;cases hr
  rw[if_neg a2]at hr;cases hq:l[(fg (o.aj.map mH) name).toNat]? with
  |none=>rw[hq]at hr;cases hr
  |some q=>
   rw[hq]at hr;simp only[]at hr;by_cases a3:q.ah=2/\q.aj.length>0
   .rw[if_pos a3]at hr;cases hr
   have hk:fg (o.aj.map mH) name=((fg (o.aj.map mH) name).toNat:Nat):=om;refine⟨n,_,o,q,rfl,hn,by simpa using a1,hk,hq,a3,?_,?_⟩
   .rw[hR,vj,if_neg a1,if_neg a2,hq];simp only[if_neg a3]
   .rw[hR,vj,if_neg a1,if_neg a2,hq];simp only[if_neg a3];exact hk
 .rw[if_neg h1]at hr;cases hr
def te(o:Obj)(name:ByteArray):Obj:={o with aj:=((dI o).filter fun e=>decide (e.1.toList≠name.toList)).map fD}
def Gh(q:Obj)(p:Nat):Obj:={q with am:=IntKind.i64.wrap (q.am-1),up:=if q.ah=2 then(p:Int)else q.up}
theorem Ij{l:List Obj}{n p:Nat}{o q:Obj}(hn:l[n]? =some o)(hp:l[p]? =some q)(Eu:n≠p)(name:ByteArray):
  (jS l n p name)[n]? =some (te o name)/\(jS l n p name)[p]? =some (Gh q p)/\(∀j,j≠n->j≠p->(jS l n p name)[j]? =l[j]?)/\(jS l n p name).length=l.length:=by
 have j8:=(Hy.1 hn).1;have iI:=(Hy.1 hp).1;have Lt:(l.set n (te o name))[p]? =some q:=by rw[XK Eu];exact hp
 have e:jS l n p name=(l.set n (te o name)).set p (Gh q p):=by
  unfold jS;rw[hn];simp only[];rw[show {o with aj:=((o.aj.map mH).filter fun e=>decide (e.1.toList≠name.toList)).map fD}=te o name from rfl,Lt]
  rfl
 rw[e];refine⟨?_,?_,fun j h1 h2=>?_,aK⟩
 .rw[XK Eu.symm,QO j8]
 .rw[QO (by simpa using iI)]
 .rw[XK (fun e=>h2 e.symm),XK (fun e=>h1 e.symm)]
theorem KI.Ev{k:Kr}(h:KI k){cE:Int}{name:ByteArray}(he:(cN k.l cE name).2.2=0):KI ⟨(cN k.l cE name).1,k.ops,k.ps⟩:=by
 obtain⟨n,p,o,q,rfl,hn,i5,hf,hp,NO,hR,_⟩:=zi he;have Ii:=O9 hn;have NW:=O9 hp;have sX:=h.en o Ii;obtain⟨e0,BH,Oz,Yw⟩:∃e0,e0∈dI o/\e0.1.toList=name.toList/\e0.2=(p:Int):=by
  rcases iK (dI o) name with⟨e,a1,a2,a3⟩|⟨a3,_⟩
  .exact⟨e,a1,a2,om⟩
  .omega
 have RX:q.aj=[]:=by
  by_cases hk:q.ah=2
  .exact XJ (by
    have:=fun h=>NO ⟨hk,h⟩
    omega)
  .exact(h.en q NW).cE hk
 have Yy:dI q=[]:=by unfold dI;rw[RX];rfl
 have Eu:n≠p:=fun e=>by subst e;rw[hn]at hp;cases hp;rw[Yy]at BH;cases BH
 obtain⟨p',x,b1,_,b3,Ic,J2,_⟩:=h.qC.tr n (tv o) e0 (fG hn) BH;have:p'=p:=om;subst this;rw[fG hp]at b3;cases b3;have Ic:q.ah≠0:=Ic;have J2:q.am=1:=J2;rw[hR];obtain⟨g1,g2,g3,g4⟩:=Ij hn hp Eu name;have td:dI (te o name)=(dI o).filter fun e=>decide (e.1.toList≠name.toList):=by
  show((((dI o).filter fun e=>decide (e.1.toList≠name.toList)).map fD).map mH)=_
  exact me _
 have mT:∀e,e∈dI (te o name)↔e∈dI o/\e≠e0:=fun e=>by rw[td,acv,decide_eq_true_eq];refine⟨fun⟨a,b⟩=>⟨a,fun e1=>by subst e1;exact b Oz⟩,fun⟨a,b⟩=>⟨a,fun e1=>b (uG sX.Cm a BH (e1.trans Oz.symm))⟩⟩
 have LI:dI (Gh q p')=[]:=Yy;have hw:IntKind.i64.wrap (q.am-1)=0:=by rw[J2];rfl
 have hm:∀(j:Nat)x,k.l[j]? =some x->x.ah≠0->∃y,(jS k.l n p' name)[j]? =some y/\y.ah≠0:=fun j x hx hk=>by
  by_cases e:j=n
  .subst e;rw[hn]at hx;cases hx;exact⟨_,g1,hk⟩
  .by_cases e2:j=p'
   .subst e2;rw[hp]at hx;cases hx;exact⟨_,g2,hk⟩
   .exact⟨x,by rw[g3 j e e2];exact hx,hk⟩
 have ot:∀(i:Nat)x,(jS k.l n p' name)[i]? =some x->(i=n/\x=te o name)\/(i=p'/\x=Gh q p')\/(i≠n/\i≠p'/\k.l[i]? =some x):=fun i x hx=>by
  by_cases e:i=n
  .subst e;rw[g1]at hx;cases hx;exact .inl ⟨rfl,rfl⟩
  .by_cases e2:i=p'
   .subst e2;rw[g2]at hx;cases hx;exact .inr (.inl ⟨rfl,rfl⟩)
   .rw[g3 i e e2]at hx;exact .inr (.inr ⟨e,e2,hx⟩)
 refine h.zh (by rw[g4];exact h.ll) hm (fun x hx=>?_) (fun i x hx h4=>?_) ?_
 .obtain⟨i,hi⟩:=Xz hx;rcases ot i x hi with⟨rfl,rfl⟩|⟨rfl,rfl⟩|⟨_,_,hx⟩
  .have hO:=h.bt hm Ii;refine⟨⟨⟨hO.sm.t.1,⟨_,rfl⟩,hO.sm.t.2.2⟩,hO.sm.d,?_,hO.sm.q,hO.sm.qd⟩,hO.d,hO.q,hO.p,?_,fun hz=>absurd hz (by rw[show(te o name).ah=o.ah from rfl,i5];decide)⟩
   .show(((dI o).filter fun e=>decide (e.1.toList≠name.toList)).map fD).length<=8
    rw[LW];have:=abi (fun e:NE=>decide (e.1.toList≠name.toList)) (dI o)
    have:=sX.len;have:=hO.sm.e;omega
   .exact⟨by rw[td];rfl,by rw[td];exact sX.Cm.filter _,fun hk=>absurd i5 hk,fun e hx=>hO.e.to e ((mT e).1 hx).1⟩
  .have hO:=h.bt hm NW;exact⟨⟨hO.sm.t,hO.sm.d,hO.sm.e,hO.sm.q,hO.sm.qd⟩,hO.d,hO.q,hO.p,⟨hO.e.eq,hO.e.Cm,hO.e.cE,hO.e.to⟩,fun hz=>absurd hz Ic⟩
  .exact h.bt hm (O9 hx)
 .have key:∀(i:Nat)y,k.l[i]? =some y->y.ah=4->y.aG= -1\/∃(j:Nat)(x:Obj),y.aG=j/\(jS k.l n p' name)[j]? =some x/\x.ah=4/\x.aG=i:=fun i y hy LH=>by
   rcases h.pe i y hy LH with h1|⟨j,z,h1,h2,h3,h4⟩
   .exact .inl h1
   .right;by_cases e:j=n
    .subst e;rw[hn]at h2;cases h2;omega
    .by_cases e2:j=p'
     .subst e2;rw[hp]at h2;cases h2;exact⟨j,_,h1,g2,h3,h4⟩
     .exact⟨j,z,h1,by rw[g3 j e e2];exact h2,h3,h4⟩
  rcases ot i x hx with⟨rfl,rfl⟩|⟨rfl,rfl⟩|⟨_,_,hx⟩
  .exact key _ o hn h4
  .exact key _ q hp h4
  .exact key i x hx h4
 .exact h.qC.Ev (fG hn) BH Yw (fG hp) Yy (fG g1) (fG g2) (fun j a b=>by rw[O6,O6,g3 j a b]) ⟨rfl,rfl,rfl⟩ mT ⟨rfl,hw,LI,rfl⟩
theorem LJ(k:Kr):NV k (bM (-1)):=⟨⟨⟨⟨[],rfl⟩,⟨[],rfl⟩,by simp[bM]⟩,by simp[bM],by simp[bM],by simp[bM],by simp[bM]⟩,by simp[bM],rfl,rfl,by simp[bM],rfl,rfl,fun _=>rfl,fun h=>by simp[bM]at h⟩
structure UJ(l:List Obj)(P:List Obj×(Int×Int)×Int)(a b:Nat):Prop where
 ea:P.2.1.1=a
 eb:P.2.1.2=b
 ab:a≠b
 za:∀d,l[a]? =some d->d.ah=0
 zb:∀d,l[b]? =some d->d.ah=0
 ga:P.1[a]? =some (bM b)
 gb:P.1[b]? =some (bM a)
 go:∀i,i≠a->i≠b->P.1[i]? =l[i]?
 m:∀x,x∈P.1->x∈l\/x=bM b\/x=bM a
 ll:P.1.length<=40
theorem Ez{l:List Obj}(hl:l.length<=40)(h:(fe l).2.2=0):(aI l (bM (-1))).2.2=0/\∃a b:Nat,(aI l (bM (-1))).2.1=a/\UJ l (fe l) a b/\(∀d,(aI l (bM (-1))).1[b]? =some d->d.ah=0):=by
 unfold fe at h;by_cases h1:(aI l (bM (-1))).2.2=0
 .refine⟨h1,?_⟩;rw[if_neg (by simp[h1])]at h
  obtain⟨a,e1,a2,a3,a4,a5,a6⟩:=gn h1 hl;by_cases h2:(aI (aI l (bM (-1))).1 (bM (aI l (bM (-1))).2.1)).2.2=0
  .obtain⟨b,b1,b2,b3,b4,b5,b6⟩:=gn h2 a5;have Cj:a≠b:=fun e=>by subst e;have:=b4 _ a2;simp[bM]at this
   have hP:fe l=(kJ (aI (aI l (bM (-1))).1 (bM (aI l (bM (-1))).2.1)).1 a b,((a:Int),(b:Int)),0):=by
    rw[fe,if_neg (by simp[h1]),if_neg (by simp[h2]),e1]
    rw[e1]at b1;rw[b1,XO]
   rw[e1]at b2 b3 hP b5 b6;have ha:(aI (aI l (bM (-1))).1 (bM (a:Int))).1[a]? =some (bM (-1)):=by rw[b3 a Cj];exact a2
   have Jj:=(Hy.1 ha).1;have yq:kJ (aI (aI l (bM (-1))).1 (bM (a:Int))).1 a b=(aI (aI l (bM (-1))).1 (bM (a:Int))).1.set a (bM b):=by rw[kJ,ha];rfl
   rw[yq]at hP;refine⟨a,b,e1,?_,b4⟩;rw[hP];refine⟨rfl,rfl,Cj,a4,fun d hd=>b4 d (by rw[a3 b (fun e=>Cj e.symm)];exact hd),QO Jj,by rw[XK Cj];exact b2,fun i h3 h4=>by rw[XK (fun e=>h3 e.symm),b3 i h4,a3 i h3],fun x hx=>?_,by rw[aab];exact b5⟩
   rcases aag hx with hx|hx
   .rcases b6 x hx with hx|hx
    .rcases a6 x hx with hx|hx
     .exact .inl hx
     .obtain⟨i,hi⟩:=Xz (show x∈(aI (aI l (bM (-1))).1 (bM (a:Int))).1.set a (bM b)from by assumption)
      by_cases ea:i=a
      .subst ea;rw[QO Jj]at hi;cases hi;exact .inr (.inl rfl)
      .rw[XK (fun e=>ea e.symm)]at hi
       by_cases eb:i=b
       .subst eb;rw[b2]at hi;cases hi;exact .inr (.inr rfl)
       .rw[b3 i eb,a3 i ea]at hi;exact .inl (O9 hi)
    .exact .inr (.inr hx)
   .exact .inr (.inl hx)
  .rw[if_pos h2]at h;exact absurd h h2
 .rw[if_pos h1]at h;exact absurd h h1
theorem KI.Rf{k:Kr}(h:KI k)(he:(fe k.l).2.2=0):KI ⟨(fe k.l).1,k.ops,k.ps⟩/\fA (fe k.l).1 (fe k.l).2.1.1/\fA (fe k.l).1 (fe k.l).2.1.2:=by
 obtain⟨h1,a,b,e1,P,VN⟩:=Ez h.ll he;have h2:=h.make (LJ k) h1;obtain⟨a',e1',a2,a3,a4,a5,a6⟩:=gn h1 h.ll;have:a'=a:=om;subst this;have ZZ:∀p:Int,Re k (fe k.l).1 (bM p):=fun p=>⟨⟨⟨⟨[],rfl⟩,⟨[],rfl⟩,by simp[bM]⟩,by simp[bM],by simp[bM],by simp[bM],by simp[bM]⟩,by simp[bM],by simp[bM],fun h=>by simp[bM]at h,⟨rfl,List.Pairwise.nil,fun _=>rfl,fun e he=>by cases he⟩,fun h=>by simp[bM]at h⟩
 have hm:∀(j:Nat)x,k.l[j]? =some x->x.ah≠0->∃y,(fe k.l).1[j]? =some y/\y.ah≠0:=fun j x hx hk=>by
  have ea:j≠a':=fun e=>by subst e;exact hk (P.za x hx)
  have eb:j≠b:=fun e=>by subst e;exact hk (P.zb x hx)
  exact⟨x,by rw[P.go j ea eb];exact hx,hk⟩
 refine⟨h.zh P.ll hm (fun x hx=>?_) (fun i x hx h4=>?_) ?_,⟨a',_,P.ea,P.ga,by simp[bM]⟩,⟨b,_,P.eb,P.gb,by simp[bM]⟩⟩
 .rcases P.m x hx with hx|rfl|rfl
  .exact h.bt hm hx
  .exact ZZ _
  .exact ZZ _
 .by_cases ea:i=a'
  .subst ea;rw[P.ga]at hx;cases hx;exact .inr ⟨b,_,rfl,P.gb,rfl,rfl⟩
  .by_cases eb:i=b
   .subst eb;rw[P.gb]at hx;cases hx;exact .inr ⟨a',_,rfl,P.ga,rfl,rfl⟩
   .rw[P.go i ea eb]at hx;rcases h.pe i x hx h4 with c|⟨j,y,c1,c2,c3,c4⟩
    .exact .inl c
    .refine .inr ⟨j,y,c1,?_,c3,c4⟩;rw[P.go j (fun e=>by subst e;have:=P.za y c2;omega) (fun e=>by subst e;have:=P.zb y c2;omega)]
     exact c2
 .refine h2.qC.new (k:=b) (s:=tv (bM a')) ⟨by simp[tv,bM],rfl,rfl,.inl rfl⟩ (fG P.gb) (fun j hj=>?_) fun d hd=>?_
  .rw[O6,O6];by_cases ea:j=a'
   .subst ea;rw[P.ga,a2];rfl
   .rw[P.go j ea hj,a3 j ea]
  .obtain⟨x,c1,rfl⟩:=nL hd;exact VN x c1
theorem EA{l:List Obj}{e:Int}{m:bp}(h:(eP l e m).2=0):∃(n p:Nat)(o q:Obj),e=n/\l[n]? =some o/\o.ah=4/\o.aG=p/\l[p]? =some q/\q.ah=4/\m.data.length<=60/\q.ak.length<4/\(eP l e m).1=l.set p {q with ak:=q.ak++ [m]}:=by
 have hr:=h;unfold eP at hr;by_cases h1:e<0\/e>=l.length
 .rw[if_pos h1]at hr;cases hr
 rw[if_neg h1]at hr;have hn:e.toNat<l.length:=om;have iV:=tq hn;rw[iV]at hr;simp only[]at hr;by_cases h2:l[e.toNat].ah≠4
 .rw[if_pos h2]at hr;cases hr
 rw[if_neg h2]at hr;by_cases h3:l[e.toNat].aG<0\/l[e.toNat].aG>=l.length
 .rw[if_pos h3]at hr;cases hr
 rw[if_neg h3]at hr;have hp:l[e.toNat].aG.toNat<l.length:=om;have Yz:=tq hp;rw[Yz]at hr;simp only[]at hr;by_cases h4:l[l[e.toNat].aG.toNat].ah≠4
 .rw[if_pos h4]at hr;cases hr
 rw[if_neg h4]at hr;by_cases h5:m.data.length>60
 .rw[if_pos h5]at hr;cases hr
 rw[if_neg h5]at hr;by_cases h6:l[l[e.toNat].aG.toNat].ak.length>=4
 .rw[if_pos h6]at hr;cases hr
 refine⟨e.toNat,l[e.toNat].aG.toNat,_,_,om,iV,by simpa using h2,om,Yz,by simpa using h4,om,om,?_⟩
 rw[eP,if_neg h1,iV];simp only[];rw[if_neg h2,if_neg h3,Yz];simp only[];rw[if_neg h4,if_neg h5,if_neg h6]
theorem KI.send{k:Kr}(h:KI k){e:Int}{m:bp}(ht:m.OR)(hc:m.has=true->fu k m.eJ m.cn)(he:(eP k.l e m).2=0):KI ⟨(eP k.l e m).1,k.ops,k.ps⟩:=by
 obtain⟨n,p,o,q,_,_,_,_,hp,hq4,RD,J2,hR⟩:=EA he;have NW:=O9 hp;have hs:=h.sm q NW;rw[hR];refine h.HZ hp ⟨rfl,rfl,rfl,rfl,rfl,rfl⟩ om ⟨⟨hs.t.1,hs.t.2.1,fun x hx=>?_⟩,hs.d,hs.e,?_,fun x hx=>?_⟩ (h.NQ q NW) fun x hx hh=>?_
 .rcases aaF.1 hx with hx|hx
  .exact hs.t.2.2 x hx
  .simp at hx;subst hx;exact ht
 .simp only[aaw,XR,aat];omega
 .rcases aaF.1 hx with hx|hx
  .exact hs.qd x hx
  .simp at hx;subst hx;omega
 .rcases aaF.1 hx with hx|hx
  .exact h.qu q NW x hx hh
  .simp at hx;subst hx;exact hc hh
theorem vH{l:List Obj}{e:Int}(h:(ff l e).2.2=0):∃(n:Nat)(o:Obj)(x:bp)(r:List bp),e=n/\l[n]? =some o/\o.ah=4/\o.ak=x::r/\(ff l e).1=l.set n {o with ak:=r}/\(ff l e).2.1=x:=by
 have hr:=h;unfold ff at hr;by_cases h1:e<0\/e>=l.length
 .rw[if_pos h1]at hr;cases hr
 rw[if_neg h1]at hr;have hn:e.toNat<l.length:=om;have iV:=tq hn;rw[iV]at hr;simp only[]at hr;by_cases h2:l[e.toNat].ah≠4
 .rw[if_pos h2]at hr;cases hr
 rw[if_neg h2]at hr;have hR:ff l e=(match l[e.toNat].ak with
  | []=>if l[e.toNat].aG<0\/l[e.toNat].aG>=l.length then([],lN,17)else match l[l[e.toNat].aG.toNat]? with
   |none=>([],lN,17)
   |some q=>if q.ah≠4 then([],lN,17)else([],lN,16)
  |x::r=>(l.set e.toNat {l[e.toNat]with ak:=r},x,0)):=by
  rw[ff,if_neg h1,iV];simp only[];rw[if_neg h2];rfl
 cases hq:l[e.toNat].ak with
 |nil=>
  rw[hq]at hr;simp only[]at hr;split at hr
  .cases hr
  .split at hr
   .cases hr
   .split at hr<;>cases hr
 |cons x r=>
  rw[hq]at hR;refine⟨e.toNat,_,x,r,om,iV,by simpa using h2,hq,?_,?_⟩<;>rw[hR]
theorem KI.recv{k:Kr}(h:KI k){e:Int}(he:(ff k.l e).2.2=0):KI ⟨(ff k.l e).1,k.ops,k.ps⟩/\((ff k.l e).2.1.has=true->fu k (ff k.l e).2.1.eJ (ff k.l e).2.1.cn):=by
 obtain⟨n,o,x,r,_,hn,ho4,hq,hR,hx⟩:=vH he;have Ii:=O9 hn;have hs:=h.sm o Ii;rw[hR,hx];have qX:∀y,y∈r->y∈o.ak:=fun y hy=>by rw[hq];exact abC _ hy
 refine⟨h.HZ hn ⟨rfl,rfl,rfl,rfl,rfl,rfl⟩ om ⟨⟨hs.t.1,hs.t.2.1,fun y hy=>hs.t.2.2 y (qX y hy)⟩,hs.d,hs.e,?_,fun y hy=>hs.qd y (qX y hy)⟩ (h.NQ o Ii) fun y hy hh=>h.qu o Ii y (qX y hy) hh,fun hh=>h.qu o Ii x (by rw[hq];simp) hh⟩
 have:=hs.q;rw[hq]at this;simp only[XR]at this⊢;omega
end Kn
end Go.Proofs.YthagjdhjmamakaaGreatDoor
