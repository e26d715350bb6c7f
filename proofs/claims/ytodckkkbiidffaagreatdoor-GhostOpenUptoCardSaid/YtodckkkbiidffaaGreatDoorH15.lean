/- Part 15 of 16. -/
import Derived.Test.YtodckkkbiidffaaGreatDoorH11
import Derived.Test.YtodckkkbiidffaaGreatDoorH12
import Derived.Test.YtodckkkbiidffaaGreatDoorH13
import Derived.Test.YtodckkkbiidffaaGreatDoorH14
import Derived.Shelf.SlSortCmp.WholeK
import Derived.Shelf.SlicesG.Cmp
import Derived.WalkKit
import Derived.OwnWalkIn
set_option linter.unusedVariables false
set_option linter.unusedSimpArgs false
set_option maxRecDepth 100000
set_option maxHeartbeats 0
namespace Go.Proofs.YtodckkkbiidffaaGreatDoor
open Proofs.Tryz
open Go.AM Go.ChangeShapes Go.WideShapes Go.ChangeAt Go.RowKit
namespace Kn
def dJ(o:Obj):List NE:=o.ak.map nZ
structure Sk where
 ag:Int
 up:Int
 am:Int
 es:List NE
def vo(o:Obj):Sk:=⟨o.ag,o.up,o.am,dJ o⟩
def skZ:Sk:=⟨0,0,0,[]⟩
inductive Lk(t:List Sk):Nat->Prop
 |aj:Lk t 0
 |step {i j:Nat} {d:Sk} {e:NE} (h:Lk t i) (hd:t[i]? =some d) (he:e∈d.es) (hj:e.2=(j:Nat)):Lk t j
structure Tree(t:List Sk):Prop where
 z:∀(i:Nat)d,t[i]? =some d->d.ag=0->d=skZ
 r0:∃d,t[0]? =some d/\d.ag=2/\d.am=1/\d.up=0
 tr:∀(i:Nat)d e,t[i]? =some d->e∈d.es->∃(j:Nat)(x:Sk),e.2=j/\j≠0/\t[j]? =some x/\x.ag≠0/\x.am=1/\(x.ag=2->x.up=i)
 un:∀(i i':Nat)d d' e e',t[i]? =some d->t[i']? =some d'->e∈d.es->e'∈d'.es->e.2=e'.2->i=i'/\e=e'
 lk:∀(i:Nat)d,t[i]? =some d->d.am≠0->Lk t i
 em:∀(i:Nat)d,t[i]? =some d->d.am=0->d.es=[]
 lr:∀(i:Nat)d,t[i]? =some d->d.am=0\/d.am=1
 ux:∀(i:Nat)d,t[i]? =some d->d.up=i\/d.up=0\/d.ag=2/\∃(u:Nat)(x:Sk)(e:NE),d.up=u/\t[u]? =some x/\e∈x.es/\e.2=i
theorem Tree.XO{t:List Sk}(h:Tree t){i:Nat}{d:Sk}(hd:t[i]? =some d):0<=d.up/\d.up<t.length:=by
 have hi:=(JJ.1 hd).1;rcases h.ux i d hd with h1|h1|⟨_,u,x,e,h1,h2,_⟩
 .omega
 .omega
 .have:=(JJ.1 h2).1;omega
theorem Lk.mono{t t':List Sk}(h:∀(i:Nat)d,t[i]? =some d->d.es≠[]->∃d',t'[i]? =some d'/\∀e,e∈d.es->e∈d'.es){i:Nat}(hl:Lk t i):Lk t' i:=by
 induction hl with
 |aj=>exact .aj
 |step _ hd he hj ih=>
  obtain⟨d',h1,h2⟩:=h _ _ hd (λe=>by rw[e]at he;cases he)
  exact .step ih h1 (h2 _ he) hj
theorem Tree.new{t t':List Sk}(h:Tree t){k:Nat}{s:Sk}(hs:s.ag≠0/\s.am=0/\s.es=[]/\(s.up=0\/s.up=k))(h1:t'[k]? =some s)(h2:∀j,j≠k->t'[j]? =t[j]?)(h3:∀d,t[k]? =some d->d.ag=0):Tree t':=by
 obtain⟨hk,hl,he,hu⟩:=hs;have old:∀(i:Nat)d,t[i]? =some d->d.ag≠0->t'[i]? =some d:=λi d hd hn=>by rw[h2 i λe=>hn (h3 d (e▸hd))];exact hd
 have XP:∀(i:Nat)d e,t[i]? =some d->e∈d.es->t'[i]? =some d:=λi d e hd he=>old i d hd λhz=>by rw[h.z i d hd hz]at he;cases he
 have pU:∀(i:Nat)d,t'[i]? =some d->(i=k/\d=s)\/t[i]? =some d:=λi d hd=>by
  by_cases e:i=k
  .subst e;rw[h1]at hd;cases hd;exact .inl ⟨rfl,rfl⟩
  .rw[h2 i e]at hd;exact .inr hd
 have hE:∀(i:Nat)d e,t'[i]? =some d->e∈d.es->t[i]? =some d:=λi d e hd hx=>by
  rcases pU i d hd with⟨_,rfl⟩|h
  .rw[he]at hx;cases hx
  .exact h
 have Pp:∀i,Lk t i->Lk t' i:=λi hi=>hi.mono λi d hd hn=>by obtain⟨e,hx⟩:=acS _ hn;exact⟨d,XP i d e hd hx,λ_ h=>h⟩
 refine⟨λi d hd hz=>?_,?_,λi d e hd hx=>?_,λi i' d d' e e' hd yp hx tm nI=>h.un i i' d d' e e' (hE i d e hd hx) (hE i' d' e' yp tm) hx tm nI,λi d hd hn=>?_,λi d hd hn=>?_,λi d hd=>?_,λi d hd=>?_⟩
 .rcases pU i d hd with⟨_,rfl⟩|h'
  .exact absurd hz hk
  .exact h.z i d h' hz
 .obtain⟨d,a1,a2,a3⟩:=h.r0;exact⟨d,old 0 d a1 om,a2,a3⟩
 .obtain⟨j,x,a1,a2,a3,a4,a5⟩:=h.tr i d e (hE i d e hd hx) hx;exact⟨j,x,a1,a2,old j x a3 a4,a4,a5⟩
 .rcases pU i d hd with⟨_,rfl⟩|h'
  .exact absurd hl hn
  .exact Pp i (h.lk i d h' hn)
 .rcases pU i d hd with⟨_,rfl⟩|h'
  .exact he
  .exact h.em i d h' hn
 .rcases pU i d hd with⟨_,rfl⟩|h'
  .exact .inl hl
  .exact h.lr i d h'
 .rcases pU i d hd with⟨rfl,rfl⟩|h'
  .exact hu.elim (λe=>.inr (.inl e)) .inl
  .rcases h.ux i d h' with a|a|⟨a0,u,x,e,a1,a2,a3,a4⟩
   .exact .inl a
   .exact .inr (.inl a)
   .exact .inr (.inr ⟨a0,u,x,e,a1,XP u x e a2 a3,a3,a4⟩)
theorem Tree.enter{t t':List Sk}(h:Tree t){n p:Nat}{d q d' q':Sk}(hn:t[n]? =some d)(hp:t[p]? =some q)(l4:d.am≠0)(HB:q.am=0)(Kj:q.ag≠0){nm:ByteArray}(h1:t'[n]? =some d')(h2:t'[p]? =some q')(h3:∀j,j≠n->j≠p->t'[j]? =t[j]?)(hd:d'.ag=d.ag/\d'.up=d.up/\d'.am=d.am)(Sw:∀e,e∈d'.es↔e∈d.es\/e=(nm,(p:Int)))(hq:q'.ag=q.ag/\q'.am=1/\q'.es=q.es/\q'.up=if q.ag=2 then(n:Int)else q.up):Tree t':=by
 have BF:n≠p:=λe=>by subst e;rw[hn]at hp;cases hp;exact l4 HB
 have Oi:q.es=[]:=h.em p q hp HB;have yv:d.ag≠0:=λe=>by rw[h.z n d hn e]at l4;exact l4 rfl
 have yE:p≠0:=λe=>by obtain⟨r,a1,a2,a3,a4⟩:=h.r0;rw[e,a1]at hp;cases hp;omega
 have nop:∀(i:Nat)x e,t[i]? =some x->e∈x.es->e.2≠(p:Int):=λi x e hx he hc=>by obtain⟨j,y,a1,_,a3,_,a5,_⟩:=h.tr i x e hx he;have:j=p:=om;subst this;rw[hp]at a3;cases a3;omega
 have pU:∀(i:Nat)x,t'[i]? =some x->(i=n/\x=d')\/(i=p/\x=q')\/(i≠n/\i≠p/\t[i]? =some x):=λi x hx=>by
  by_cases e:i=n
  .subst e;rw[h1]at hx;cases hx;exact .inl ⟨rfl,rfl⟩
  .by_cases e2:i=p
   .subst e2;rw[h2]at hx;cases hx;exact .inr (.inl ⟨rfl,rfl⟩)
   .rw[h3 i e e2]at hx;exact .inr (.inr ⟨e,e2,hx⟩)
 have back:∀(i:Nat)x e,t'[i]? =some x->e∈x.es->(∃y,t[i]? =some y/\e∈y.es)\/(i=n/\e=(nm,(p:Int))):=λi x e hx he=>by
  rcases pU i x hx with⟨rfl,rfl⟩|⟨rfl,rfl⟩|⟨_,_,hx⟩
  .rcases(Sw e).1 he with he|he
   .exact .inl ⟨d,hn,he⟩
   .exact .inr ⟨rfl,he⟩
  .rw[hq.2.2.1,Oi]at he;cases he
  .exact .inl ⟨x,hx,he⟩
 have fwd:∀(i:Nat)x,t[i]? =some x->∃x',t'[i]? =some x'/\x'.ag=x.ag/\∀e,e∈x.es->e∈x'.es:=λi x hx=>by
  by_cases e:i=n
  .subst e;rw[hn]at hx;cases hx;exact⟨d',h1,hd.1,λe he=>(Sw e).2 (.inl he)⟩
  .by_cases e2:i=p
   .subst e2;rw[hp]at hx;cases hx;exact⟨q',h2,hq.1,λe he=>by rw[Oi]at he;cases he⟩
   .exact⟨x,by rw[h3 i e e2];exact hx,rfl,λ_ h=>h⟩
 have Pp:∀i,Lk t i->Lk t' i:=λi hi=>hi.mono λi x hx _=>by obtain⟨x',a1,_,a2⟩:=fwd i x hx;exact⟨x',a1,a2⟩
 refine⟨λi x hx hz=>?_,?_,λi x e hx he=>?_,λi i' x x' e e' hx tm he mD nI=>?_,λi x hx O7=>?_,λi x hx hz=>?_,λi x hx=>?_,λi x hx=>?_⟩
 .rcases pU i x hx with⟨rfl,rfl⟩|⟨rfl,rfl⟩|⟨_,_,hx⟩
  .exact absurd (hd.1▸hz) yv
  .exact absurd (hq.1▸hz) Kj
  .exact h.z i x hx hz
 .obtain⟨r,a1,a2,a3,a4⟩:=h.r0;by_cases e:(0:Nat)=n
  .subst e;rw[a1]at hn;cases hn;exact⟨d',h1,by rw[hd.1];exact a2,by rw[hd.2.2];exact a3,by rw[hd.2.1];exact a4⟩
  .exact⟨r,by rw[h3 0 e (λe=>yE e.symm)];exact a1,a2,a3,a4⟩
 .rcases back i x e hx he with⟨y,hy,QO⟩|⟨rfl,rfl⟩
  .obtain⟨j,z,a1,a2,a3,a4,a5,a6⟩:=h.tr i y e hy QO;by_cases ej:j=n
   .subst ej;rw[hn]at a3;cases a3;exact⟨j,d',a1,a2,h1,by rw[hd.1];exact a4,by rw[hd.2.2];exact a5,by rw[hd.1,hd.2.1];exact a6⟩
   .have ejp:j≠p:=λe=>by subst e;rw[hp]at a3;cases a3;omega
    exact⟨j,z,a1,a2,by rw[h3 j ej ejp];exact a3,a4,a5,a6⟩
  .refine⟨p,q',rfl,yE,h2,by rw[hq.1];exact Kj,hq.2.1,λhk=>?_⟩
   rw[hq.2.2.2,if_pos (by rw[<-hq.1];exact hk)]
 .rcases back i x e hx he with⟨y,hy,QO⟩|⟨rfl,rfl⟩
  .rcases back i' x' e' tm mD with⟨y',Um,Oj⟩|⟨rfl,rfl⟩
   .exact h.un i i' y y' e e' hy Um QO Oj nI
   .exact absurd nI (nop i y e hy QO)
  .rcases back i' x' e' tm mD with⟨y',Um,Oj⟩|⟨rfl,rfl⟩
   .exact absurd nI.symm (nop i' y' e' Um Oj)
   .exact⟨rfl,rfl⟩
 .rcases pU i x hx with⟨rfl,rfl⟩|⟨rfl,rfl⟩|⟨_,_,hx⟩
  .exact Pp _ (h.lk _ d hn l4)
  .exact .step (Pp _ (h.lk _ d hn l4)) h1 ((Sw _).2 (.inr rfl)) rfl
  .exact Pp _ (h.lk i x hx O7)
 .rcases pU i x hx with⟨rfl,rfl⟩|⟨rfl,rfl⟩|⟨_,_,hx⟩
  .exact absurd (hd.2.2▸hz) l4
  .rw[hq.2.1]at hz;omega
  .exact h.em i x hx hz
 .rcases pU i x hx with⟨rfl,rfl⟩|⟨rfl,rfl⟩|⟨_,_,hx⟩
  .rw[hd.2.2];exact h.lr i d hn
  .exact .inr hq.2.1
  .exact h.lr i x hx
 .have key:∀(i:Nat)(y:Sk),t[i]? =some y->(y.up=i\/y.up=0\/y.ag=2/\∃(u:Nat)(x:Sk)(e:NE),y.up=u/\t'[u]? =some x/\e∈x.es/\e.2=i):=λi y hy=>by
   rcases h.ux i y hy with a|a|⟨a0,u,z,e,a1,a2,a3,a4⟩
   .exact .inl a
   .exact .inr (.inl a)
   .obtain⟨z',b1,_,b2⟩:=fwd u z a2;exact .inr (.inr ⟨a0,u,z',e,a1,b1,b2 e a3,a4⟩)
  rcases pU i x hx with⟨rfl,rfl⟩|⟨rfl,rfl⟩|⟨_,_,hx⟩
  .rw[hd.2.1,hd.1];exact key i d hn
  .rw[hq.2.2.2,hq.1];by_cases e2:q.ag=2
   .rw[if_pos e2];exact .inr (.inr ⟨e2,n,d',_,rfl,h1,(Sw _).2 (.inr rfl),rfl⟩)
   .rw[if_neg e2];exact key i q hp
  .exact key i x hx
theorem Tree.Gx{t t':List Sk}(h:Tree t){n p:Nat}{d q d' q':Sk}{e0:NE}(hn:t[n]? =some d)(zV:e0∈d.es)(YT:e0.2=(p:Int))(hp:t[p]? =some q)(Oi:q.es=[])(h1:t'[n]? =some d')(h2:t'[p]? =some q')(h3:∀j,j≠n->j≠p->t'[j]? =t[j]?)(hd:d'.ag=d.ag/\d'.up=d.up/\d'.am=d.am)(Sw:∀e,e∈d'.es↔e∈d.es/\e≠e0)(hq:q'.ag=q.ag/\q'.am=0/\q'.es=[]/\q'.up=if q.ag=2 then(p:Int)else q.up):Tree t':=by
 have BF:n≠p:=λe=>by subst e;rw[hn]at hp;cases hp;rw[Oi]at zV;cases zV
 obtain⟨p',q2,b1,yE,b3,Kj,HB,_⟩:=h.tr n d e0 hn zV;have:p'=p:=om;subst this;rw[hp]at b3;cases b3;have yv:d.ag≠0:=λe=>by rw[h.z n d hn e]at zV;cases zV
 have pU:∀(i:Nat)x,t'[i]? =some x->(i=n/\x=d')\/(i=p'/\x=q')\/(i≠n/\i≠p'/\t[i]? =some x):=λi x hx=>by
  by_cases e:i=n
  .subst e;rw[h1]at hx;cases hx;exact .inl ⟨rfl,rfl⟩
  .by_cases e2:i=p'
   .subst e2;rw[h2]at hx;cases hx;exact .inr (.inl ⟨rfl,rfl⟩)
   .rw[h3 i e e2]at hx;exact .inr (.inr ⟨e,e2,hx⟩)
 have back:∀(i:Nat)x e,t'[i]? =some x->e∈x.es->∃y,t[i]? =some y/\e∈y.es/\e≠e0:=λi x e hx he=>by
  rcases pU i x hx with⟨rfl,rfl⟩|⟨rfl,rfl⟩|⟨c1,_,hx⟩
  .exact⟨d,hn,((Sw e).1 he).1,((Sw e).1 he).2⟩
  .rw[hq.2.2.1]at he;cases he
  .exact⟨x,hx,he,λe1=>by subst e1;exact c1 (h.un i n x d e e hx hn he zV rfl).1⟩
 have fwd:∀(i:Nat)x,t[i]? =some x->∃x',t'[i]? =some x'/\x'.ag=x.ag/\∀e,e∈x.es->e≠e0->e∈x'.es:=λi x hx=>by
  by_cases e:i=n
  .subst e;rw[hn]at hx;cases hx;exact⟨d',h1,hd.1,λe he du=>(Sw e).2 ⟨he,du⟩⟩
  .by_cases e2:i=p'
   .subst e2;rw[hp]at hx;cases hx;exact⟨q',h2,hq.1,λe he=>by rw[Oi]at he;cases he⟩
   .exact⟨x,by rw[h3 i e e2];exact hx,rfl,λ_ h _=>h⟩
 have Pp:∀i,Lk t i->i≠p'->Lk t' i:=λi hi=>by
  induction hi with
  |aj=>exact λ_=>.aj
  | @step i j x e hl hx he hj ih=>
   intro hjp;have U0:i≠p':=λe1=>by subst e1;rw[hp]at hx;cases hx;rw[Oi]at he;cases he
   obtain⟨x',a1,_,a2⟩:=fwd i x hx;exact .step (ih U0) a1 (a2 e he λe1=>hjp (by subst e1;omega)) hj
 refine⟨λi x hx hz=>?_,?_,λi x e hx he=>?_,λi i' x x' e e' hx tm he mD nI=>?_,λi x hx O7=>?_,λi x hx hz=>?_,λi x hx=>?_,λi x hx=>?_⟩
 .rcases pU i x hx with⟨rfl,rfl⟩|⟨rfl,rfl⟩|⟨_,_,hx⟩
  .exact absurd (hd.1▸hz) yv
  .exact absurd (hq.1▸hz) Kj
  .exact h.z i x hx hz
 .obtain⟨r,a1,a2,a3,a4⟩:=h.r0;by_cases e:(0:Nat)=n
  .subst e;rw[a1]at hn;cases hn;exact⟨d',h1,by rw[hd.1];exact a2,by rw[hd.2.2];exact a3,by rw[hd.2.1];exact a4⟩
  .exact⟨r,by rw[h3 0 e (λe=>yE e.symm)];exact a1,a2,a3,a4⟩
 .obtain⟨y,hy,QO,du⟩:=back i x e hx he;obtain⟨j,z,a1,a2,a3,a4,a5,a6⟩:=h.tr i y e hy QO;by_cases ej:j=n
  .subst ej;rw[hn]at a3;cases a3;exact⟨j,d',a1,a2,h1,by rw[hd.1];exact a4,by rw[hd.2.2];exact a5,by rw[hd.1,hd.2.1];exact a6⟩
  .have ejp:j≠p':=λe1=>by subst e1;exact du (h.un i n y d e e0 hy hn QO zV (a1.trans YT.symm)).2
   exact⟨j,z,a1,a2,by rw[h3 j ej ejp];exact a3,a4,a5,a6⟩
 .obtain⟨y,hy,QO,_⟩:=back i x e hx he;obtain⟨y',Um,Oj,_⟩:=back i' x' e' tm mD;exact h.un i i' y y' e e' hy Um QO Oj nI
 .rcases pU i x hx with⟨rfl,rfl⟩|⟨rfl,rfl⟩|⟨_,c2,hx⟩
  .exact Pp _ (h.lk _ d hn λe=>by rw[h.em i d hn e]at zV;cases zV) BF
  .exact absurd hq.2.1 O7
  .exact Pp _ (h.lk i x hx O7) c2
 .rcases pU i x hx with⟨rfl,rfl⟩|⟨rfl,rfl⟩|⟨_,_,hx⟩
  .rw[h.em i d hn (hd.2.2▸hz)]at zV;cases zV
  .exact hq.2.2.1
  .exact h.em i x hx hz
 .rcases pU i x hx with⟨rfl,rfl⟩|⟨rfl,rfl⟩|⟨_,_,hx⟩
  .rw[hd.2.2];exact h.lr i d hn
  .exact .inl hq.2.1
  .exact h.lr i x hx
 .have key:∀(i:Nat)(y:Sk),t[i]? =some y->i≠p'->(y.up=i\/y.up=0\/y.ag=2/\∃(u:Nat)(x:Sk)(e:NE),y.up=u/\t'[u]? =some x/\e∈x.es/\e.2=i):=λi y hy U0=>by
   rcases h.ux i y hy with a|a|⟨a0,u,z,e,a1,a2,a3,a4⟩
   .exact .inl a
   .exact .inr (.inl a)
   .obtain⟨z',b1,_,b2⟩:=fwd u z a2;exact .inr (.inr ⟨a0,u,z',e,a1,b1,b2 e a3 λe1=>U0 (by subst e1;omega),a4⟩)
  rcases pU i x hx with⟨rfl,rfl⟩|⟨rfl,rfl⟩|⟨_,c2,hx⟩
  .rw[hd.2.1,hd.1];exact key i d hn BF
  .rw[hq.2.2.2,hq.1];by_cases e2:q.ag=2
   .rw[if_pos e2];exact .inl rfl
   .rw[if_neg e2];rcases h.ux i q hp with a|a|⟨a0,_⟩
    .exact .inl a
    .exact .inr (.inl a)
    .exact absurd a0 e2
  .exact key i x hx c2
theorem Tree.sub{t t':List Sk}(h:Tree t){M:Nat->Prop}(h0:M 0)(im:∀(i:Nat)d e(j:Nat),M i->t[i]? =some d->e∈d.es->e.2=(j:Nat)->M j)(h1:∀(i:Nat)d,M i->t[i]? =some d->d.ag≠0->t'[i]? =some d)(h2:∀(i:Nat)d',t'[i]? =some d'->d'=skZ\/t[i]? =some d'/\M i):Tree t':=by
 have hM:∀i,Lk t i->M i:=λi hi=>by
  induction hi with
  |aj=>exact h0
  |step _ hd he hj ih=>exact im _ _ _ _ ih hd he hj
 have kE:∀(i:Nat)d e,t[i]? =some d->e∈d.es->d.ag≠0:=λi d e hd he hz=>by rw[h.z i d hd hz]at he;cases he
 have oE:∀(i:Nat)d e,t[i]? =some d->e∈d.es->M i:=λi d e hd he=>hM i (h.lk i d hd λhz=>by rw[h.em i d hd hz]at he;cases he)
 have Pp:∀i,Lk t i->Lk t' i:=λi hi=>hi.mono λi d hd hn=>by obtain⟨e,hx⟩:=acS _ hn;exact⟨d,h1 i d (oE i d e hd hx) hd (kE i d e hd hx),λ_ h=>h⟩
 have bk:∀(i:Nat)d e,t'[i]? =some d->e∈d.es->t[i]? =some d/\M i:=λi d e hd he=>by
  rcases h2 i d hd with rfl|h
  .cases he
  .exact h
 refine⟨λi d hd hz=>?_,?_,λi d e hd hx=>?_,λi i' d d' e e' hd yp hx tm nI=>h.un i i' d d' e e' (bk i d e hd hx).1 (bk i' d' e' yp tm).1 hx tm nI,λi d hd hn=>?_,λi d hd hn=>?_,λi d hd=>?_,λi d hd=>?_⟩
 .rcases h2 i d hd with h'|⟨h',_⟩
  .exact h'
  .exact h.z i d h' hz
 .obtain⟨d,a1,a2,a3⟩:=h.r0;exact⟨d,h1 0 d h0 a1 om,a2,a3⟩
 .obtain⟨yp,hm⟩:=bk i d e hd hx;obtain⟨j,x,a1,a2,a3,a4,a5⟩:=h.tr i d e yp hx;exact⟨j,x,a1,a2,h1 j x (im i d e j hm yp hx a1) a3 a4,a4,a5⟩
 .rcases h2 i d hd with rfl|⟨h',_⟩
  .exact absurd rfl hn
  .exact Pp i (h.lk i d h' hn)
 .rcases h2 i d hd with rfl|⟨h',_⟩
  .rfl
  .exact h.em i d h' hn
 .rcases h2 i d hd with rfl|⟨h',_⟩
  .exact .inl rfl
  .exact h.lr i d h'
 .rcases h2 i d hd with rfl|⟨h',_⟩
  .exact .inr (.inl rfl)
  .rcases h.ux i d h' with a|a|⟨a0,u,x,e,a1,a2,a3,a4⟩
   .exact .inl a
   .exact .inr (.inl a)
   .exact .inr (.inr ⟨a0,u,x,e,a1,h1 u x (oE u x e a2 a3) a2 (kE u x e a2 a3),a3,a4⟩)
theorem Tree.take{t:List Sk}(h:Tree t){n:Nat}(hn:1<=n)(hz:∀(i:Nat)d,n<=i->t[i]? =some d->d.ag=0):Tree (t.take n):=by
 have get:∀(i:Nat)d,(t.take n)[i]? =some d->t[i]? =some d:=λi d hd=>by
  rw[aaF]at hd;split at hd
  .exact hd
  .cases hd
 have put:∀(i:Nat)d,t[i]? =some d->d.ag≠0->(t.take n)[i]? =some d:=λi d hd hk=>by
  rw[aaF,if_pos (ac2 λhle=>hk (hz i d hle hd))]
  exact hd
 have kE:∀(i:Nat)d e,t[i]? =some d->e∈d.es->d.ag≠0:=λi d e hd he hz=>by rw[h.z i d hd hz]at he;cases he
 refine⟨λi d hd hz=>h.z i d (get i d hd) hz,?_,λi d e hd hx=>?_,λi i' d d' e e' hd yp hx tm nI=>h.un i i' d d' e e' (get i d hd) (get i' d' yp) hx tm nI,λi d hd hn=>?_,λi d hd hn=>h.em i d (get i d hd) hn,λi d hd=>h.lr i d (get i d hd),λi d hd=>?_⟩
 .obtain⟨d,a1,a2,a3⟩:=h.r0;exact⟨d,put 0 d a1 om,a2,a3⟩
 .obtain⟨j,x,a1,a2,a3,a4,a5⟩:=h.tr i d e (get i d hd) hx;exact⟨j,x,a1,a2,put j x a3 a4,a4,a5⟩
 .refine(h.lk i d (get i d hd) hn).mono λi d hd du=>?_
  obtain⟨e,hx⟩:=acS _ du;exact⟨d,put i d hd (kE i d e hd hx),λ_ h=>h⟩
 .rcases h.ux i d (get i d hd)with a|a|⟨a0,u,x,e,a1,a2,a3,a4⟩
  .exact .inl a
  .exact .inr (.inl a)
  .exact .inr (.inr ⟨a0,u,x,e,a1,put u x a2 (kE u x e a2 a3),a3,a4⟩)
end Kn
namespace Kn
structure Gy(l:List Obj)(o:Obj):Prop where
 eq:o.ak=(dJ o).map fX
 En:Fg (dJ o)
 cK:o.ag≠2->o.ak=[]
 to:∀e,e∈dJ o->e.1.size<=12/\∃(j:Nat)(x:Obj),e.2=j/\l[j]? =some x/\x.ag≠0
def fZ(l:List Obj)(z:Int):Prop:=∃(j:Nat)(x:Obj),z=j/\l[j]? =some x/\x.ag≠0
def fL(k:Kr)(z r:Int):Prop:=(0<=r/\r<=4095)/\∃(n:Nat)(o:bF),z=n/\k.ops[n]? =some o/\fZ k.l o.bo
structure KI(k:Kr):Prop where
 ll:k.l.length<=40
 lo:k.ops.length<=60
 lp:k.ps.length<=8
 sm:∀o,o∈k.l->o.sm
 sl:∀x,x∈k.ps->x.aU.length<=10
 ne:k.ps≠[]
 aR:∀x,x∈k.ps->x.aP=false->x.aU=[]
 cap:∀x,x∈k.ps->∀s,s∈x.aU->s.has=true->fL k s.dS s.cj
 qu:∀o,o∈k.l->∀q,q∈o.aq->q.has=true->fL k q.dS q.cj
 pr:∀o,o∈k.l->o.ag=5->∃n:Nat,o.bb=n/\n<k.ps.length
 en:∀o,o∈k.l->Gy k.l o
 z:∀o,o∈k.l->o.ag=0->o=gV
 pe:∀(i:Nat)o,k.l[i]? =some o->o.ag=4->o.bq= -1\/∃(j:Nat)(x:Obj),o.bq=j/\k.l[j]? =some x/\x.ag=4/\x.bq=i
 di:∀o,o∈k.ops->0<=o.di/\o.di<=64
 QP:∀o,o∈k.l->o.data.length<=60
 sM:Tree (k.l.map vo)
theorem KI.kr{k:Kr}(h:KI k):dI k.l k.ops k.ps:=⟨h.sm,by have:=h.ll;omega,by have:=h.lo;omega,by have:=h.lp;omega,h.sl,h.ne⟩
theorem gx{l:List Obj}{i:Nat}{o:Obj}(h:l[i]? =some o):(l.map vo)[i]? =some (vo o):=by rw[Sf,h];rfl
theorem pg{l:List Obj}{i:Nat}{d:Sk}(h:(l.map vo)[i]? =some d):∃o,l[i]? =some o/\d=vo o:=by
 rw[Sf]at h;cases ho:l[i]? with
 |none=>rw[ho]at h;cases h
 |some o=>rw[ho]at h;cases h;exact⟨o,rfl,rfl⟩
theorem KI.up{k:Kr}(h:KI k){o:Obj}(ho:o∈k.l):0<=o.up/\o.up<k.l.length:=by obtain⟨i,hi⟩:=X1 ho;have:=h.sM.XO (gx hi);rwa [Nr]at this
theorem KI.aj{k:Kr}(h:KI k):∃o,k.l[0]? =some o/\o.ag=2:=by obtain⟨d,h1,h2,_⟩:=h.sM.r0;obtain⟨o,h3,rfl⟩:=pg h1;exact⟨o,h3,h2⟩
theorem KI.pos{k:Kr}(h:KI k):0<k.l.length:=by obtain⟨o,h1,_⟩:=h.aj;exact(JJ.1 h1).1
theorem Gy.len{l:List Obj}{o:Obj}(h:Gy l o):(dJ o).length=o.ak.length:=by have:=congrArg List.length h.eq;rw[Nr]at this;exact this.symm
theorem KI.En{k:Kr}(h:KI k):xw k.l:=by
 refine⟨⟨by have:=h.ll;omega,λo ho=>(h.sm o ho).oi⟩,λo ho=>?_⟩
 have he:=h.en o ho;refine⟨dJ o,he.eq,he.En,by rw[he.len];have:=(h.sm o ho).e;omega,λe hx=>?_⟩
 obtain⟨_,j,x,h1,h2,_⟩:=he.to e hx;have:=(JJ.1 h2).1;omega
theorem KI.lk{k:Kr}(h:KI k):nN (k.l.map Obj.ob):=by
 refine⟨by rw[Nr];have:=h.ll;omega,by rw[Nr];exact h.pos,λo ho=>?_,λo ho=>?_,λo ho=>?_⟩
 .obtain⟨x,hx,rfl⟩:=aas.1 ho;have he:=h.en x hx;refine⟨dJ x,he.eq,he.En,λe ZN=>?_,λhk=>?_⟩
  .obtain⟨_,j,y,h1,h2,_⟩:=he.to e ZN;have:=(JJ.1 h2).1;rw[Nr];omega
  .have:=he.cK hk;show x.ak.map nZ=[];rw[this];rfl
 .obtain⟨x,hx,rfl⟩:=aas.1 ho;have:=(h.sm x hx).e;show x.ak.length<=64;omega
 .obtain⟨x,hx,rfl⟩:=aas.1 ho;have:=h.up hx;rw[Nr];exact this
def zW(x o:Obj):Prop:=x=o\/x={o with bq:= -1}
theorem zW.all{x o:Obj}(h:zW x o):x.ag=o.ag/\x.data=o.data/\x.ak=o.ak/\x.target=o.target/\x.aq=o.aq/\x.bb=o.bb/\x.am=o.am/\x.up=o.up:=by
 rcases h with rfl|rfl<;>exact⟨rfl,rfl,rfl,rfl,rfl,rfl,rfl,rfl⟩
theorem zW.sk{x o:Obj}(h:zW x o):vo x=vo o:=by obtain⟨h1,_,h2,_,_,_,h3,h4⟩:=h.all;unfold vo dJ;rw[h1,h2,h3,h4]
theorem kL{l:List Obj}(hz:∀o,o∈l->o.ag=0->o=gV)(b:Mk){i:Nat}{o:Obj}(ho:l[i]? =some o):
  (cC b l l.length i o=gV/\(o.ag=0\/¬dp b.O i))\/(dp b.O i/\o.ag≠0/\((cC b l l.length i o=o/\(o.ag=4->∀(j:Nat)x,o.bq=j->l[j]? =some x->x.ag≠0->dp b.O j))\/
   (cC b l l.length i o={o with bq:= -1}/\o.ag=4/\∃(j:Nat)(x:Obj),o.bq=j/\l[j]? =some x/\¬dp b.O j))):=by
 have hi:=(JJ.1 ho).1;have M0:∀j,(b.O[j]? ==some true)=true↔dp b.O j:=λj=>by unfold dp;simp
 have je:∀(j:Nat)x,l[j]? =some x->(eR b l j=true↔¬dp b.O j/\x.ag≠0):=λj x hx=>by unfold eR;rw[hx];simp only[aac,ab2,bne_iff_ne,ne_eq];rw[<-M0 j];simp
 unfold cC;by_cases h1:(eR b l i&&decide (i<l.length))=true
 .rw[if_pos h1];rw[aac]at h1;exact .inl ⟨rfl,.inr ((je i o ho).1 h1.1).1⟩
 .rw[if_neg h1];have lH:¬eR b l i=true:=λh=>h1 (by rw[h];simpa using hi)
  by_cases hk:o.ag=0
  .have:=hz o (Sj ho) hk;subst this;exact .inl ⟨rfl,.inl rfl⟩
  .have hM:dp b.O i:=aaa λhn=>lH ((je i o ho).2 ⟨hn,hk⟩)
   refine .inr ⟨hM,hk,?_⟩;by_cases h2:(o.ag==4&&l7 b l l.length o.bq)=true
   .rw[if_pos h2];rw[aac]at h2;refine .inr ⟨rfl,by simpa using h2.1,?_⟩
    have h3:=h2.2;unfold l7 at h3;rw[aac,decide_eq_true_eq]at h3;obtain⟨⟨h4,h5⟩,h6⟩:=h3;refine⟨o.bq.toNat,l[o.bq.toNat],om,vl h5,((je _ _ (vl h5)).1 h6).1⟩
   .rw[if_neg h2];refine .inl ⟨rfl,λh4 j x hp hx hxk=>?_⟩
    refine aaa λhn=>h2 ?_
    have hj:=(JJ.1 hx).1;rw[h4,aac];refine⟨rfl,?_⟩;unfold l7;rw[hp,aae,(je j x hx).2 ⟨hn,hxk⟩,Bool.and_true,decide_eq_true_eq];omega
theorem Kk(L:List Obj)(k t:Nat)(x:bm):yg L k t x=gk\/yg L k t x=x:=by
 unfold yg;split
 .exact .inl rfl
 .exact .inr rfl
theorem QQ:gV.data.length<=60:=by simp[gV]
theorem KI.Jt{k c:Kr}{en:Bool}(h:KI k)(ho:cV k.l k.ops k.ps c.l c.ops c.ps en):KI c:=by
 obtain⟨b,hb,hL,hP⟩:=ho.ex;have hR:=ho.pr;have pU:∀(i:Nat)x,c.l[i]? =some x->x=gV\/∃o,k.l[i]? =some o/\dp b.O i/\o.ag≠0/\zW x o:=λi x hx=>by
  obtain⟨o,h1,h2⟩:=hL.get hx;rcases kL h.z b h1 with⟨h3,_⟩|⟨h3,h4,h5⟩
  .exact .inl (h2.trans h3)
  .refine .inr ⟨o,h1,h3,h4,?_⟩;rcases h5 with⟨h5,_⟩|⟨h5,_⟩
   .exact .inl (h2.trans h5)
   .exact .inr (h2.trans h5)
 have eN:∀(i:Nat)o,k.l[i]? =some o->dp b.O i->o.ag≠0->∃x,c.l[i]? =some x/\zW x o:=λi o h1 hM hk=>by
  refine⟨_,hL.2 i o h1,?_⟩;rcases kL h.z b h1 with⟨_,h4|h4⟩|⟨_,_,⟨h5,_⟩|⟨h5,_⟩⟩
  .exact absurd h4 hk
  .exact absurd hM h4
  .exact .inl h5
  .exact .inr h5
 have BG:∀z,fZ k.l z->(∀n:Nat,vO k.l z n->dp b.O n)->fZ c.l z:=λz⟨j,x,h1,h2,h3⟩hm=>by
  obtain⟨y,h4,h5⟩:=eN j x h2 (hm j ⟨h1,x,h2,h3⟩) h3;exact⟨j,y,h1,h4,by rw[h5.all.1];exact h3⟩
 have eD:∀z r,fL k z r->(∀n:Nat,vP k.ops z n->dp b.P n)->fL c z r:=λz r⟨hr,n,o,h1,h2,h3⟩hm=>by
  have hn:=(JJ.1 h2).1;have hM:=hm n ⟨h1,hn⟩;refine⟨hr,n,o,h1,?_,BG _ h3 λj hv=>hb.cl.p n o hM h2 j hv⟩
  rw[hP.2 n o h2,B3,if_neg];have:(b.P[n]? ==some true)=true:=by unfold dp at hM;rw[hM];rfl
  rw[this];simp
 have hlen:c.l.length=k.l.length:=hL.1;have mem:∀x,x∈c.l->∃i:Nat,c.l[i]? =some x:=λx hx=>X1 hx
 have Ok:∀x,x∈c.ps->x=gk\/x∈k.ps:=λx hx=>by
  obtain⟨t,ht⟩:=X1 hx;obtain⟨o,h1,h2⟩:=hR.get ht;rcases Kk c.l k.ps.length t o with h3|h3
  .exact .inl (h2.trans h3)
  .exact .inr (by rw[h2,h3];exact Sj h1)
 refine⟨by rw[hlen];exact h.ll,by rw[hP.1];exact h.lo,by rw[hR.1];exact h.lp,(ho.kr h.kr).sm,(ho.kr h.kr).sl,(ho.kr h.kr).ne,λx hx hl=>?_,λx hx s hs hh=>?_,λo e8 q hq hh=>?_,λo e8 h5=>?_,λo e8=>?_,λo e8 hk=>?_,λi o hi h4=>?_,λo e8=>?_,λo e8=>?_,?_⟩
 .rcases Ok x hx with rfl|hx
  .rfl
  .exact h.aR x hx hl
 .rcases Ok x hx with rfl|tm
  .cases hs
  .cases hl:x.aP with
   |false=>rw[h.aR x tm hl]at hs;cases hs
   |true=>
    obtain⟨p,hp⟩:=X1 tm;exact eD _ _ (h.cap x tm s hs hh) λn hv=>hb.m7.2 p x hp hl s hs hh n hv
 .obtain⟨i,hi⟩:=mem o e8;rcases pU i o hi with rfl|⟨y,h1,hM,hk,hs⟩
  .cases hq
  .rw[hs.all.2.2.2.2.1]at hq;exact eD _ _ (h.qu y (Sj h1) q hq hh) λn hv=>hb.cl.q i y hM h1 q.dS n ⟨q,hq,hh,rfl⟩ hv
 .obtain⟨i,hi⟩:=mem o e8;rcases pU i o hi with rfl|⟨y,h1,hM,hk,hs⟩
  .cases h5
  .rw[hs.all.1]at h5;rw[hs.all.2.2.2.2.2.1,hR.1];exact h.pr y (Sj h1) h5
 .obtain⟨i,hi⟩:=mem o e8;rcases pU i o hi with rfl|⟨y,h1,hM,hk,hs⟩
  .exact⟨rfl,List.Pairwise.nil,λ_=>rfl,λe he=>by cases he⟩
  .have he:=h.en y (Sj h1);have nI:dJ o=dJ y:=by unfold dJ;rw[hs.all.2.2.1]
   refine⟨by rw[hs.all.2.2.1,nI];exact he.eq,by rw[nI];exact he.En,λhn=>by rw[hs.all.2.2.1];exact he.cK (by rw[<-hs.all.1];exact hn),λe hx=>?_⟩
   rw[nI]at hx;obtain⟨h2,j,x,h3,h4,h5⟩:=he.to e hx;have u9:sE y e.2:=⟨e.1,by rw[he.eq];exact aas.2 ⟨e,hx,rfl⟩⟩
   obtain⟨x',h6,h7⟩:=eN j x h4 (hb.cl.e i y hM h1 e.2 j u9 ⟨h3,x,h4,h5⟩) h5;exact⟨h2,j,x',h3,h6,by rw[h7.all.1];exact h5⟩
 .obtain⟨i,hi⟩:=mem o e8;rcases pU i o hi with rfl|⟨y,h1,hM,oL,hs⟩
  .rfl
  .exact absurd (hs.all.1▸hk) oL
 .obtain⟨y,h1,h2⟩:=hL.get hi;rcases kL h.z b h1 with⟨h3,_⟩|⟨hM,hk,h5⟩
  .rw[h2,h3]at h4;cases h4
  .rcases h5 with⟨h5,h6⟩|⟨h5,_⟩
   .rw[h2,h5]at h4|-;rcases h.pe i y h1 h4 with h7|⟨j,x,h7,h8,h9,Ua⟩
    .exact .inl h7
    .refine .inr ⟨j,cC b k.l k.l.length j x,h7,hL.2 j x h8,?_⟩;have U1:=h6 h4 j x h7 h8 om;rcases kL h.z b h8 with⟨_,Le|Le⟩|⟨_,_,⟨Le,_⟩|⟨_,_,j',x',G7,Eo,N2⟩⟩
     .omega
     .exact absurd U1 Le
     .rw[Le];exact⟨h9,Ua⟩
     .have:j'=i:=om;subst this;exact absurd hM N2
   .rw[h2,h5];exact .inl rfl
 .obtain⟨t,ht⟩:=X1 e8;obtain⟨x,h1,h2⟩:=hP.get ht;rw[h2,B3];split
  .exact⟨acN _,by show(0:Int)<=64;omega⟩
  .exact h.di x (Sj h1)
 .obtain⟨i,hi⟩:=mem o e8;rcases pU i o hi with rfl|⟨y,h1,hM,hk,hs⟩
  .exact QQ
  .rw[hs.all.2.1];exact h.QP y (Sj h1)
 .obtain⟨r,rS,qV⟩:=h.aj;refine h.sM.sub (M:=dp b.O) (hb.m7.1 0 ⟨rfl,r,rS,om⟩) (λi d e j hM hd he hj=>?_) (λi d hM hd hk=>?_) (λi d' yp=>?_)
  .obtain⟨o,h1,rfl⟩:=pg hd;have p7:=h.en o (Sj h1);obtain⟨_,j',x,h3,h4,h5⟩:=p7.to e he;have:j'=j:=om;subst this;exact hb.cl.e i o hM h1 e.2 j' ⟨e.1,by rw[p7.eq];exact aas.2 ⟨e,he,rfl⟩⟩ ⟨h3,x,h4,h5⟩
  .obtain⟨o,h1,rfl⟩:=pg hd;obtain⟨x,h2,h3⟩:=eN i o h1 hM hk;rw[<-h3.sk];exact gx h2
  .obtain⟨x,h1,rfl⟩:=pg yp;rcases pU i x h1 with rfl|⟨y,h2,hM,hk,hs⟩
   .exact .inl rfl
   .exact .inr ⟨by rw[hs.sk];exact gx h2,hM⟩
theorem Ol{α:Type}{l:List α}{n i:Nat}{x:α}(h:(l.take n)[i]? =some x):l[i]? =some x/\i<n:=by
 rw[aaF]at h;split at h
 .exact⟨h,by assumption⟩
 .cases h
theorem DP{α:Type}{l:List α}{n i:Nat}{x:α}(h:l[i]? =some x)(hi:i<n):(l.take n)[i]? =some x:=by rw[aaF,if_pos hi];exact h
theorem Kl(O:List Obj)(k t:Nat)(x:bm):tc O k t x=gk\/tc O k t x=x:=by
 unfold tc;split
 .exact .inl rfl
 .exact .inr rfl
theorem KI.ib{c d:Kr}(h:KI c)(hf:gG c d):KI d:=by
 obtain⟨n1,n2,n3,P,h1,h2,h3,h4,rfl⟩:=hf.ex;have eN:∀(i:Nat)o,c.l[i]? =some o->o.ag≠0->(c.l.take n1)[i]? =some o:=λi o ho hk=>DP ho (ac2 λhle=>hk (by simpa[qO]using h1.t.dr i o hle ho))
 have BG:∀z,fZ c.l z->fZ (c.l.take n1) z:=λz⟨j,x,a1,a2,a3⟩=>⟨j,x,a1,eN j x a2 a3,a3⟩
 have eD:∀z r,fL c z r->fL ⟨c.l.take n1,c.ops.take n2,P.take n3⟩ z r:=λz r⟨hr,n,o,a1,a2,a3⟩=>by
  refine⟨hr,n,o,a1,DP a2 (ac2 λhle=>?_),BG _ a3⟩
  have hq:=h2.t.dr n o hle a2;obtain⟨j,_,e,_⟩:=a3;simp only[qP,decide_eq_true_eq]at hq;omega
 have cH:=h.pos;have qE:1<=n1:=by have:=h1.t.mn;omega
 have YC:P.length=c.ps.length:=h3.1;have pQ:0<c.ps.length:=ade.2 h.ne;have Xm:1<=n3:=by have:=h4.t.mn;omega
 have afK:=h4.t.le;have Ok:∀x,x∈P.take n3->x=gk\/x∈c.ps:=λx hx=>by
  obtain⟨t,ht⟩:=X1 (aaY hx);obtain⟨o,a1,a2⟩:=h3.get ht;rcases Kl (c.l.take n1) c.ps.length t o with a3|a3
  .exact .inl (a2.trans a3)
  .exact .inr (by rw[a2,a3];exact Sj a1)
 have kr:=hf.kr h.kr;refine⟨?_,?_,?_,kr.sm,kr.sl,kr.ne,λx hx hl=>?_,λx hx s hs hh=>?_,λo ho q hq hh=>eD _ _ (h.qu o (aaY ho) q hq hh),λo ho h5=>?_,λo ho=>?_,λo ho hk=>h.z o (aaY ho) hk,λi o hi hk=>?_,λo ho=>h.di o (aaY ho),λo ho=>h.QP o (aaY ho),?_⟩
 .show(c.l.take n1).length<=40;rw[aav];have:=h.ll;omega
 .show(c.ops.take n2).length<=60;rw[aav];have:=h.lo;omega
 .show(P.take n3).length<=8;rw[aav];have:=h.lp;omega
 .rcases Ok x hx with rfl|hx
  .rfl
  .exact h.aR x hx hl
 .rcases Ok x hx with rfl|hx
  .cases hs
  .exact eD _ _ (h.cap x hx s hs hh)
 .obtain⟨n,a1,a2⟩:=h.pr o (aaY ho) h5;refine⟨n,a1,?_⟩;show n<(P.take n3).length;rw[aav];refine Nat.lt_min.2 ⟨ac2 λhle=>?_,om⟩
  have hq:=h4.t.dr n P[n] hle (vl om);simp only[qR,aac,ab2]at hq;have:(c.l.take n1).any (dF (n:Int))=true:=aaT.2 ⟨o,ho,by simp[dF,h5,a1]⟩
  rw[this]at hq;cases hq.2
 .have he:=h.en o (aaY ho);refine⟨he.eq,he.En,he.cK,λe hx=>?_⟩
  obtain⟨a0,j,x,a1,a2,a3⟩:=he.to e hx;exact⟨a0,j,x,a1,eN j x a2 a3,a3⟩
 .obtain⟨a1,a2⟩:=Ol hi;rcases h.pe i o a1 hk with a3|⟨j,x,a3,a4,a5,a6⟩
  .exact .inl a3
  .exact .inr ⟨j,x,a3,eN j x a4 om,a5,a6⟩
 .show Tree ((c.l.take n1).map vo);rw[acx];refine h.sM.take qE λi d hle hd=>?_
  obtain⟨o,a1,rfl⟩:=pg hd;have:=h1.t.dr i o hle a1;show o.ag=0;simpa[qO]using this
theorem KI.to{k a:Kr}(h:KI k)(h1:iF k a):KI a:=by
 induction h1 with
 |refl=>exact h
 |step _ ho ih=>exact ih.Jt ho
theorem KI.Sx{k:Kr}(h:KI k):KI (gM k):=by obtain⟨a,c,h1,h2,h3⟩:=(ir h.kr).ex;exact((h.to h1).Jt h2).ib h3
end Kn
namespace Kn
theorem vG{l:List Ob}{ar:Nat}{ay follow:Bool}{rec:Nat->List bK.dL->Nat->R4}{A:Nat->Prop}{Q:R4->Prop}(h0:∀e,e≠0->Q (R4.no e))(h1:∀a,A a->Q ⟨a,Bj l a,[],0⟩)(h2:∀a w,A a->(lI l a).ag=2->my l a w<0->Q ⟨-1,a,w,0⟩)(h3:∀a w,A a->(lI l a).ag=2->¬my l a w<0->Q ⟨my l a w,a,w,0⟩)(KY:∀a,A a->(lI l a).ag=2->¬(ay=true/\a=ar)->A (Bj l a))(QR:∀a w,A a->(lI l a).ag=2->¬my l a w<0->A (my l a w).toNat)(AI:∀a rest k,A a->Q (rec a rest k)):∀(parts:List bK.dL)(a:Nat),A a->Q (HU l ar ay follow rec parts a)
 | [],a,ha=>h1 a ha
 |w::rest,a,ha=>by
  rw[HU];split
  .exact h0 11 (by decide)
  .rename_i hk;have hk:(lI l a).ag=2:=by simpa using hk
   split
   .split
    .exact h0 14 (by decide)
    .rename_i hf;exact vG h0 h1 h2 h3 KY QR AI rest _ (KY a ha hk hf)
   .split
    .rename_i hn;split
     .exact h0 6 (by decide)
     .exact h2 a w ha hk hn
    .rename_i hn;split
     .exact AI a rest _ ha
     .split
      .exact h3 a w ha hk hn
      .exact vG h0 h1 h2 h3 KY QR AI rest _ (QR a w ha hk hn)
theorem H7{l:List Ob}{ar:Nat}{ay follow:Bool}{A:Nat->Prop}{Q:R4->Prop}(h0:∀e,e≠0->Q (R4.no e))(h1:∀a,A a->Q ⟨a,Bj l a,[],0⟩)(h2:∀a w,A a->(lI l a).ag=2->my l a w<0->Q ⟨-1,a,w,0⟩)(h3:∀a w,A a->(lI l a).ag=2->¬my l a w<0->Q ⟨my l a w,a,w,0⟩)(KY:∀a,A a->(lI l a).ag=2->¬(ay=true/\a=ar)->A (Bj l a))(QR:∀a w,A a->(lI l a).ag=2->¬my l a w<0->A (my l a w).toNat)(hr:ay=false->A 0):
  ∀(n:Nat)(parts:List bK.dL)(a:Nat),A a->Q (B5 l ar ay follow n parts a)
 |0,parts,a,ha=>vG h0 h1 h2 h3 KY QR (λ_ _ _ _=>h0 13 (by decide)) parts a ha
 |n+1,parts,a,ha=>by
  refine vG h0 h1 h2 h3 KY QR (λa rest k ha=>?_) parts a ha
  rw[Qp];split
  .rename_i h;exact h0 _ h
  .split
   .exact h0 14 (by decide)
   .rename_i hf;refine H7 h0 h1 h2 h3 KY QR hr n _ _ ?_;split
    .rename_i dE;exact hr (by cases ay with|false=>rfl|true=>exact absurd ⟨dE,rfl⟩ hf)
    .exact ha
theorem Km{l:List Ob}{ar:Int}{s:bK.dL}{ay follow:Bool}{A:Nat->Prop}{Q:R4->Prop}(h0:∀e,e≠0->Q (R4.no e))(h1:∀a,A a->Q ⟨a,Bj l a,[],0⟩)(h2:∀a w,A a->(lI l a).ag=2->my l a w<0->Q ⟨-1,a,w,0⟩)(h3:∀a w,A a->(lI l a).ag=2->¬my l a w<0->Q ⟨my l a w,a,w,0⟩)(KY:∀a,A a->(lI l a).ag=2->¬(ay=true/\a=ar.toNat)->A (Bj l a))(QR:∀a w,A a->(lI l a).ag=2->¬my l a w<0->A (my l a w).toNat)(hr:ay=false->A 0)(hb:∀n:Nat,ar=n->n<l.length->(lI l n).ag=2->A n):Q (p9 l ar s ay follow):=by
 rw[p9];split
 .rename_i hi;obtain⟨n,rfl,hn⟩:=MQ hi;split
  .exact h0 11 (by decide)
  .rename_i hk;have hk:(lI l n).ag=2:=by simpa using hk
   split
   .rename_i h;exact h0 _ h
   .split
    .exact h0 14 (by decide)
    .rename_i hf;refine H7 h0 h1 h2 h3 KY QR hr 6 _ _ ?_;split
     .rename_i dE;exact hr (by cases ay with|false=>rfl|true=>exact absurd ⟨dE,rfl⟩ hf)
     .exact hb n rfl hn hk
 .exact h0 6 (by decide)
theorem Om{l:List Obj}{n:Nat}{o:Obj}(h:l[n]? =some o):lI (l.map Obj.ob) n=o.ob:=by rw[lI,Sf,h];rfl
theorem XQ{l:List Obj}{n:Nat}(h:(lI (l.map Obj.ob) n).ag≠0):∃o,l[n]? =some o/\lI (l.map Obj.ob) n=o.ob:=by
 cases ho:l[n]? with
 |none=>exfalso;apply h;rw[lI,Sf,ho];rfl
 |some o=>exact⟨o,rfl,Om ho⟩
theorem Un{l:List Obj}{n:Nat}{o:Obj}(h:l[n]? =some o):Bj (l.map Obj.ob) n=o.up.toNat:=by rw[Bj,Om h];rfl
theorem Uo{l:List Obj}{n:Nat}{o:Obj}(h:l[n]? =some o)(w:bK.dL):my (l.map Obj.ob) n w=fH (dJ o) (bK.cF w):=by rw[my,Om h];rfl
theorem QS{l:List Obj}{n:Nat}{o:Obj}(h:l[n]? =some o){w:bK.dL}(hf:¬my (l.map Obj.ob) n w<0):∃e,e∈dJ o/\e.1.toList=(bK.cF w).toList/\my (l.map Obj.ob) n w=e.2:=by
 rw[Uo h]at hf|-;rcases iM (dJ o) (bK.cF w)with⟨e,h1,h2,h3⟩|⟨h3,_⟩
 .exact⟨e,h1,h2,h3⟩
 .omega
def DQ(l:List Obj)(a:Nat):Prop:=∃o,l[a]? =some o/\o.ag≠0
theorem KI.On{k:Kr}(h:KI k){a:Nat}(ha:DQ k.l a):DQ k.l (Bj (k.l.map Obj.ob) a):=by
 obtain⟨o,h1,h2⟩:=ha;rw[Un h1];rcases h.sM.ux a (vo o) (gx h1)with h3|h3|⟨_,u,x,e,h3,h4,h5,_⟩
 .have h3:o.up=a:=h3;rw[h3];exact⟨o,h1,h2⟩
 .have h3:o.up=0:=h3;rw[h3];obtain⟨r,h4,h5⟩:=h.aj;exact⟨r,h4,om⟩
 .have h3:o.up=u:=h3;rw[h3];obtain⟨y,h6,rfl⟩:=pg h4;refine⟨y,h6,λhz=>?_⟩
  have:=h.z y (Sj h6) hz;subst this;cases h5
theorem KI.zX{k:Kr}(h:KI k){a:Nat}{w:bK.dL}(ha:DQ k.l a)(hf:¬my (k.l.map Obj.ob) a w<0):DQ k.l (my (k.l.map Obj.ob) a w).toNat/\0<=my (k.l.map Obj.ob) a w:=by obtain⟨o,h1,_⟩:=ha;obtain⟨e,h3,_,h4⟩:=QS h1 hf;obtain⟨_,j,x,h5,h6,h7⟩:=(h.en o (Sj h1)).to e h3;rw[h4,h5];exact⟨⟨x,h6,h7⟩,om⟩
theorem KI.QT{k:Kr}(h:KI k)(ar:Int)(s:bK.dL)(ay follow:Bool):(iS k ar s ay follow).fC=0->(iS k ar s ay follow).bo= -1\/fZ k.l (iS k ar s ay follow).bo:=by
 refine Km (A:=DQ k.l) (Q:=λr=>r.fC=0->r.bo= -1\/fZ k.l r.bo) (λe he h0=>absurd h0 he) (λa⟨o,h1,h2⟩ _=>.inr ⟨a,o,rfl,h1,h2⟩) (λ_ _ _ _ _ _=>.inl rfl) (λa w ha _ hf _=>?_)
  (λa ha _ _=>h.On ha) (λa w ha _ hf=>(h.zX ha hf).1) (λ_=>?_) (λn _ hn hk=>?_)
 .obtain⟨⟨o,h1,h2⟩,h3⟩:=h.zX ha hf;exact .inr ⟨_,o,by show my _ _ _=_;omega,h1,h2⟩
 .obtain⟨r,h4,h5⟩:=h.aj;exact⟨r,h4,om⟩
 .obtain⟨o,h1,h2⟩:=XQ (l:=k.l) (n:=n) (by rw[hk];decide)
  rw[h2]at hk;have hk:o.ag=2:=hk;exact⟨o,h1,om⟩
theorem fL.at{k:Kr}{z r:Int}(h:fL k z r):∃n j:Nat,z=n/\n<k.ops.length/\fJ k.ops n=j/\j<k.l.length:=by obtain⟨_,n,o,h1,h2,j,x,h3,h4,_⟩:=h;refine⟨n,j,h1,(JJ.1 h2).1,?_,(JJ.1 h4).1⟩;rw[fJ,aae,h2];exact h3
theorem KI.eD{k:Kr}(h:KI k){p:Nat}{s:ft}(hs:s∈aA k.ps p)(hh:s.has=true):fL k s.dS s.cj:=by
 unfold aA at hs;cases hp:k.ps[p]? with
 |none=>rw[hp]at hs;cases hs
 |some x=>rw[hp]at hs;exact h.cap x (Sj hp) s hs hh
theorem KI.kw{k:Kr}(h:KI k){p:Nat}(hp:p<k.ps.length):KW k p:=
 ⟨h.kr,h.ll,h.En,h.lk,λo ho e he=>((h.en o ho).to e he).1,hp,λs hs hh=>(h.eD hs hh).at⟩
end Kn
namespace Kn
theorem Gy.mono{l l':List Obj}{o:Obj}(h:Gy l o)(hm:∀(j:Nat)x,l[j]? =some x->x.ag≠0->∃y,l'[j]? =some y/\y.ag≠0):Gy l' o:=
 ⟨h.eq,h.En,h.cK,λe he=>by obtain⟨h1,j,x,h2,h3,h4⟩:=h.to e he;obtain⟨y,h5,h6⟩:=hm j x h3 h4;exact⟨h1,j,y,h2,h5,h6⟩⟩
structure Up(k:Kr)(l':List Obj)(x:Obj):Prop where
 sm:x.sm
 d:x.data.length<=60
 q:∀q,q∈x.aq->q.has=true->fL k q.dS q.cj
 p:x.ag=5->∃n:Nat,x.bb=n/\n<k.ps.length
 e:Gy l' x
 z:x.ag=0->x=gV
theorem KI.bo{k:Kr}(h:KI k){l':List Obj}(hm:∀(j:Nat)x,k.l[j]? =some x->x.ag≠0->∃y,l'[j]? =some y/\y.ag≠0){x:Obj}(hx:x∈k.l):Up k l' x:=
 ⟨h.sm x hx,h.QP x hx,h.qu x hx,h.pr x hx,(h.en x hx).mono hm,h.z x hx⟩
theorem fL.mono{k k':Kr}{z r:Int}(h:fL k z r)(ho:∀(n:Nat)o,k.ops[n]? =some o->fZ k.l o.bo->∃o',k'.ops[n]? =some o'/\fZ k'.l o'.bo):fL k' z r:=by obtain⟨h0,n,o,h1,h2,h3⟩:=h;obtain⟨o',h4,h5⟩:=ho n o h2 h3;exact⟨h0,n,o',h1,h4,h5⟩
theorem fZ.mono{l l':List Obj}{z:Int}(h:fZ l z)(hm:∀(j:Nat)x,l[j]? =some x->x.ag≠0->∃y,l'[j]? =some y/\y.ag≠0):fZ l' z:=by obtain⟨j,x,h1,h2,h3⟩:=h;obtain⟨y,h4,h5⟩:=hm j x h2 h3;exact⟨j,y,h1,h4,h5⟩
theorem KI.BG{k:Kr}(h:KI k){l':List Obj}(XI:l'.length<=40)(hm:∀(j:Nat)x,k.l[j]? =some x->x.ag≠0->∃y,l'[j]? =some y/\y.ag≠0)(hx:∀x,x∈l'->Up k l' x)(yn:∀(i:Nat)o,l'[i]? =some o->o.ag=4->o.bq= -1\/∃(j:Nat)(x:Obj),o.bq=j/\l'[j]? =some x/\x.ag=4/\x.bq=i)(ht:Tree (l'.map vo)):KI ⟨l',k.ops,k.ps⟩:=by
 have eD:∀z r,fL k z r->fL ⟨l',k.ops,k.ps⟩ z r:=λz r hc=>hc.mono λn o ho hi=>⟨o,ho,hi.mono hm⟩
 exact⟨XI,h.lo,h.lp,λo ho=>(hx o ho).sm,h.sl,h.ne,h.aR,λx hx s hs hh=>eD _ _ (h.cap x hx s hs hh),λo ho q hq hh=>eD _ _ ((hx o ho).q q hq hh),λo ho=>(hx o ho).p,λo ho=>(hx o ho).e,λo ho=>(hx o ho).z,yn,h.di,λo ho=>(hx o ho).d,ht⟩
theorem KI.J7{k:Kr}(h:KI k){n:Nat}{o o':Obj}(ho:k.l[n]? =some o)(hs:o'.ag=o.ag/\o'.ak=o.ak/\o'.up=o.up/\o'.am=o.am/\o'.bq=o.bq/\o'.bb=o.bb)(hk:o.ag≠0)(EI:o'.sm)(hd:o'.data.length<=60)(hq:∀q,q∈o'.aq->q.has=true->fL k q.dS q.cj):KI ⟨k.l.set n o',k.ops,k.ps⟩:=by
 obtain⟨s1,s2,s3,s4,s5,s6⟩:=hs;have hn:=(JJ.1 ho).1;have get:∀i:Nat,(k.l.set n o')[i]? =if i=n then some o' else k.l[i]? :=λi=>by
  by_cases e:i=n
  .subst e;rw[if_pos rfl,SC hn]
  .rw[if_neg e,Xg (λx=>e x.symm)]
 have hm:∀(j:Nat)x,k.l[j]? =some x->x.ag≠0->∃y,(k.l.set n o')[j]? =some y/\y.ag≠0:=λj x hx hxk=>by
  rw[get];by_cases e:j=n
  .rw[if_pos e];exact⟨o',rfl,by rw[s1];exact hk⟩
  .rw[if_neg e];exact⟨x,hx,hxk⟩
 have Ko:=Sj ho;refine h.BG (by rw[aay];exact h.ll) hm (λx hx=>?_) (λi x hx h4=>?_) ?_
 .rcases aaC hx with hx|rfl
  .exact h.bo hm hx
  .have he:=(h.en o Ko).mono hm;have nI:dJ x=dJ o:=by unfold dJ;rw[s2]
   exact⟨EI,hd,hq,λh5=>by rw[s6];exact h.pr o Ko (s1▸h5),⟨by rw[nI,s2];exact he.eq,by rw[nI];exact he.En,λhn=>by rw[s2];exact he.cK (s1▸hn),λe hx=>he.to e (nI▸hx)⟩,λhz=>absurd (s1▸hz) hk⟩
 .have key:∀y:Obj,k.l[i]? =some y->y.ag=4->y.bq= -1\/∃(j:Nat)(x:Obj),y.bq=j/\(k.l.set n o')[j]? =some x/\x.ag=4/\x.bq=i:=λy hy Oo=>by
   rcases h.pe i y hy Oo with h1|⟨j,z,h1,h2,h3,h4⟩
   .exact .inl h1
   .right;by_cases e:j=n
    .subst e;rw[ho]at h2;cases h2;exact⟨j,o',h1,by rw[get,if_pos rfl],by rw[s1];exact h3,by rw[s5];exact h4⟩
    .exact⟨j,z,h1,by rw[get,if_neg e];exact h2,h3,h4⟩
  rw[get]at hx;by_cases e:i=n
  .rw[if_pos e]at hx;cases hx;rw[s5];exact key o (e▸ho) (s1▸h4)
  .rw[if_neg e]at hx;exact key x hx h4
 .have:(k.l.set n o').map vo=k.l.map vo:=by
   apply abN;intro i;rw[Sf,Sf,get];by_cases e:i=n
   .subst e;rw[if_pos rfl,ho];show some _=some _;unfold vo dJ;rw[s1,s2,s3,s4]
   .rw[if_neg e]
  rw[this];exact h.sM
theorem fQ{l:List Obj}{o:Obj}(h:(aG l o).2.2=0)(hl:l.length<=40):∃j:Nat,(aG l o).2.1=j/\(aG l o).1[j]? =some o/\(∀i,i≠j->(aG l o).1[i]? =l[i]?)/\(∀d,l[j]? =some d->d.ag=0)/\(aG l o).1.length<=40/\(∀x,x∈(aG l o).1->x∈l\/x=o):=by
 have hm:∀x,x∈(aG l o).1->x∈l\/x=o:=λx=>zF
 revert h hm;unfold aG;split
 .rename_i k hk;intro _ hm;have oL:=aaO.1 hk;refine⟨k,rfl,SC oL.1,λi hi=>Xg (λe=>hi e.symm),λd hd=>?_,by rw[aay];exact hl,λx hx=>hm x hx⟩
  rw[vl oL.1]at hd;cases hd;simpa using oL.2.1
 .split
  .intro h;cases h
  .rename_i XI;intro _ hm;refine⟨l.length,rfl,by rw[Xi (T5 _)];simp,λi hi=>?_,λd hd=>?_,by simp only[aaL,aaj,aa9];omega,λx hx=>hm x hx⟩
   .rcases aaf i l.length with h1|h1
    .exact YN h1
    .rw[Xi h1,aaz h1];cases e:i-l.length with
     |zero=>omega
     |succ n=>rfl
   .rw[aaz (T5 _)]at hd;cases hd
structure QU(k:Kr)(o:Obj):Prop where
 sm:o.sm
 kd:o.ag≠0
 e:o.ak=[]
 q:o.aq=[]
 d:o.data.length<=60
 l:o.am=0
 u:o.up=0
 pe:o.ag=4->o.bq= -1
 p:o.ag=5->∃n:Nat,o.bb=n/\n<k.ps.length
theorem KI.make{k:Kr}(h:KI k){o:Obj}(ho:QU k o)(he:(aG k.l o).2.2=0):KI ⟨(aG k.l o).1,k.ops,k.ps⟩:=by
 obtain⟨j,_,h2,h3,h4,h5,h6⟩:=fQ he h.ll;have hm:∀(i:Nat)x,k.l[i]? =some x->x.ag≠0->∃y,(aG k.l o).1[i]? =some y/\y.ag≠0:=λi x hx hk=>by
  by_cases e:i=j
  .subst e;exact absurd (h4 x hx) hk
  .exact⟨x,by rw[h3 i e];exact hx,hk⟩
 refine h.BG h5 hm (λx hx=>?_) (λi x hx h4'=>?_) ?_
 .rcases h6 x hx with hx|rfl
  .exact h.bo hm hx
  .exact⟨ho.sm,ho.d,λq hq=>(by rw[ho.q]at hq;cases hq),ho.p,⟨(by unfold dJ;rw[ho.e];rfl),(by unfold dJ;rw[ho.e];exact List.Pairwise.nil),λ_=>ho.e,λe he=>(by unfold dJ at he;rw[ho.e]at he;cases he)⟩,λhz=>absurd hz ho.kd⟩
 .by_cases e:i=j
  .subst e;rw[h2]at hx;cases hx;exact .inl (ho.pe h4')
  .rw[h3 i e]at hx;rcases h.pe i x hx h4' with a|⟨n,y,a1,a2,a3,a4⟩
   .exact .inl a
   .exact .inr ⟨n,y,a1,by rw[h3 n λe=>by subst e;have:=h4 y a2;omega];exact a2,a3,a4⟩
 .refine h.sM.new (k:=j) (s:=vo o) ⟨ho.kd,ho.l,by unfold vo dJ;rw[ho.e];rfl,.inl ho.u⟩ (gx h2) (λi hi=>by rw[Sf,Sf,h3 i hi]) λd hd=>?_
  obtain⟨x,a1,rfl⟩:=pg hd;exact h4 x a1
theorem ra{l:List Obj}{z:Int}(h:pT l z 0=true):fZ l z:=by unfold pT oS at h;rw[aac,aac,decide_eq_true_eq,decide_eq_true_eq,Nr]at h;obtain⟨h1,h2,h3⟩:=h;have hz:z.toNat<l.length:=om;rw[Sf,vl hz]at h3;simp only[aax,aac]at h3;refine⟨z.toNat,l[z.toNat],om,vl hz,?_⟩;have:=h3.1;simpa[Obj.ob]using this
theorem ph{b:Bool}{l:List Obj}{cK bo:Int}{name:ByteArray}(h:(cO b l cK name bo).2=0):∃(n p:Nat)(o q:Obj),cK=n/\bo=p/\l[n]? =some o/\l[p]? =some q/\q.ag≠0/\o.ag=2/\o.am≠0/\b=true/\
  ¬fH (dJ o) name>=0/\o.ak.length<8/\(cO b l cK name bo).1=jP l n p name:=by
 have hr:=h;unfold cO at hr;by_cases h1:pT l cK 0=true
 .rw[if_pos h1]at hr;by_cases h2:pT l bo 0=true
  .rw[if_pos h2]at hr;obtain⟨n,o,rfl,hn,_⟩:=ra h1;obtain⟨p,q,rfl,hp,hq⟩:=ra h2;rw[aae,aae,hn]at hr;simp only[]at hr;have hR:cO b l n name p=zK b o (jP l n p name) name:=by unfold cO;rw[if_pos h1,if_pos h2,aae,aae,hn]
   unfold zK at hr;by_cases a1:o.ag≠2
   .rw[if_pos a1]at hr;cases hr
   rw[if_neg a1]at hr;by_cases a2:o.am=0
   .rw[if_pos a2]at hr;cases hr
   rw[if_neg a2]at hr;by_cases a3:b=false
   .rw[if_pos a3]at hr;cases hr
   rw[if_neg a3]at hr;by_cases a4:fH (o.ak.map nZ) name>=0
   .rw[if_pos a4]at hr;cases hr
   rw[if_neg a4]at hr;by_cases a5:o.ak.length>=8
   .rw[if_pos a5]at hr;cases hr
   exact⟨n,p,o,q,rfl,rfl,hn,hp,hq,by simpa using a1,a2,by simpa using a3,a4,om,by rw[hR,zK,if_neg a1,if_neg a2,if_neg a3,if_neg a4,if_neg a5]⟩
  .rw[if_neg h2]at hr;cases hr
 .rw[if_neg h1]at hr;cases hr
def sN(o:Obj)(name:ByteArray)(p:Nat):Obj:={o with ak:=(iL (name,(p:Int)) (dJ o)).map fX}
def H8(q:Obj)(n:Nat):Obj:={q with am:=IntKind.i64.wrap (q.am+1),up:=if q.ag=2 then(n:Int)else q.up}
theorem uh{l:List Obj}{n p:Nat}{o q:Obj}(hn:l[n]? =some o)(hp:l[p]? =some q)(BF:n≠p)(name:ByteArray):
  (jP l n p name)[n]? =some (sN o name p)/\(jP l n p name)[p]? =some (H8 q n)/\(∀j,j≠n->j≠p->(jP l n p name)[j]? =l[j]?)/\(jP l n p name).length=l.length:=by
 have jY:=(JJ.1 hn).1;have i3:=(JJ.1 hp).1;have yh:(l.set n (sN o name p))[p]? =some q:=by rw[Xg BF];exact hp
 have e:jP l n p name=(l.set n (sN o name p)).set p (H8 q n):=by
  unfold jP;rw[hn];simp only[];rw[show {o with ak:=(iL (name,(p:Int)) (o.ak.map nZ)).map fX}=sN o name p from rfl,yh]
  rfl
 rw[e];refine⟨?_,?_,λj h1 h2=>?_,aC⟩
 .rw[Xg BF.symm,SC jY]
 .rw[SC (by simpa using i3)]
 .rw[Xg (λe=>h2 e.symm),Xg (λe=>h1 e.symm)]
theorem zY(x:NE):∀es:List NE,x∈iL x es
 | []=>by simp[iL]
 |e::r=>by
  rw[iL];split
  .simp
  .exact acb _ (zY x r)
theorem xO{x y:NE}:∀{es:List NE},y∈es->y∈iL x es
 | [],h=>by cases h
 |e::r,h=>by
  rw[iL];split
  .exact acb _ h
  .rcases aaB.1 h with rfl|h
   .simp
   .exact acb _ (xO h)
theorem Gz{es:List NE}{name:ByteArray}(cH:∀e,e∈es->0<=e.2)(h:¬fH es name>=0):∀e,e∈es->e.1.toList≠name.toList:=by
 rcases iM es name with⟨e,he,_,h2⟩|⟨_,h2⟩
 .have:=cH e he;rw[h2]at h;omega
 .exact h2
theorem KI.enter{k:Kr}(h:KI k){b:Bool}{cK bo:Int}{name:ByteArray}(Hk:b=true->name.size<=12)(vA:∀(p:Nat)q,bo=p->k.l[p]? =some q->q.am=0)(he:(cO b k.l cK name bo).2=0):KI ⟨(cO b k.l cK name bo).1,k.ops,k.ps⟩:=by
 obtain⟨n,p,o,q,rfl,rfl,hn,hp,Kj,fl,AJ,hb,hf,h8,hR⟩:=ph he;have Ve:=vA p q rfl hp;have BF:n≠p:=λe=>by subst e;rw[hn]at hp;cases hp;exact AJ Ve
 rw[hR];obtain⟨g1,g2,g3,g4⟩:=uh hn hp BF name;have Ko:=Sj hn;have QW:=Sj hp;have p7:=h.en o Ko;have Oi:q.ak=[]:=by have:=h.sM.em p (vo q) (gx hp) Ve;have h2:=(h.en q QW).eq;have this:dJ q=[]:=this;rw[this]at h2;exact h2
 have u0:dJ (sN o name p)=iL (name,(p:Int)) (dJ o):=by unfold dJ sN;exact nK _
 have Oq:dJ (H8 q n)=dJ q:=rfl;have hw:IntKind.i64.wrap (q.am+1)=1:=by rw[Ve];rfl
 have hm:∀(j:Nat)x,k.l[j]? =some x->x.ag≠0->∃y,(jP k.l n p name)[j]? =some y/\y.ag≠0:=λj x hx hk=>by
  by_cases e:j=n
  .subst e;rw[hn]at hx;cases hx;exact⟨_,g1,hk⟩
  .by_cases e2:j=p
   .subst e2;rw[hp]at hx;cases hx;exact⟨_,g2,hk⟩
   .exact⟨x,by rw[g3 j e e2];exact hx,hk⟩
 have pU:∀(i:Nat)x,(jP k.l n p name)[i]? =some x->(i=n/\x=sN o name p)\/(i=p/\x=H8 q n)\/(i≠n/\i≠p/\k.l[i]? =some x):=λi x hx=>by
  by_cases e:i=n
  .subst e;rw[g1]at hx;cases hx;exact .inl ⟨rfl,rfl⟩
  .by_cases e2:i=p
   .subst e2;rw[g2]at hx;cases hx;exact .inr (.inl ⟨rfl,rfl⟩)
   .rw[g3 i e e2]at hx;exact .inr (.inr ⟨e,e2,hx⟩)
 have cH:∀e,e∈dJ o->0<=e.2:=λe hx=>by obtain⟨_,j,_,h1,_⟩:=p7.to e hx;omega
 refine h.BG (by rw[g4];exact h.ll) hm (λx hx=>?_) (λi x hx h4=>?_) ?_
 .obtain⟨i,hi⟩:=X1 hx;rcases pU i x hi with⟨rfl,rfl⟩|⟨rfl,rfl⟩|⟨_,_,hx⟩
  .have hO:=h.bo hm Ko;refine⟨⟨⟨hO.sm.t.1,⟨_,rfl⟩,hO.sm.t.2.2⟩,hO.sm.d,?_,hO.sm.q,hO.sm.qd⟩,hO.d,hO.q,hO.p,?_,λhz=>absurd hz (by rw[show(sN o name p).ag=o.ag from rfl,fl];decide)⟩
   .show((iL (name,(p:Int)) (dJ o)).map fX).length<=8;rw[Nr,CY,p7.len];omega
   .refine⟨by rw[u0];rfl,by rw[u0];exact MP p7.En (Gz cH hf),λhk=>absurd fl hk,λe hx=>?_⟩
    rw[u0]at hx;rcases sb hx with hx|rfl
    .exact hO.e.to e hx
    .exact⟨Hk hb,p,_,rfl,g2,Kj⟩
  .have hO:=h.bo hm QW;exact⟨⟨hO.sm.t,hO.sm.d,hO.sm.e,hO.sm.q,hO.sm.qd⟩,hO.d,hO.q,hO.p,⟨hO.e.eq,hO.e.En,hO.e.cK,hO.e.to⟩,λhz=>absurd hz Kj⟩
  .exact h.bo hm (Sj hx)
 .have key:∀(i:Nat)y,k.l[i]? =some y->y.ag=4->y.bq= -1\/∃(j:Nat)(x:Obj),y.bq=j/\(jP k.l n p name)[j]? =some x/\x.ag=4/\x.bq=i:=λi y hy Oo=>by
   rcases h.pe i y hy Oo with h1|⟨j,z,h1,h2,h3,h4⟩
   .exact .inl h1
   .right;by_cases e:j=n
    .subst e;rw[hn]at h2;cases h2;omega
    .by_cases e2:j=p
     .subst e2;rw[hp]at h2;cases h2;exact⟨j,_,h1,g2,h3,h4⟩
     .exact⟨j,z,h1,by rw[g3 j e e2];exact h2,h3,h4⟩
  rcases pU i x hx with⟨rfl,rfl⟩|⟨rfl,rfl⟩|⟨_,_,hx⟩
  .exact key _ o hn h4
  .exact key _ q hp h4
  .exact key i x hx h4
 .refine h.sM.enter (nm:=name) (gx hn) (gx hp) AJ Ve Kj (gx g1) (gx g2) (λj a b=>by rw[Sf,Sf,g3 j a b]) ⟨rfl,rfl,rfl⟩ (λe=>?_) ⟨rfl,hw,Oq,rfl⟩
  show e∈dJ (sN o name p)↔_;rw[u0];exact⟨sb,λhx=>hx.elim xO λhx=>hx▸zY _ _⟩
end Kn
namespace Kn
theorem sO{l:List Obj}{cK:Int}{name:ByteArray}(h:(cQ l cK name).2.2=0):∃(n k:Nat)(o q:Obj),cK=n/\l[n]? =some o/\o.ag=2/\fH (dJ o) name=k/\l[k]? =some q/\¬(q.ag=2/\q.ak.length>0)/\
  (cQ l cK name).1=li l n k name/\(cQ l cK name).2.1=k:=by
 have hr:=h;unfold cQ at hr;by_cases h1:pT l cK 0=true
 .rw[if_pos h1]at hr;obtain⟨n,o,rfl,hn,_⟩:=ra h1;rw[aae,hn]at hr;simp only[]at hr;have hR:cQ l n name=xx o l n name:=by unfold cQ;rw[if_pos h1,aae,hn]
  unfold xx at hr;by_cases a1:o.ag≠2
  .rw[if_pos a1]at hr;cases hr
  rw[if_neg a1]at hr;by_cases a2:fH (o.ak.map nZ) name<0
  .rw[if_pos a2]at hr;cases hr
  rw[if_neg a2]at hr;cases hq:l[(fH (o.ak.map nZ) name).toNat]? with
  |none=>rw[hq]at hr;cases hr
  |some q=>
   rw[hq]at hr;simp only[]at hr;by_cases a3:q.ag=2/\q.ak.length>0
   .rw[if_pos a3]at hr;cases hr
   have hk:fH (o.ak.map nZ) name=((fH (o.ak.map nZ) name).toNat:Nat):=om;refine⟨n,_,o,q,rfl,hn,by simpa using a1,hk,hq,a3,?_,?_⟩
   .rw[hR,xx,if_neg a1,if_neg a2,hq];simp only[if_neg a3]
   .rw[hR,xx,if_neg a1,if_neg a2,hq];simp only[if_neg a3];exact hk
 .rw[if_neg h1]at hr;cases hr
def u3(o:Obj)(name:ByteArray):Obj:={o with ak:=((dJ o).filter λe=>decide (e.1.toList≠name.toList)).map fX}
def H9(q:Obj)(p:Nat):Obj:={q with am:=IntKind.i64.wrap (q.am-1),up:=if q.ag=2 then(p:Int)else q.up}
theorem zZ{l:List Obj}{n p:Nat}{o q:Obj}(hn:l[n]? =some o)(hp:l[p]? =some q)(BF:n≠p)(name:ByteArray):
  (li l n p name)[n]? =some (u3 o name)/\(li l n p name)[p]? =some (H9 q p)/\(∀j,j≠n->j≠p->(li l n p name)[j]? =l[j]?)/\(li l n p name).length=l.length:=by
 have jY:=(JJ.1 hn).1;have i3:=(JJ.1 hp).1;have yh:(l.set n (u3 o name))[p]? =some q:=by rw[Xg BF];exact hp
 have e:li l n p name=(l.set n (u3 o name)).set p (H9 q p):=by
  unfold li;rw[hn];simp only[];rw[show {o with ak:=((o.ak.map nZ).filter λe=>decide (e.1.toList≠name.toList)).map fX}=u3 o name from rfl,yh]
  rfl
 rw[e];refine⟨?_,?_,λj h1 h2=>?_,aC⟩
 .rw[Xg BF.symm,SC jY]
 .rw[SC (by simpa using i3)]
 .rw[Xg (λe=>h2 e.symm),Xg (λe=>h1 e.symm)]
theorem KI.Gx{k:Kr}(h:KI k){cK:Int}{name:ByteArray}(he:(cQ k.l cK name).2.2=0):KI ⟨(cQ k.l cK name).1,k.ops,k.ps⟩:=by
 obtain⟨n,p,o,q,rfl,hn,fl,hf,hp,Oi,hR,_⟩:=sO he;have Ko:=Sj hn;have QW:=Sj hp;have p7:=h.en o Ko;obtain⟨e0,zV,L7,YT⟩:∃e0,e0∈dJ o/\e0.1.toList=name.toList/\e0.2=(p:Int):=by
  rcases iM (dJ o) name with⟨e,a1,a2,a3⟩|⟨a3,_⟩
  .exact⟨e,a1,a2,om⟩
  .omega
 have Ve:q.ak=[]:=by
  by_cases hk:q.ag=2
  .exact aai (by
    have:=λh=>Oi ⟨hk,h⟩
    omega)
  .exact(h.en q QW).cK hk
 have hqn:dJ q=[]:=by unfold dJ;rw[Ve];rfl
 have BF:n≠p:=λe=>by subst e;rw[hn]at hp;cases hp;rw[hqn]at zV;cases zV
 obtain⟨p',x,b1,_,b3,Kj,HB,_⟩:=h.sM.tr n (vo o) e0 (gx hn) zV;have:p'=p:=om;subst this;rw[gx hp]at b3;cases b3;have Kj:q.ag≠0:=Kj;have HB:q.am=1:=HB;rw[hR];obtain⟨g1,g2,g3,g4⟩:=zZ hn hp BF name;have u0:dJ (u3 o name)=(dJ o).filter λe=>decide (e.1.toList≠name.toList):=by
  show((((dJ o).filter λe=>decide (e.1.toList≠name.toList)).map fX).map nZ)=_
  exact nK _
 have ic:∀e,e∈dJ (u3 o name)↔e∈dJ o/\e≠e0:=λe=>by rw[u0,acm,decide_eq_true_eq];refine⟨λ⟨a,b⟩=>⟨a,λe1=>by subst e1;exact b L7⟩,λ⟨a,b⟩=>⟨a,λe1=>b (wP p7.En a zV (e1.trans L7.symm))⟩⟩
 have Oq:dJ (H9 q p')=[]:=hqn;have hw:IntKind.i64.wrap (q.am-1)=0:=by rw[HB];rfl
 have hm:∀(j:Nat)x,k.l[j]? =some x->x.ag≠0->∃y,(li k.l n p' name)[j]? =some y/\y.ag≠0:=λj x hx hk=>by
  by_cases e:j=n
  .subst e;rw[hn]at hx;cases hx;exact⟨_,g1,hk⟩
  .by_cases e2:j=p'
   .subst e2;rw[hp]at hx;cases hx;exact⟨_,g2,hk⟩
   .exact⟨x,by rw[g3 j e e2];exact hx,hk⟩
 have pU:∀(i:Nat)x,(li k.l n p' name)[i]? =some x->(i=n/\x=u3 o name)\/(i=p'/\x=H9 q p')\/(i≠n/\i≠p'/\k.l[i]? =some x):=λi x hx=>by
  by_cases e:i=n
  .subst e;rw[g1]at hx;cases hx;exact .inl ⟨rfl,rfl⟩
  .by_cases e2:i=p'
   .subst e2;rw[g2]at hx;cases hx;exact .inr (.inl ⟨rfl,rfl⟩)
   .rw[g3 i e e2]at hx;exact .inr (.inr ⟨e,e2,hx⟩)
 refine h.BG (by rw[g4];exact h.ll) hm (λx hx=>?_) (λi x hx h4=>?_) ?_
 .obtain⟨i,hi⟩:=X1 hx;rcases pU i x hi with⟨rfl,rfl⟩|⟨rfl,rfl⟩|⟨_,_,hx⟩
  .have hO:=h.bo hm Ko;refine⟨⟨⟨hO.sm.t.1,⟨_,rfl⟩,hO.sm.t.2.2⟩,hO.sm.d,?_,hO.sm.q,hO.sm.qd⟩,hO.d,hO.q,hO.p,?_,λhz=>absurd hz (by rw[show(u3 o name).ag=o.ag from rfl,fl];decide)⟩
   .show(((dJ o).filter λe=>decide (e.1.toList≠name.toList)).map fX).length<=8
    rw[Nr];have:=acu (λe:NE=>decide (e.1.toList≠name.toList)) (dJ o)
    have:=p7.len;have:=hO.sm.e;omega
   .exact⟨by rw[u0];rfl,by rw[u0];exact p7.En.filter _,λhk=>absurd fl hk,λe hx=>hO.e.to e ((ic e).1 hx).1⟩
  .have hO:=h.bo hm QW;exact⟨⟨hO.sm.t,hO.sm.d,hO.sm.e,hO.sm.q,hO.sm.qd⟩,hO.d,hO.q,hO.p,⟨hO.e.eq,hO.e.En,hO.e.cK,hO.e.to⟩,λhz=>absurd hz Kj⟩
  .exact h.bo hm (Sj hx)
 .have key:∀(i:Nat)y,k.l[i]? =some y->y.ag=4->y.bq= -1\/∃(j:Nat)(x:Obj),y.bq=j/\(li k.l n p' name)[j]? =some x/\x.ag=4/\x.bq=i:=λi y hy Oo=>by
   rcases h.pe i y hy Oo with h1|⟨j,z,h1,h2,h3,h4⟩
   .exact .inl h1
   .right;by_cases e:j=n
    .subst e;rw[hn]at h2;cases h2;omega
    .by_cases e2:j=p'
     .subst e2;rw[hp]at h2;cases h2;exact⟨j,_,h1,g2,h3,h4⟩
     .exact⟨j,z,h1,by rw[g3 j e e2];exact h2,h3,h4⟩
  rcases pU i x hx with⟨rfl,rfl⟩|⟨rfl,rfl⟩|⟨_,_,hx⟩
  .exact key _ o hn h4
  .exact key _ q hp h4
  .exact key i x hx h4
 .exact h.sM.Gx (gx hn) zV YT (gx hp) hqn (gx g1) (gx g2) (λj a b=>by rw[Sf,Sf,g3 j a b]) ⟨rfl,rfl,rfl⟩ ic ⟨rfl,hw,Oq,rfl⟩
theorem Ot(k:Kr):QU k (bN (-1)):=⟨⟨⟨⟨[],rfl⟩,⟨[],rfl⟩,by simp[bN]⟩,by simp[bN],by simp[bN],by simp[bN],by simp[bN]⟩,by simp[bN],rfl,rfl,by simp[bN],rfl,rfl,λ_=>rfl,λh=>by simp[bN]at h⟩
structure XR(l:List Obj)(P:List Obj×(Int×Int)×Int)(a b:Nat):Prop where
 ea:P.2.1.1=a
 eb:P.2.1.2=b
 ab:a≠b
 za:∀d,l[a]? =some d->d.ag=0
 zb:∀d,l[b]? =some d->d.ag=0
 ga:P.1[a]? =some (bN b)
 gb:P.1[b]? =some (bN a)
 go:∀i,i≠a->i≠b->P.1[i]? =l[i]?
 m:∀x,x∈P.1->x∈l\/x=bN b\/x=bN a
 ll:P.1.length<=40
theorem xP{l:List Obj}(hl:l.length<=40)(h:(fz l).2.2=0):(aG l (bN (-1))).2.2=0/\∃a b:Nat,(aG l (bN (-1))).2.1=a/\XR l (fz l) a b/\(∀d,(aG l (bN (-1))).1[b]? =some d->d.ag=0):=by
 unfold fz at h;by_cases h1:(aG l (bN (-1))).2.2=0
 .refine⟨h1,?_⟩;rw[if_neg (by simp[h1])]at h
  obtain⟨a,e1,a2,a3,a4,a5,a6⟩:=fQ h1 hl;by_cases h2:(aG (aG l (bN (-1))).1 (bN (aG l (bN (-1))).2.1)).2.2=0
  .obtain⟨b,b1,b2,b3,b4,b5,b6⟩:=fQ h2 a5;have Ek:a≠b:=λe=>by subst e;have:=b4 _ a2;simp[bN]at this
   have hP:fz l=(l6 (aG (aG l (bN (-1))).1 (bN (aG l (bN (-1))).2.1)).1 a b,((a:Int),(b:Int)),0):=by
    rw[fz,if_neg (by simp[h1]),if_neg (by simp[h2]),e1]
    rw[e1]at b1;rw[b1,aae]
   rw[e1]at b2 b3 hP b5 b6;have ha:(aG (aG l (bN (-1))).1 (bN (a:Int))).1[a]? =some (bN (-1)):=by rw[b3 a Ek];exact a2
   have S9:=(JJ.1 ha).1;have wG:l6 (aG (aG l (bN (-1))).1 (bN (a:Int))).1 a b=(aG (aG l (bN (-1))).1 (bN (a:Int))).1.set a (bN b):=by rw[l6,ha];rfl
   rw[wG]at hP;refine⟨a,b,e1,?_,b4⟩;rw[hP];refine⟨rfl,rfl,Ek,a4,λd hd=>b4 d (by rw[a3 b (λe=>Ek e.symm)];exact hd),SC S9,by rw[Xg Ek];exact b2,λi h3 h4=>by rw[Xg (λe=>h3 e.symm),b3 i h4,a3 i h3],λx hx=>?_,by rw[aay];exact b5⟩
   rcases aaC hx with hx|hx
   .rcases b6 x hx with hx|hx
    .rcases a6 x hx with hx|hx
     .exact .inl hx
     .obtain⟨i,hi⟩:=X1 (show x∈(aG (aG l (bN (-1))).1 (bN (a:Int))).1.set a (bN b)from by assumption)
      by_cases ea:i=a
      .subst ea;rw[SC S9]at hi;cases hi;exact .inr (.inl rfl)
      .rw[Xg (λe=>ea e.symm)]at hi
       by_cases eb:i=b
       .subst eb;rw[b2]at hi;cases hi;exact .inr (.inr rfl)
       .rw[b3 i eb,a3 i ea]at hi;exact .inl (Sj hi)
    .exact .inr (.inr hx)
   .exact .inr (.inl hx)
  .rw[if_pos h2]at h;exact absurd h h2
 .rw[if_pos h1]at h;exact absurd h h1
theorem KI.Uq{k:Kr}(h:KI k)(he:(fz k.l).2.2=0):KI ⟨(fz k.l).1,k.ops,k.ps⟩/\fZ (fz k.l).1 (fz k.l).2.1.1/\fZ (fz k.l).1 (fz k.l).2.1.2:=by
 obtain⟨h1,a,b,e1,P,YM⟩:=xP h.ll he;have h2:=h.make (Ot k) h1;obtain⟨a',e1',a2,a3,a4,a5,a6⟩:=fQ h1 h.ll;have:a'=a:=om;subst this;have hEK:∀p:Int,Up k (fz k.l).1 (bN p):=λp=>⟨⟨⟨⟨[],rfl⟩,⟨[],rfl⟩,by simp[bN]⟩,by simp[bN],by simp[bN],by simp[bN],by simp[bN]⟩,by simp[bN],by simp[bN],λh=>by simp[bN]at h,⟨rfl,List.Pairwise.nil,λ_=>rfl,λe he=>by cases he⟩,λh=>by simp[bN]at h⟩
 have hm:∀(j:Nat)x,k.l[j]? =some x->x.ag≠0->∃y,(fz k.l).1[j]? =some y/\y.ag≠0:=λj x hx hk=>by
  have ea:j≠a':=λe=>by subst e;exact hk (P.za x hx)
  have eb:j≠b:=λe=>by subst e;exact hk (P.zb x hx)
  exact⟨x,by rw[P.go j ea eb];exact hx,hk⟩
 refine⟨h.BG P.ll hm (λx hx=>?_) (λi x hx h4=>?_) ?_,⟨a',_,P.ea,P.ga,by simp[bN]⟩,⟨b,_,P.eb,P.gb,by simp[bN]⟩⟩
 .rcases P.m x hx with hx|rfl|rfl
  .exact h.bo hm hx
  .exact hEK _
  .exact hEK _
 .by_cases ea:i=a'
  .subst ea;rw[P.ga]at hx;cases hx;exact .inr ⟨b,_,rfl,P.gb,rfl,rfl⟩
  .by_cases eb:i=b
   .subst eb;rw[P.gb]at hx;cases hx;exact .inr ⟨a',_,rfl,P.ga,rfl,rfl⟩
   .rw[P.go i ea eb]at hx;rcases h.pe i x hx h4 with c|⟨j,y,c1,c2,c3,c4⟩
    .exact .inl c
    .refine .inr ⟨j,y,c1,?_,c3,c4⟩;rw[P.go j (λe=>by subst e;have:=P.za y c2;omega) (λe=>by subst e;have:=P.zb y c2;omega)]
     exact c2
 .refine h2.sM.new (k:=b) (s:=vo (bN a')) ⟨by simp[vo,bN],rfl,rfl,.inl rfl⟩ (gx P.gb) (λj hj=>?_) λd hd=>?_
  .rw[Sf,Sf];by_cases ea:j=a'
   .subst ea;rw[P.ga,a2];rfl
   .rw[P.go j ea hj,a3 j ea]
  .obtain⟨x,c1,rfl⟩:=pg hd;exact YM x c1
theorem xQ{l:List Obj}{e:Int}{m:dh}(h:(eZ l e m).2=0):∃(n p:Nat)(o q:Obj),e=n/\l[n]? =some o/\o.ag=4/\o.bq=p/\l[p]? =some q/\q.ag=4/\m.data.length<=60/\q.aq.length<4/\(eZ l e m).1=l.set p {q with aq:=q.aq++ [m]}:=by
 have hr:=h;unfold eZ at hr;by_cases h1:e<0\/e>=l.length
 .rw[if_pos h1]at hr;cases hr
 rw[if_neg h1]at hr;have hn:e.toNat<l.length:=om;have jX:=vl hn;rw[jX]at hr;simp only[]at hr;by_cases h2:l[e.toNat].ag≠4
 .rw[if_pos h2]at hr;cases hr
 rw[if_neg h2]at hr;by_cases h3:l[e.toNat].bq<0\/l[e.toNat].bq>=l.length
 .rw[if_pos h3]at hr;cases hr
 rw[if_neg h3]at hr;have hp:l[e.toNat].bq.toNat<l.length:=om;have hpo:=vl hp;rw[hpo]at hr;simp only[]at hr;by_cases h4:l[l[e.toNat].bq.toNat].ag≠4
 .rw[if_pos h4]at hr;cases hr
 rw[if_neg h4]at hr;by_cases h5:m.data.length>60
 .rw[if_pos h5]at hr;cases hr
 rw[if_neg h5]at hr;by_cases h6:l[l[e.toNat].bq.toNat].aq.length>=4
 .rw[if_pos h6]at hr;cases hr
 refine⟨e.toNat,l[e.toNat].bq.toNat,_,_,om,jX,by simpa using h2,om,hpo,by simpa using h4,om,om,?_⟩
 rw[eZ,if_neg h1,jX];simp only[];rw[if_neg h2,if_neg h3,hpo];simp only[];rw[if_neg h4,if_neg h5,if_neg h6]
theorem KI.send{k:Kr}(h:KI k){e:Int}{m:dh}(ht:m.RY)(hc:m.has=true->fL k m.dS m.cj)(he:(eZ k.l e m).2=0):KI ⟨(eZ k.l e m).1,k.ops,k.ps⟩:=by
 obtain⟨n,p,o,q,_,_,_,_,hp,hq4,UT,HB,hR⟩:=xQ he;have QW:=Sj hp;have hs:=h.sm q QW;rw[hR];refine h.J7 hp ⟨rfl,rfl,rfl,rfl,rfl,rfl⟩ om ⟨⟨hs.t.1,hs.t.2.1,λx hx=>?_⟩,hs.d,hs.e,?_,λx hx=>?_⟩ (h.QP q QW) λx hx hh=>?_
 .rcases abL.1 hx with hx|hx
  .exact hs.t.2.2 x hx
  .simp at hx;subst hx;exact ht
 .simp only[aaL,aaj,aa9];omega
 .rcases abL.1 hx with hx|hx
  .exact hs.qd x hx
  .simp at hx;subst hx;omega
 .rcases abL.1 hx with hx|hx
  .exact h.qu q QW x hx hh
  .simp at hx;subst hx;exact hc hh
theorem rb{l:List Obj}{e:Int}(h:(fG l e).2.2=0):∃(n:Nat)(o:Obj)(x:dh)(r:List dh),e=n/\l[n]? =some o/\o.ag=4/\o.aq=x::r/\(fG l e).1=l.set n {o with aq:=r}/\(fG l e).2.1=x:=by
 have hr:=h;unfold fG at hr;by_cases h1:e<0\/e>=l.length
 .rw[if_pos h1]at hr;cases hr
 rw[if_neg h1]at hr;have hn:e.toNat<l.length:=om;have jX:=vl hn;rw[jX]at hr;simp only[]at hr;by_cases h2:l[e.toNat].ag≠4
 .rw[if_pos h2]at hr;cases hr
 rw[if_neg h2]at hr;have hR:fG l e=(match l[e.toNat].aq with
  | []=>if l[e.toNat].bq<0\/l[e.toNat].bq>=l.length then([],m4,17)else match l[l[e.toNat].bq.toNat]? with
   |none=>([],m4,17)
   |some q=>if q.ag≠4 then([],m4,17)else([],m4,16)
  |x::r=>(l.set e.toNat {l[e.toNat]with aq:=r},x,0)):=by
  rw[fG,if_neg h1,jX];simp only[];rw[if_neg h2];rfl
 cases hq:l[e.toNat].aq with
 |nil=>
  rw[hq]at hr;simp only[]at hr;split at hr
  .cases hr
  .split at hr
   .cases hr
   .split at hr<;>cases hr
 |cons x r=>
  rw[hq]at hR;refine⟨e.toNat,_,x,r,om,jX,by simpa using h2,hq,?_,?_⟩<;>rw[hR]
theorem KI.recv{k:Kr}(h:KI k){e:Int}(he:(fG k.l e).2.2=0):KI ⟨(fG k.l e).1,k.ops,k.ps⟩/\((fG k.l e).2.1.has=true->fL k (fG k.l e).2.1.dS (fG k.l e).2.1.cj):=by
 obtain⟨n,o,x,r,_,hn,ho4,hq,hR,hx⟩:=rb he;have Ko:=Sj hn;have hs:=h.sm o Ko;rw[hR,hx];have iC:∀y,y∈r->y∈o.aq:=λy hy=>by rw[hq];exact acb _ hy
 refine⟨h.J7 hn ⟨rfl,rfl,rfl,rfl,rfl,rfl⟩ om ⟨⟨hs.t.1,hs.t.2.1,λy hy=>hs.t.2.2 y (iC y hy)⟩,hs.d,hs.e,?_,λy hy=>hs.qd y (iC y hy)⟩ (h.QP o Ko) λy hy hh=>h.qu o Ko y (iC y hy) hh,λhh=>h.qu o Ko x (by rw[hq];simp) hh⟩
 have:=hs.q;rw[hq]at this;simp only[aaj]at this|-;omega
end Kn
namespace Kn
structure XS(k:Kr)(x:bm):Prop where
 sl:x.aU.length<=10
 aR:x.aP=false->x.aU=[]
 cap:∀s,s∈x.aU->s.has=true->fL k s.dS s.cj
theorem KI.Sy{k:Kr}(h:KI k){x:bm}(hx:x∈k.ps):XS k x:=⟨h.sl x hx,h.aR x hx,h.cap x hx⟩
theorem KI.Ia{k:Kr}(h:KI k){ot:List bm}(hl:ot.length<=8)(ek:k.ps.length<=ot.length)(hx:∀x,x∈ot->XS k x):KI ⟨k.l,k.ops,ot⟩:=
 ⟨h.ll,h.lo,hl,h.sm,λx h=>(hx x h).sl,λe=>h.ne (aai (by have:ot=[]:=e;rw[this]at ek;simpa using ek)),λx h=>(hx x h).aR,λx h=>(hx x h).cap,
  h.qu,λo ho h5=>let⟨n,a,b⟩:=h.pr o ho h5;⟨n,a,aaA b ek⟩,h.en,h.z,h.pe,h.di,h.QP,h.sM⟩
theorem KI.XT{k:Kr}(h:KI k){Ou:List bF}(hl:Ou.length<=60)(hm:∀(n:Nat)o,k.ops[n]? =some o->fZ k.l o.bo->∃o',Ou[n]? =some o'/\fZ k.l o'.bo)(ha:∀o,o∈Ou->0<=o.di/\o.di<=64):KI ⟨k.l,Ou,k.ps⟩:=by
 have eD:∀z r,fL k z r->fL ⟨k.l,Ou,k.ps⟩ z r:=λz r hc=>hc.mono hm
 exact⟨h.ll,hl,h.lp,h.sm,h.sl,h.ne,h.aR,λx hx s hs hh=>eD _ _ (h.cap x hx s hs hh),λo ho q hq hh=>eD _ _ (h.qu o ho q hq hh),h.pr,h.en,h.z,h.pe,ha,h.QP,h.sM⟩
theorem KI.SS{k:Kr}(h:KI k)(z:Int){a:Int}(ha:0<=a/\a<=64):KI (sG k z a):=by
 unfold sG;cases ho:k.ops[z.toNat]? with
 |none=>exact h
 |some o=>
  have hz:=(JJ.1 ho).1;refine h.XT (by rw[aay];exact h.lo) (λn x hx hi=>?_) λx hx=>?_
  .by_cases e:n=z.toNat
   .subst e;rw[ho]at hx;cases hx;exact⟨_,SC hz,hi⟩
   .exact⟨x,by rw[Xg (λx=>e x.symm)];exact hx,hi⟩
  .rcases aaC hx with hx|rfl
   .exact h.di x hx
   .exact ha
theorem KI.dz{k:Kr}(h:KI k){p:Nat}{x:bm}(hp:k.ps[p]? =some x)(b9:x.aP=true){l:List ft}(hl:l.length<=10)(hc:∀s,s∈l->s.has=true->fL k s.dS s.cj):KI ⟨k.l,k.ops,dz k.ps p l⟩:=by
 have e:Go.Proofs.YtodckkkbiidffaaGreatDoor.dz k.ps p l=k.ps.set p {x with aU:=l}:=by unfold Go.Proofs.YtodckkkbiidffaaGreatDoor.dz;rw[hp]
 rw[e];refine h.Ia (by rw[aay];exact h.lp) (by rw[aay];exact T5 _) λy hy=>?_
 rcases aaC hy with hy|rfl
 .exact h.Sy hy
 .exact⟨hl,λhd=>(by rw[b9]at hd;cases hd),hc⟩
theorem nS{l:List ft}{o r:Int}(h:(fY l o r).2.2=0):Tb.fa r=true/\0<=o/\∀s,s∈(fY l o r).1->s∈l\/s=⟨true,o,r⟩:=by
 have Pg:∀s:ft,Pm (mw s)=s:=λs=>rfl
 unfold fY at h|-;simp only[]at h|-;unfold Tb.iO at h|-;split at h
 .cases h
 .rename_i h1;have hr:Tb.fa r=true:=by
   cases hx:Tb.fa r with
   |true=>rfl
   |false=>exact absurd (.inl hx) h1
  have ho:0<=o:=Int.not_lt.1 λhx=>h1 (.inr hx)
  refine⟨hr,ho,λs hs=>?_⟩
  rw[if_neg h1]at hs;split at hs
  .obtain⟨t,ht,rfl⟩:=aas.1 hs;rcases aaC ht with ht|rfl
   .obtain⟨u,hu,rfl⟩:=aas.1 ht;exact .inl hu
   .exact .inr rfl
  .split at hs
   .cases hs
   .obtain⟨t,ht,rfl⟩:=aas.1 hs;rcases abL.1 ht with ht|ht
    .obtain⟨u,hu,rfl⟩:=aas.1 ht;exact .inl hu
    .simp at ht;subst ht;exact .inr rfl
theorem ui{n:Int}:Tb.fa n=true↔0<=n/\n<=4095:=by unfold Tb.fa;rw[aac,decide_eq_true_eq,decide_eq_true_eq]
theorem KI.xR{k:Kr}(h:KI k){p:Nat}{x:bm}(hp:k.ps[p]? =some x)(b9:x.aP=true){bo cj:Int}(ho:fZ k.l bo)(he:(aL k p bo cj).2.2=0):KI (aL k p bo cj).1:=by
 have zE:aA k.ps p=x.aU:=by rw[aA,hp]
 unfold aL at he|-;split at he
 .cases he
 rename_i h1;rw[if_neg h1];split at he
 .rename_i h2;exact absurd he h2
 rename_i h2;rw[if_neg h2];have h2:(fY (aA k.ps p) (cX k.ops) cj).2.2=0:=aaa h2;rw[zE]at h2|-;obtain⟨c1,c2,c3⟩:=nS h2;have hi:cX k.ops<k.ops.length\/cX k.ops=k.ops.length/\k.ops.length<60:=by
  unfold cX;cases hf:El k.ops with
  |none=>exact .inr ⟨rfl,Nat.not_le.1 λa=>h1 ⟨hf,a⟩⟩
  |some i=>exact .inl (Bc hf)
 have Mt:∀o,k.ops[cX k.ops]? =some o->o.bo<0:=λo hx=>by
  unfold cX at hx;cases hf:El k.ops with
  |none=>
   rw[hf]at hx;rw[show(none:Option Nat).getD k.ops.length=k.ops.length from rfl,aaz (T5 _)]at hx;cases hx
  |some i=>
   rw[hf]at hx;have:=aaO.1 hf;obtain⟨a1,a2,_⟩:=this;rw[show(some i).getD k.ops.length=i from rfl,vl a1]at hx;cases hx;simpa using a2
 have jo:∀n:Nat,(jj k.ops (cX k.ops) ⟨bo,0⟩)[n]? =if n=cX k.ops then some ⟨bo,0⟩else k.ops[n]? :=λn=>by
  unfold jj;split
  .rename_i e;rw[e];by_cases hn:n=k.ops.length
   .subst hn;rw[if_pos rfl,Xi (T5 _)];simp
   .rw[if_neg hn];rcases aaf n k.ops.length with a|a
    .exact YN a
    .rw[Xi a,aaz a];cases e2:n-k.ops.length with
     |zero=>omega
     |succ m=>rfl
  .rename_i e;have aD:cX k.ops<k.ops.length:=om;by_cases hn:n=cX k.ops
   .subst hn;rw[if_pos rfl,SC aD]
   .rw[if_neg hn,Xg (λa=>hn a.symm)]
 have kg:KI ⟨k.l,jj k.ops (cX k.ops) ⟨bo,0⟩,k.ps⟩:=by
  refine h.XT ?_ (λn o hx hio=>?_) λo hx=>?_
  .unfold jj;split
   .rw[aaL];simp;omega
   .rw[aay];exact h.lo
  .rw[jo];by_cases e:n=cX k.ops
   .subst e;have:=Mt o hx;obtain⟨j,_,e2,_⟩:=hio;omega
   .rw[if_neg e];exact⟨o,hx,hio⟩
  .unfold jj at hx;split at hx
   .rcases abL.1 hx with hx|hx
    .exact h.di o hx
    .simp at hx;subst hx;exact⟨acN _,by show(0:Int)<=64;omega⟩
   .rcases aaC hx with hx|rfl
    .exact h.di o hx
    .exact⟨acN _,by show(0:Int)<=64;omega⟩
 refine kg.dz hp b9 (sK (h.sl x (Sj hp))) λs hs hh=>?_
 rcases c3 s hs with hs|rfl
 .exact kg.cap x (Sj hp) s hs hh
 .exact⟨ui.1 c1,cX k.ops,⟨bo,0⟩,rfl,by rw[jo,if_pos rfl],ho⟩
theorem KI.exit{k:Kr}(h:KI k){p code:Int}(he:(iu k p code).2=0):KI (iu k p code).1:=by
 unfold iu at he|-;split at he
 .cases he
 rename_i h1;rw[if_neg h1];split at he
 .cases he
 rename_i h2;rw[if_neg h2];refine h.Ia (by rw[aay];exact h.lp) (by rw[aay];exact T5 _) λy hy=>?_
 rcases aaC hy with hy|rfl
 .exact h.Sy hy
 .exact⟨aC,λ_=>rfl,λs hs=>by cases hs⟩
theorem KI.fen{k:Kr}(h:KI k)(p:Nat):KI ⟨k.l,k.ops,pf k.ps p⟩:=by
 unfold pf;cases hp:k.ps[p]? with
 |none=>exact h
 |some x=>
  refine h.Ia (by rw[aay];exact h.lp) (by rw[aay];exact T5 _) λy hy=>?_
  have:=h.Sy (Sj hp);rcases aaC hy with hy|rfl
  .exact h.Sy hy
  .exact⟨this.sl,this.aR,this.cap⟩
theorem GA{l:List Obj}{ps:List bm}(h:¬gO l ps<0):∃c:Nat,gO l ps=c/\c<=ps.length/\c<8/\(c<ps.length->sr l ps c=true):=by obtain⟨c,hc⟩:∃c:Nat,gO l ps=c:=⟨(gO l ps).toNat,om⟩;obtain⟨h1,_,h3,h4⟩:=o4 l ps 8 0 c hc (aan _);exact⟨c,hc,h1,om,h4⟩
theorem Ov{k:Kr}{c:Nat}(hc:c<k.ps.length):QU k (dm c):=⟨Dh _,by simp[dm],rfl,rfl,by simp[dm],rfl,rfl,λh=>by simp[dm]at h,λ_=>⟨c,rfl,hc⟩⟩
theorem z6{ps:List bm}{n c:Nat}{x:bm}(hn:ps[n]? =some x)(hc:c<=ps.length):(gY ps n c).length=(if c=ps.length then ps.length+1 else ps.length)/\(gY ps n c)[c]? =some ⟨true,x.fenced,0,x.aU⟩/\(∀i,i≠c->(gY ps n c)[i]? =ps[i]?)/\(∀y,y∈gY ps n c->y∈ps\/y=⟨true,x.fenced,0,x.aU⟩):=by
 unfold gY;rw[hn];simp only[];split
 .rename_i e;subst e;refine⟨aC,by rw[Xi (T5 _)];simp,λi hi=>?_,λy hy=>by simpa using hy⟩
  rcases aaf i ps.length with a|a
  .exact YN a
  .rw[Xi a,aaz a];cases e2:i-ps.length with
   |zero=>omega
   |succ m=>rfl
 .exact⟨aC,SC om,λi hi=>Xg (λe=>hi e.symm),λy hy=>aaC hy⟩
structure XU(k:Kr)(p:Nat)(x:bm)(c:Nat):Prop where
 le:c<=k.ps.length
 c8:c<8
 aR:c<k.ps.length->sr k.l k.ps c=true
 ne:p≠c
 em:(aG k.l (dm c)).2.2=0
 eo:(aL ⟨(aG k.l (dm c)).1,k.ops,gY k.ps p c⟩ p (aG k.l (dm c)).2.1 3200).2.2=0
 R:gH k p=((aL ⟨(aG k.l (dm c)).1,k.ops,gY k.ps p c⟩ p (aG k.l (dm c)).2.1 3200).1,(c:Int),(aL ⟨(aG k.l (dm c)).1,k.ops,gY k.ps p c⟩ p (aG k.l (dm c)).2.1 3200).2.1,0)
theorem xS{k:Kr}{p:Nat}{x:bm}(hp:k.ps[p]? =some x)(b9:x.aP=true)(he:(gH k p).2.2.2=0):∃c:Nat,XU k p x c:=by
 have hl:fj k.ps p=true:=by have i3:=(JJ.1 hp).1;refine Qh i3 ?_;have:=vl i3;rw[hp]at this;cases this;exact b9
 unfold gH at he;rw[if_neg (by rw[hl];simp)]at he
 split at he
 .cases he
 rename_i hf;obtain⟨c,hc,c1,c2,c3⟩:=GA hf;rw[hc,aae,aae]at he;have hR:gH k p=xd k.l k.ops (gY k.ps p c) p c:=by
  rw[gH,if_neg (by rw[hl];simp),if_neg hf,hc,aae,aae]
 unfold xd at he;split at he
 .rename_i h1;exact absurd he h1
 rename_i h1;split at he
 .rename_i h2;exact absurd he h2
 rename_i h2;refine⟨c,c1,c2,c3,λe=>?_,aaa h1,aaa h2,?_⟩
 .subst e;have:=c3 (JJ.1 hp).1;rw[sr,hp]at this;simp only[b9]at this;cases this
 .rw[hR,xd,if_neg h1,if_neg h2]
theorem KI.abE{k:Kr}(h:KI k){p:Nat}{x:bm}(hp:k.ps[p]? =some x)(b9:x.aP=true)(he:(gH k p).2.2.2=0):KI (gH k p).1:=by
 obtain⟨c,C⟩:=xS hp b9 he;obtain⟨g1,g2,g3,g4⟩:=z6 hp C.le;have hx:=h.Sy (Sj hp);have h1:KI ⟨k.l,k.ops,gY k.ps p c⟩:=by
  refine h.Ia ?_ ?_ λy hy=>?_
  .rw[g1];have:=C.c8;have:=h.lp;split<;>omega
  .rw[g1];split<;>omega
  .rcases g4 y hy with hy|rfl
   .exact h.Sy hy
   .exact⟨hx.sl,λhd=>(by cases hd),hx.cap⟩
 have im:c<(gY k.ps p c).length:=(JJ.1 g2).1;have h2:=h1.make (Ov im) C.em;obtain⟨j,j1,j2,_⟩:=fQ C.em h.ll;rw[C.R];refine h2.xR (p:=p) (x:=x) (by show(gY k.ps p c)[p]? =some x;rw[g3 p C.ne];exact hp) b9 ⟨j,_,j1,j2,by simp[dm]⟩ C.eo
end Kn
namespace Kn
theorem GB{b:Bool}{l:List Obj}{cK bo:Int}{name:ByteArray}(vA:∀(p:Nat)q,bo=p->l[p]? =some q->q.am=0)(h:(cO b l cK name bo).2=0){z:Int}(hz:fZ l z):fZ (cO b l cK name bo).1 z:=by
 obtain⟨n,p,o,q,rfl,rfl,hn,hp,Kj,fl,AJ,_,_,_,hR⟩:=ph h;have BF:n≠p:=λe=>by subst e;rw[hn]at hp;cases hp;exact AJ (vA n _ rfl hn)
 obtain⟨g1,g2,g3,g4⟩:=uh hn hp BF name;rw[hR];refine hz.mono λj x hx hk=>?_
 by_cases e:j=n
 .subst e;rw[hn]at hx;cases hx;exact⟨_,g1,hk⟩
 .by_cases e2:j=p
  .subst e2;rw[hp]at hx;cases hx;exact⟨_,g2,hk⟩
  .exact⟨x,by rw[g3 j e e2];exact hx,hk⟩
theorem Kp{t:bK.dL}(h:bK.fP t=true):(bK.cF t).size<=12:=by unfold bK.fP at h;simp only[aac,decide_eq_true_eq]at h;rw[bK.m8];exact h.1.1.1.2
structure GC(o:Obj):Prop where
 n:QE o
 k:o.ag=1\/o.ag=2\/o.ag=3
 q:o.aq=[]
 d:o.data.length<=60
 l:o.am=0
 u:o.up=0
theorem GC.QX{o:Obj}(h:GC o)(k:Kr):QU k (gE o):=
 ⟨h.n.gE.sm,λe=>(by have:o.ag=0:=e;have:=h.k;omega),h.n.en,h.q,h.d,h.l,h.u,λe=>(by have:o.ag=4:=e;have:=h.k;omega),λe=>(by have:o.ag=5:=e;have:=h.k;omega)⟩
theorem Ib:GC o9:=⟨zL,.inl rfl,rfl,by simp[o9],rfl,rfl⟩
theorem Ow:GC Gk:=⟨BC _ _,.inr (.inl rfl),rfl,by simp[Gk],rfl,rfl⟩
theorem Ic(d:List Int):GC (xH d):=⟨BC _ _,.inr (.inr rfl),rfl,by simp[xH],rfl,rfl⟩
structure abF(k:Kr)(f:R4)(o:Obj)(j:Nat):Prop where
 em:(aG k.l (gE o)).2.2=0
 ej:(aG k.l (gE o)).2.1=j
 ee:(By (aG k.l (gE o)).1 f j).2=0
 R:cw k f o=(⟨(By (aG k.l (gE o)).1 f j).1,k.ops,k.ps⟩,(j:Int),0)
theorem sP{k:Kr}(hl:k.l.length<=40){f:R4}{o:Obj}(he:(cw k f o).2.2=0):∃j:Nat,abF k f o j:=by
 unfold cw at he;by_cases h1:(aG k.l (gE o)).2.2=0
 .rw[if_neg (by simp[h1])]at he
  obtain⟨j,e1,_⟩:=fQ h1 hl;have he:(By (aG k.l (gE o)).1 f (aG k.l (gE o)).2.1).2=0:=he;rw[e1]at he;refine⟨j,h1,e1,he,?_⟩;rw[cw,if_neg (by simp[h1]),e1,he,bP,if_pos rfl]
 .rw[if_pos h1]at he;exact absurd he h1
theorem KI.GD{k:Kr}(h:KI k){f:R4}{o:Obj}(ho:GC o)(he:(cw k f o).2.2=0):KI (cw k f o).1/\fZ (cw k f o).1.l (cw k f o).2.1/\(cw k f o).1.ps=k.ps:=by
 obtain⟨j,C⟩:=sP h.ll he;have h1:=h.make (ho.QX k) C.em;obtain⟨j',e1,a2,_⟩:=fQ C.em h.ll;have:j'=j:=by have:=C.ej;omega
 subst this;have vA:∀(p:Nat)q,((j':Nat):Int)=p->(aG k.l (gE o)).1[p]? =some q->q.am=0:=λp q e hq=>by have:p=j':=om;subst this;rw[a2]at hq;cases hq;exact ho.l
 rw[C.R];exact⟨h1.enter (λhb=>Kp hb) vA C.ee,GB vA C.ee ⟨j',_,rfl,a2,(ho.QX k).kd⟩,rfl⟩
theorem KI.cq{k:Kr}(h:KI k){c:Cl}{f:R4}(hf:f.fC=0->f.bo= -1\/fZ k.l f.bo)(he:(cq k c f).2.2=0):KI (cq k c f).1/\fZ (cq k c f).1.l (cq k c f).2.1/\(cq k c f).1.ps=k.ps:=by
 unfold Kn.cq at he|-;split at he
 .rename_i h1;exact absurd he h1
 rename_i h1;rw[if_neg h1];have hf:=hf (aaa h1);split at he
 .rename_i h2;rw[if_pos h2];split at he
  .cases he
  .rename_i h3;rw[if_neg h3];exact h.GD Ib he
 .rename_i h2;rw[if_neg h2];split at he
  .cases he
  .rename_i h3;rw[if_neg h3];refine⟨h,hf.elim (λe=>absurd (by show f.bo<0;omega) h2) id,rfl⟩
theorem uj{k:Kr}{p:Nat}{bo cj:Int}(he:(aL k p bo cj).2.2=0):(aL k p bo cj).1.ps=dz k.ps p (fY (aA k.ps p) (cX k.ops) cj).1/\(aL k p bo cj).1.l=k.l/\(fY (aA k.ps p) (cX k.ops) cj).2.2=0/\(aL k p bo cj).1.ops=jj k.ops (cX k.ops) ⟨bo,0⟩/\(aL k p bo cj).2.1=(fY (aA k.ps p) (cX k.ops) cj).2.1:=by
 unfold aL at he|-;split at he
 .cases he
 rename_i h1;rw[if_neg h1];split at he
 .rename_i h2;exact absurd he h2
 rename_i h2;rw[if_neg h2];exact⟨rfl,rfl,aaa h2,rfl,rfl⟩
theorem Kq(ps:List bm)(p:Nat)(l:List ft):(dz ps p l).length=ps.length:=by
 unfold dz;split
 .rw[aay]
 .rfl
theorem gy{ps:List bm}{p:Nat}{x:bm}(hp:ps[p]? =some x)(l:List ft):(dz ps p l)[p]? =some {x with aU:=l}:=by unfold dz;rw[hp];exact SC (JJ.1 hp).1
theorem KI.XV{k:Kr}(h:KI k){z:Int}(hz:fZ k.l z):KI ⟨lj k.l z,k.ops,k.ps⟩:=by obtain⟨j,o,rfl,hj,hk⟩:=hz;have hs:=h.sm o (Sj hj);rw[lj,aae,hj];exact h.J7 hj ⟨rfl,rfl,rfl,rfl,rfl,rfl⟩ hk ⟨⟨⟨[],rfl⟩,hs.t.2.1,hs.t.2.2⟩,aC,hs.e,hs.q,hs.qd⟩ aC (h.qu o (Sj hj))
theorem KI.Sz{k:Kr}(h:KI k){p:Nat}{x:bm}(hp:k.ps[p]? =some x)(b9:x.aP=true){c:Cl}{ar:Int}{ay:Bool}(he:(gi k p c ar ay).2.fC=0):KI (gi k p c ar ay).1:=by
 unfold gi jz at he|-;split at he
 .rename_i h1;exact absurd he h1
 rename_i h1;rw[if_neg h1];obtain⟨g1,g2,g3⟩:=h.cq (h.QT ar c.cJ ay true) (aaa h1);split at he
 .rename_i h2;exact absurd he h2
 rename_i h2;rw[if_neg h2];have h2:=aaa h2;have h3:=g1.xR (by rw[g3];exact hp) b9 g2 h2
 split
 .exact h3.XV (by rw[(uj h2).2.1];exact g2)
 .exact h3
theorem KI.XW{k:Kr}(h:KI k){p:Nat}{x:bm}(hp:k.ps[p]? =some x)(b9:x.aP=true){c:Cl}(he:(gw k p c).2.fC=0):KI (gw k p c).1:=by
 unfold gw at he|-;split at he
 .cases he
 rename_i h1;rw[if_neg h1];split at he
 .rename_i h2;rw[if_pos h2];exact h.Sz hp b9 he
 rename_i h2;rw[if_neg h2];split at he
 .rename_i h3;exact absurd he h3
 .rename_i h3;rw[if_neg h3];exact h.Sz hp b9 he
theorem GF{k:Kr}{p:Nat}{fd need:Int}(h:(bp k p fd need).2.2=0):∃s,s∈aA k.ps p/\s.has=true/\(bp k p fd need).1=(s.dS,s.cj)/\(bp k p fd need).2.1=fJ k.ops s.dS:=by
 unfold bp at h|-;split at h
 .rename_i h1;exact absurd h h1
 .rename_i h1;rw[if_neg h1];obtain⟨s,hs,hh,e⟩:=xz (aaa h1);exact⟨s,hs,hh,e,by show fJ k.ops _=_;rw[e]⟩
theorem KI.bp{k:Kr}(h:KI k){p:Nat}{fd need:Int}(he:(Kn.bp k p fd need).2.2=0):∃(n:Nat)(o:bF)(j:Nat)(x:Obj),(Kn.bp k p fd need).1.1=n/\k.ops[n]? =some o/\(Kn.bp k p fd need).2.1=j/\o.bo=j/\k.l[j]? =some x/\x.ag≠0/\0<=(Kn.bp k p fd need).1.2/\(Kn.bp k p fd need).1.2<=4095:=by
 obtain⟨s,hs,hh,e,e2⟩:=GF he;obtain⟨hr,n,o,h1,h2,j,x,h3,h4,h5⟩:=h.eD hs hh;refine⟨n,o,j,x,by rw[e];exact h1,h2,?_,h3,h4,h5,by rw[e];exact hr.1,by rw[e];exact hr.2⟩
 rw[e2,h1,fJ,aae,h2];exact h3
theorem Ie{a b:Int}(h0:0<=a)(ha:a<=1000)(IC:0<=b)(hb:b<=5000000):BA a b=a+b:=by unfold BA;exact ip om om
theorem KI.o8{k:Kr}(h:KI k)(z:Int):0<=o8 k.ops z/\o8 k.ops z<=64:=by
 unfold Kn.o8;cases ho:k.ops[z.toNat]? with
 |none=>exact⟨acN _,by show(0:Int)<=64;omega⟩
 |some o=>exact h.di o (Sj ho)
theorem Ox{ag:Int}{d:List (List Dt)}{di n:Int}(h:(jO ag d di n).2=0):ag=1/\0<=di/\0<=n/\(jO ag d di n).1=JM d di.toNat n.toNat:=by
 unfold jO at h|-;split at h
 .cases h
 rename_i h1;split at h
 .cases h
 rename_i h2;split at h
 .cases h
 rename_i h3;rw[if_neg h1,if_neg h2,if_neg h3];exact⟨om,om,om,rfl⟩
theorem QY(d:List (List Dt))(a n:Nat):(JM d a n).length=fp n (d.length-fp a d.length):=by have h1:=nO a d.length;have h2:=nO n (d.length-fp a d.length);unfold JM;rw[abB,aav];omega
theorem QZ{o:Obj}{di:Int}{b:List Int}(ho:o.sm)(hd:o.data.length<=60)(h:(fb o di (jg b)).2=0):(fb o di (jg b)).1.data.length<=60:=by
 obtain⟨_,_,h1,h2,h3,h4⟩:=sH ho h;rw[h4];obtain⟨d,yd⟩:=ho.t.1;show(qa o.data di.toNat (jg b)).length<=60;rw[yd,Ge,show ∀x:List Int,(jg x).length=x.length from λx=>by simp[jg]]
 have l4:d.length<=60:=by rw[yd]at hd;simpa[jg]using hd
 have:=H3 d b di.toNat om om;omega
theorem KI.bytes{k:Kr}(h:KI k){p:Nat}{c:Cl}(he:(ik k p c).2.fC=0):KI (ik k p c).1:=by
 unfold ik mA at he|-;split at he
 .rename_i h1;exact absurd he h1
 rename_i h1;rw[if_neg h1];obtain⟨n,op,j,x,e1,e2,e3,e4,e5,e6,_⟩:=h.bp (aaa h1);have Ur:=Sj e5;have Pj:lm k.l (Kn.bp k p c.fd (oc c.ag)).2.1=x:=by rw[e3,lm,aae,e5];rfl
 rw[Pj]at he|-;have E8:=h.o8 (Kn.bp k p c.fd (oc c.ag)).1.1;split at he
 .rename_i h4;rw[if_pos h4];unfold ua at he|-;split at he
  .rename_i h5;exact absurd he h5
  rename_i h5;rw[if_neg h5];obtain⟨_,h6,_,h7⟩:=Ox (aaa h5);refine h.SS _ ?_;rw[h7,QY];have hd:=h.QP x Ur;have m1:=nO (Kn.o8 k.ops (Kn.bp k p c.fd (oc c.ag)).1.1).toNat x.data.length;have m2:=nO c.n.toNat (x.data.length-fp (Kn.o8 k.ops (Kn.bp k p c.fd (oc c.ag)).1.1).toNat x.data.length);have m3:fp (Kn.o8 k.ops (Kn.bp k p c.fd (oc c.ag)).1.1).toNat x.data.length=(Kn.o8 k.ops (Kn.bp k p c.fd (oc c.ag)).1.1).toNat\/fp (Kn.o8 k.ops (Kn.bp k p c.fd (oc c.ag)).1.1).toNat x.data.length=x.data.length:=by unfold fp;split<;>simp
  rw[Ie om om om om];omega
 rename_i h4;rw[if_neg h4];split at he
 .rename_i h5;rw[if_pos h5];unfold pa at he|-;split at he
  .rename_i h6;exact absurd he h6
  rename_i h6;rw[if_neg h6];have h6:=aaa h6;obtain⟨w1,w2,w3,w4,w5,w6⟩:=sH (h.sm x Ur) h6;have w7:=QZ (h.sm x Ur) (h.QP x Ur) h6;have h2:KI (setObj k (Kn.bp k p c.fd (oc c.ag)).2.1 (fb x (Kn.o8 k.ops (Kn.bp k p c.fd (oc c.ag)).1.1) (jg c.data)).1):=by
   rw[e3,setObj,aae];exact h.J7 e5 (by rw[w6];exact⟨rfl,rfl,rfl,rfl,rfl,rfl⟩) e6 w1 w7 (by rw[w6];exact h.qu x Ur)
  refine h2.SS _ ?_;rw[Ie om om om om];omega
 .rename_i h5;rw[if_neg h5];unfold qX at he|-;split at he
  .cases he
  rename_i h6;rw[if_neg h6];exact h.SS _ ⟨om,om⟩
theorem ng{l:List ft}{fd:Int}(h:(fB l fd).2=0):∃(i:Nat)(s:ft),fd=i/\l[i]? =some s/\s.has=true/\(fB l fd).1=(s.dS,s.cj)/\Tb.eA (l.map mw) fd=(⟨s.dS,s.cj⟩,0):=by
 unfold fB Tb.eA at h|-;by_cases h0:0<=fd
 .rw[if_pos h0,Sf]at h|-;cases hy:l[fd.toNat]? with
  |none=>rw[hy]at h;cases h
  |some t=>
   rw[hy]at h;simp only[aax]at h|-;cases hh:t.has with
   |false=>
    have:(mw t).has=false:=hh;rw[this]at h;cases h
   |true=>
    have h2:(mw t).has=true:=hh;refine⟨fd.toNat,t,om,hy,hh,?_,?_⟩
    .rw[h2];rfl
    .rw[h2];rfl
 .rw[if_neg h0]at h;cases h
theorem DR{l:List ft}{c:Cl}(hl:l.length<=10)(h:(ma l c).2.2=0):(ma l c).1.length<=10/\∀s,s∈(ma l c).1->s.has=true->s∈l\/∃t,t∈l/\t.has=true/\s.dS=t.dS/\0<=s.cj/\s.cj<=4095:=by
 have Pg:∀s:ft,Pm (mw s)=s:=λs=>rfl
 unfold ma at h|-;split at h
 .rename_i h7;rw[if_pos h7];unfold xy Tb.nM at h|-;split at h
  .rename_i h1;simp only[if_pos h1];refine⟨by simp only[Nr,aav,aay];omega,λs hs hh=>?_⟩
   obtain⟨t,ht,rfl⟩:=aas.1 hs;rcases aaC (aaY ht)with ht|rfl
   .obtain⟨u,hu,rfl⟩:=aas.1 ht;exact .inl hu
   .cases hh
  .rename_i h1;exact absurd h h1
 rename_i h7;rw[if_neg h7];split at h
 .rename_i h8;rw[if_pos h8];unfold Dy Tb.tS at h|-;split at h
  .rename_i h1;obtain⟨i,t,_,h3,h4,h5,h6⟩:=ng (l:=l) (fd:=c.fd) h1;have e:(Tb.eA (l.map mw) c.fd).1=⟨t.dS,t.cj⟩:=by rw[h6]
   rw[e]at h;simp only[if_pos h1,e];obtain⟨a1,_,a3⟩:=nS (l:=l) (o:=t.dS) (r:=t.cj) h;refine⟨sK (l:=l) (o:=t.dS) (r:=t.cj) hl,λs hs hh=>?_⟩
   rcases a3 s hs with hs|rfl
   .exact .inl hs
   .exact .inr ⟨t,Sj h3,h4,rfl,ui.1 a1⟩
  .rename_i h1;exact absurd h h1
 .rename_i h8;rw[if_neg h8];unfold Dz Tb.yF at h|-;split at h
  .rename_i h1;obtain⟨i,t,_,h3,h4,h5,h6⟩:=ng (l:=l) (fd:=c.fd) h1;split at h
   .cases h
   rename_i h2;split at h
   .cases h
   rename_i h9;simp only[if_pos h1,if_neg h2,if_neg h9];have hr:Tb.fa c.a8=true:=by cases hx:Tb.fa c.a8 with|true=>rfl|false=>exact absurd hx h2
   refine⟨by simp only[Nr,aay];omega,λs hs hh=>?_⟩
   obtain⟨u,hu,rfl⟩:=aas.1 hs;rcases aaC hu with hu|rfl
   .obtain⟨v,hv,rfl⟩:=aas.1 hu;exact .inl hv
   .refine .inr ⟨t,Sj h3,h4,?_,ui.1 hr⟩;show(Tb.eA (l.map mw) c.fd).1.dS=_;rw[h6]
  .rename_i h1;exact absurd h h1
theorem KI.abG{k:Kr}(h:KI k){p:Nat}{x:bm}(hp:k.ps[p]? =some x)(b9:x.aP=true){c:Cl}(he:(mc k p c).2.fC=0):KI (mc k p c).1:=by
 have zE:aA k.ps p=x.aU:=by rw[aA,hp]
 have he:(ma (aA k.ps p) c).2.2=0:=he;have hx:=h.Sy (Sj hp);show KI (fq k p (ma (aA k.ps p) c).1 (ma (aA k.ps p) c).2.2);rw[fq,if_pos he];rw[zE]at he|-;obtain⟨h1,h2⟩:=DR hx.sl he;refine h.dz hp b9 h1 λs hs hh=>?_
 rcases h2 s hs hh with hs|⟨t,ht,hth,e,r⟩
 .exact hx.cap s hs hh
 .obtain⟨_,n,o,a1,a2,a3⟩:=hx.cap t ht hth;exact⟨r,n,o,e.trans a1,a2,a3⟩
theorem KI.name{k:Kr}(h:KI k){p:Nat}{c:Cl}(he:(kj k p c).2.fC=0):KI (kj k p c).1:=by
 have he:(iU k c (Kn.bp k p c.fd (sJ c))).2=0:=he;show KI (iU k c (Kn.bp k p c.fd (sJ c))).1;unfold iU at he|-;split at he
 .rename_i h1;exact absurd he h1
 rename_i h1;rw[if_neg h1];split at he
 .rename_i h2;exact absurd he h2.2
 rename_i h2;rw[if_neg h2];unfold od at he|-;split at he
 .rename_i h3;exact absurd he h3
 rename_i h3;rw[if_neg h3];split at he
 .cases he
 rename_i h4;rw[if_neg h4];split at he
 .rename_i h5;rw[if_pos h5];split at he
  .cases he
  rename_i h6;rw[if_neg h6];have he:(DI k (iS k (Kn.bp k p c.fd (sJ c)).2.1 c.cJ true false)).2.2=0:=he;show KI (bP k _ _);rw[bP,if_pos he];exact h.Gx he
 rename_i h5;rw[if_neg h5];split at he
 .cases he
 rename_i h6;rw[if_neg h6];split at he
 .rename_i h7;rw[if_pos h7];exact(h.GD (Ic _) he).1
 .rename_i h7;rw[if_neg h7];exact(h.GD Ow he).1
theorem KI.jR{k:Kr}(h:KI k){p:Nat}{x:bm}(hp:k.ps[p]? =some x)(b9:x.aP=true)(he:(jR k p).2.fC=0):KI (jR k p).1:=by
 unfold Kn.jR zS at he|-;split at he
 .rename_i h1;exact absurd he h1
 rename_i h1;rw[if_neg h1];obtain⟨g1,g2,g3⟩:=h.Uq (aaa h1);unfold uZ at he|-;split at he
 .rename_i h2;exact absurd he h2
 rename_i h2;rw[if_neg h2];have h2:=aaa h2;have o1:=g1.xR (p:=p) hp b9 g2 h2;split at he
 .rename_i h3;exact absurd he h3
 rename_i h3;rw[if_neg h3];have e:=uj h2;refine o1.xR (p:=p) (x:=⟨x.aP,x.fenced,x.code,(fY (aA k.ps p) (cX k.ops) 896).1⟩) (by rw[e.1];exact gy hp _) b9 (by rw[e.2.1];exact g3) (aaa h3)
theorem KI.kn{k:Kr}(h:KI k){p:Nat}{c:Cl}(he:(kn k p c).2.fC=0):KI (kn k p c).1:=by
 have key:∀r:List Obj×Int,(km k c r).2.fC=0->r.2=0:=λr hr=>by
  unfold km at hr;by_cases h1:r.2=0
  .exact h1
  .rw[if_pos h1]at hr;exact absurd hr h1
 have ib:∀(bo:Int)(m:dh),m.RY->(m.has=true->fL k m.dS m.cj)->(km k c (eZ k.l bo m)).2.fC=0->KI (km k c (eZ k.l bo m)).1:=λbo m ht hc hr=>by have h1:=key _ hr;show KI (bP k _ _);rw[bP,if_pos h1];exact h.send ht hc h1
 unfold Kn.kn zO at he|-;split at he
 .rename_i h1;exact absurd he h1
 rename_i h1;rw[if_neg h1];unfold xI at he|-;split at he
 .rename_i h2;rw[if_pos h2];split at he
  .rename_i h3;exact absurd he h3
  rename_i h3;rw[if_neg h3];obtain⟨i,s,_,a2,a3,a4,_⟩:=ng (aaa h3);refine ib _ _ ⟨c.data,rfl⟩ (λ_=>?_) he
  show fL k (fB (aA k.ps p) c.fI).1.1 (fB (aA k.ps p) c.fI).1.2;rw[a4];exact h.eD (Sj a2) a3
 .rename_i h2;rw[if_neg h2];exact ib _ _ ⟨c.data,rfl⟩ (λhh=>by cases hh) he
theorem KI.jl{k:Kr}(h:KI k){p:Nat}{x:bm}(hp:k.ps[p]? =some x)(b9:x.aP=true){c:Cl}(he:(jl k p c).2.fC=0):KI (jl k p c).1:=by
 unfold Kn.jl zR at he|-;split at he
 .rename_i h1;exact absurd he h1
 rename_i h1;rw[if_neg h1];unfold zQ at he|-;split at he
 .rename_i h2;exact absurd he h2
 rename_i h2;rw[if_neg h2];obtain⟨g1,g2⟩:=h.recv (aaa h2);have zE:aA k.ps p=x.aU:=by rw[aA,hp]
 split at he
 .rename_i h3;rw[if_pos h3];split at he
  .rename_i h4;exact absurd he h4
  rename_i h4;rw[if_neg h4];show KI (bP (fq k p _ 0) _ 0);rw[bP,if_pos rfl,fq,if_pos rfl];have h4:=aaa h4;rw[zE]at h4|-;obtain⟨a1,_,a3⟩:=nS h4;have hx:=h.Sy (Sj hp);refine g1.dz (p:=p) hp b9 (sK hx.sl) λs hs hh=>?_
  rcases a3 s hs with hs|rfl
  .exact g1.cap x (Sj hp) s hs hh
  .have hq:fL ⟨(fG k.l (Kn.bp k p c.fd 512).2.1).1,k.ops,k.ps⟩ (fG k.l (Kn.bp k p c.fd 512).2.1).2.1.dS (fG k.l (Kn.bp k p c.fd 512).2.1).2.1.cj:=by
    obtain⟨r,n,o,b1,b2,b3⟩:=g2 h3;refine⟨r,n,o,b1,b2,b3.mono λj y hy Oo=>?_⟩
    obtain⟨n',o',_,_,_,c2,c3,_,c5,_⟩:=rb (aaa h2);rw[c5];by_cases ej:j=n'
    .subst ej;rw[c2]at hy;cases hy;exact⟨_,SC (JJ.1 c2).1,Oo⟩
    .exact⟨y,by rw[Xg (λe=>ej e.symm)];exact hy,Oo⟩
   exact hq
 .rename_i h3;rw[if_neg h3];show KI (bP k _ 0);rw[bP,if_pos rfl];exact g1
theorem KI.XX{k:Kr}(h:KI k){p:Nat}{x:bm}(hp:k.ps[p]? =some x)(b9:x.aP=true){c:Cl}(he:(fc k p c).2.fC=0):KI (fc k p c).1:=by
 have ex:∀e:Kr×Int,(e.2=0->KI e.1)->KI (ko k e).1:=λe hE=>by
  unfold ko;split
  .rename_i h1;exact hE h1
  .exact h
 unfold fc at he|-;split at he
 .rename_i h1;rw[if_pos h1];exact h.fen p
 rename_i h1;rw[if_neg h1];split at he
 .rename_i h2;rw[if_pos h2];exact h
 rename_i h2;rw[if_neg h2];split at he
 .rename_i h3;rw[if_pos h3];unfold qj at he|-;split at he
  .rename_i h4;exact absurd he h4
  .rename_i h4;rw[if_neg h4];exact h.abE hp b9 (aaa h4)
 rename_i h3;rw[if_neg h3];split at he
 .rename_i h4;rw[if_pos h4];exact ex _ λe=>h.exit e
 .rename_i h4;rw[if_neg h4];generalize Kn.bp k p c.fd (if c.ag=20 then 2048 else 1024)=w
  unfold mB;split
  .exact h
  .unfold ue;split
   .exact h
   .split
    .split<;>exact h
    .exact ex _ λe=>h.exit e
theorem KI.op{k:Kr}(h:KI k){p:Nat}{x:bm}(hp:k.ps[p]? =some x)(b9:x.aP=true){c:Cl}(he:(fK k p c).2.fC=0):KI (fK k p c).1:=by
 unfold fK at he|-;split at he
 .rename_i a;rw[if_pos a];exact h.XW hp b9 he
 rename_i a;rw[if_neg a];split at he
 .rename_i a;rw[if_pos a];exact h.bytes he
 rename_i a;rw[if_neg a];split at he
 .rename_i a;rw[if_pos a];exact h.abG hp b9 he
 rename_i a;rw[if_neg a];split at he
 .rename_i a;rw[if_pos a];exact h
 rename_i a;rw[if_neg a];split at he
 .rename_i a;rw[if_pos a];exact h.name he
 rename_i a;rw[if_neg a];split at he
 .rename_i a;rw[if_pos a];exact h.jR hp b9 he
 rename_i a;rw[if_neg a];split at he
 .rename_i a;rw[if_pos a];exact h.kn he
 rename_i a;rw[if_neg a];split at he
 .rename_i a;rw[if_pos a];exact h.jl hp b9 he
 rename_i a;rw[if_neg a];exact h.XX hp b9 he
theorem KI.do_{k:Kr}(h:KI k)(prog:List dq)(c:Cl):KI (hC prog k c).1:=by
 unfold hC;split
 .exact h
 rename_i h1;have h1:fj k.ps c.bb=true:=by cases hx:fj k.ps c.bb with|true=>rfl|false=>exact absurd hx h1
 obtain⟨p,hc,hp,b9⟩:=oY h1;split
 .exact h
 split
 .exact h
 rw[hc,aae];unfold Po;split
 .exact h
 .rename_i he;exact(h.op (vl hp) b9 (aaa he)).Sx
theorem KI.abI{k:Kr}(h:KI k){p:Nat}(hp:p<k.ps.length)(b9:k.ps[p].aP=true)(c:Cl):Oh k p c:=by
 have hpx:=vl hp;refine⟨h.kw hp,λar ay=>⟨λhe=>?_,λhe=>?_⟩,⟨λhe=>(h.Uq he).1.kr,λhe ke=>?_⟩,h.pr,λhe=>(h.op hpx b9 he).kr⟩
 .rcases h.QT ar c.cJ ay true he with e|⟨j,y,e,hj,_⟩
  .rw[e];omega
  .have:=(JJ.1 hj).1;rw[e];omega
 .obtain⟨g1,⟨j,y,g2,g3,_⟩,g4⟩:=h.cq (h.QT ar c.cJ ay true) he;exact⟨g1.kr,by rw[g4];exact hp,j,g2,(JJ.1 g3).1⟩
 .obtain⟨g1,g2,_⟩:=h.Uq he;have:=g1.xR (p:=p) hpx b9 g2 ke;exact⟨this.kr,by rw[(uj ke).1,Kq];exact hp⟩
theorem Oy(prog:List dq)(k:Kr)(h:KI k)(c:Cl)(hd:c.data.length<=4194304){m:Mem}{K:CV->Mem->Prop}(hK:K (Vd (hC prog k c)) m):
  ap Tryz.prog 19 [sL prog,ez k.l k.ops k.ps,c.cv] m K:=
 XN prog k c (λ_ hp _ b9=>h.abI hp b9 c) hd hK
end Kn
def c45:LF:= ⟨9,[.tmp 4],(.seq (.ai [qu 4 (.aI (qb false))]) (.seq (.ai [qm 5 0,qm 6 1,qu 7 (qc 83 [5,6]),qu 8 (.aJ .geq 7 (qi 0)),qm 4 8]) .ret))⟩
def c46:LF:= ⟨9,[.tmp 3],(.seq (.ai [qu 2 (.box 0),qu 3 (.aI (qb false))]) (.seq (.ai [qf 4 0 2,ql 5 4,qf 6 0 1,ql 7 6,qu 8 (.aJ .eql 5 7),qm 3 8]) .ret))⟩
def c47:LF:= ⟨9,[.tmp 4],(.seq (.ai [qu 4 (.aI (qb false))]) (.seq (.ai [qm 5 0,qm 6 1,qu 7 (qc 84 [5,6]),qu 8 (.aJ .geq 7 (qi 0)),qm 4 8]) .ret))⟩
def c48:LF:= ⟨21,[.tmp 2],(.seq (.ai [qu 1 (.box 0),qu 2 (.aI (qb false))]) (.seq (.ai [qf 3 0 1,ql 4 3,qu 5 (.aJ .lss 4 (qi 1)),qm 6 5,qg 7 (.bU 0 1) 6 false,qg 8 (.load false 1 7) 6 false,qg 9 (.aJ .geq 8 (qi 6)) 6 false,qu 10 (.pick 6 (qb true) 9),qm 11 10,qg 12 (.bU 1 1) 11 false,qg 13 (.load false 1 12) 11 false,qg 14 (.aJ .lss 13 (qi 1)) 11 false,qu 15 (.pick 11 (qb true) 14),qm 16 15,qg 17 (.bU 1 1) 16 false,qg 18 (.load false 1 17) 16 false,qg 19 (.aJ .geq 18 (qi 2147483648)) 16 false,qu 20 (.pick 16 (qb true) 19),qm 2 20]) .ret))⟩
def c83:LF:= ⟨19,[.tmp 4],(.seq (.ai [qu 4 (.aI (qi 0))]) (.seq (.seq (.ai [qm 6 0,qu 7 (.len 1 6),qu 8 (.aI (qi 0))]) (.block 0 (.loop (.seq (.ai [qu 9 (.aJ .lss 8 7)]) (.seq (.cond 9 .skip (.exit 0)) (.seq (.block 1 (.seq (.ai [qm 10 8,qm 5 10]) (.seq (.ai [qm 11 1,qm 12 0,qm 13 5,qu 14 (.cr 2 12 13),qL 15 2 14,qu 16 (.call 11 [15])]) (.cond 16 (.seq (.ai [qm 17 5,qm 4 17]) .ret) .skip)))) (.ai [qu 18 (.aJ .add 8 (qi 1)),qm 8 18]))))))) (.seq (.ai [qu 4 (.aI (qi (-1)))]) .ret)))⟩
def c84:LF:= ⟨19,[.tmp 4],(.seq (.ai [qu 4 (.aI (qi 0))]) (.seq (.seq (.ai [qm 6 0,qu 7 (.len 1 6),qu 8 (.aI (qi 0))]) (.block 0 (.loop (.seq (.ai [qu 9 (.aJ .lss 8 7)]) (.seq (.cond 9 .skip (.exit 0)) (.seq (.block 1 (.seq (.ai [qm 10 8,qm 5 10]) (.seq (.ai [qm 11 1,qm 12 0,qm 13 5,qu 14 (.cr 2 12 13),qL 15 2 14,qu 16 (.call 11 [15])]) (.cond 16 (.seq (.ai [qm 17 5,qm 4 17]) .ret) .skip)))) (.ai [qu 18 (.aJ .add 8 (qi 1)),qm 8 18]))))))) (.seq (.ai [qu 4 (.aI (qi (-1)))]) .ret)))⟩
structure lv where
 w:Int
 bits:Int
def lv.enc(m:lv):List Dt:=[.val (.int .i64 m.w),.val (.int .i64 m.bits)]
def lv.cv(m:lv):CV:= .rv (.agg (m.enc.map .ah))
structure cR where
 call:Int
 bl:List lv
def cR.enc(p:cR):List Dt:=[.val (.int .i64 p.call),.sl 2 (p.bl.map lv.enc)]
def cR.cv(p:cR):CV:= .rv (.agg (p.enc.map .ah))
def Ig(l:List lv):CV:= .rv (.one (.ah (.sl 2 (l.map lv.enc))))
def dY(l:List cR):CV:= .rv (.one (.ah (.sl 2 (l.map cR.enc))))
def Oz:CV:= .rv (.one (.ptr 0 0))
theorem l45:bw prog f45=some c45:=by kernel_rfl
theorem l46:bw prog Tryz.f46=some c46:=by kernel_rfl
theorem l47:bw prog Tryz.f47=some c47:=by kernel_rfl
theorem l48:bw prog Tryz.f48=some c48:=by kernel_rfl
theorem l83:bw prog f83=some c83:=by kernel_rfl
theorem l84:bw prog f84=some c84:=by kernel_rfl
theorem DT(l:List cR)(hb:l.length<=4194304)(F:Nat)(cs:List Dt)(q:cR->Bool)(hF:∀s,s∈l->∀K:CV->Mem->Prop,K (aE (q s)) [.var (cs.map .ah)]->ap prog F [s.cv,Oz] [.var (cs.map .ah)] K):body prog c83 [dY l,(.rv (.one (.fn F [0])))] [.var (cs.map .ah)] (λr m=>r=an .i64 (ol q l)/\∃ex,m= .var (cs.map .ah)::ex):=by
 refine ba (λk=>k<=l.length/\∀(j:Nat)s,j<k->l[j]? =some s->q s=false) [0,1,7] (λk=>[(8,an .i64 (k:Nat))]) (λ_=>[.var (cs.map .ah)]) (λk=>l.length-k) 0 ⟨aan _,λj s h=>absurd h (aaR j)⟩ ?_ (λk hk=>?_)
 .refine View.o1 1 [0] [] ?_
  .exact .put (by simp[bx]) rfl (.l5 rfl) (.nil _)
 .refine aN (λh=>?_) (λh=>?_)
  .have aD:k<l.length:=by have h:(k:Int)<((l.map cR.enc).length:Int):=h;rw[Nr]at h;omega
   have hg:dC (l.map cR.enc) (k:Nat)=some (l[k].enc):=by rw[bD,Sf,vl aD];rfl
   refine af hg ?_;refine hF l[k] (aar aD) _ ?_;refine aM (λh=>?_) (λh=>?_)
   .rw[k7 aD h hk.2];exact⟨rfl,[],rfl⟩
   .refine⟨k+1,⟨aD,λj s hj hs=>?_⟩,(show l.length-(k+1)<l.length-k by omega),View.o 1 [0] [] ?_ ?_⟩
    .rcases aaf j k with h5|h5
     .exact hk.2 j s h5 hs
     .have:j=k:=om;subst this;rw[vl aD]at hs;cases hs;exact h
    .repeat(first|exact .nil|refine .aF ?_|refine .put (.bg (cP om).symm) ?_|refine .eq rfl ?_)
    .exact .put (by simp[bx]) rfl (.l5 rfl) (.nil _)
  .have ek:¬(k:Int)<((l.map cR.enc).length:Int):=h;rw[Nr]at ek;rw[mY λj s hs=>hk.2 j s (by have:=(JJ.1 hs).1;omega) hs]
   exact⟨rfl,[],rfl⟩
theorem Ks(l:List cR)(hb:l.length<=4194304)(F:Nat)(cs:List Dt)(q:cR->Bool)(hF:∀s,s∈l->∀K:CV->Mem->Prop,K (aE (q s)) [.var (cs.map .ah)]->ap prog F [s.cv,Oz] [.var (cs.map .ah)] K){K:CV->Mem->Prop}(h:K (an .i64 (ol q l)) [.var (cs.map .ah)]):ap prog 83 [dY l,(.rv (.one (.fn F [0])))] [.var (cs.map .ah)] K:=
 eQ rfl (aZ func83 l83 (DT l hb F cs q hF)) h
theorem Kt(l:List cR)(hb:l.length<=4194304)(F:Nat)(cs:List Dt)(q:cR->Bool)(hF:∀s,s∈l->∀K:CV->Mem->Prop,K (aE (q s)) [.var (cs.map .ah)]->ap prog F [s.cv,Oz] [.var (cs.map .ah)] K)(K:CV->Mem->Prop)(h:K (aE (l.any q)) [.var (cs.map .ah)]):ap prog 45 [dY l,(.rv (.one (.fn F [0])))] [.var (cs.map .ah)] K:=by
 refine eQ rfl (aZ func45 l45 (show body prog c45 [dY l,(.rv (.one (.fn F [0])))] [.var (cs.map .ah)] (λr m=>r=aE (l.any q)/\∃ex,m= .var (cs.map .ah)::ex)from ?_)) h
 refine Ks l hb F cs q hF ?_;rw[<-r9];exact⟨rfl,[],rfl⟩
theorem BH(l:List lv)(hb:l.length<=4194304)(F:Nat)(q:lv->Bool)(hF:∀s,s∈l->∀K:CV->Mem->Prop,K (aE (q s)) []->ap prog F [s.cv] [] K):body prog c84 [Ig l,(.rv (.one (.fn F [])))] [] (λr m=>r=an .i64 (ol q l)):=by
 refine ba (λk=>k<=l.length/\∀(j:Nat)s,j<k->l[j]? =some s->q s=false) [0,1,7] (λk=>[(8,an .i64 (k:Nat))]) (λ_=>[]) (λk=>l.length-k) 0 ⟨aan _,λj s h=>absurd h (aaR j)⟩ ?_ (λk hk=>?_)
 .refine View.o1 0 [] [] ?_
  .exact .nil _
 .refine aN (λh=>?_) (λh=>?_)
  .have aD:k<l.length:=by have h:(k:Int)<((l.map lv.enc).length:Int):=h;rw[Nr]at h;omega
   have hg:dC (l.map lv.enc) (k:Nat)=some (l[k].enc):=by rw[bD,Sf,vl aD];rfl
   refine af hg ?_;refine hF l[k] (aar aD) _ ?_;refine aM (λh=>?_) (λh=>?_)
   .rw[k7 aD h hk.2];exact rfl
   .refine⟨k+1,⟨aD,λj s hj hs=>?_⟩,(show l.length-(k+1)<l.length-k by omega),View.o 0 [] [] ?_ ?_⟩
    .rcases aaf j k with h5|h5
     .exact hk.2 j s h5 hs
     .have:j=k:=om;subst this;rw[vl aD]at hs;cases hs;exact h
    .repeat(first|exact .nil|refine .aF ?_|refine .put (.bg (cP om).symm) ?_|refine .eq rfl ?_)
    .exact .nil _
  .have ek:¬(k:Int)<((l.map lv.enc).length:Int):=h;rw[Nr]at ek;rw[mY λj s hs=>hk.2 j s (by have:=(JJ.1 hs).1;omega) hs]
   exact rfl
theorem GG(l:List lv)(hb:l.length<=4194304)(F:Nat)(q:lv->Bool)(hF:∀s,s∈l->∀K:CV->Mem->Prop,K (aE (q s)) []->ap prog F [s.cv] [] K){m:Mem}{K:CV->Mem->Prop}(h:K (an .i64 (ol q l)) m):ap prog 84 [Ig l,(.rv (.one (.fn F [])))] m K:=
 bA func84 l84 rfl (aah rfl) (BH l hb F q hF) rfl rfl h
theorem Ku(l:List lv)(hb:l.length<=4194304)(F:Nat)(q:lv->Bool)(hF:∀s,s∈l->∀K:CV->Mem->Prop,K (aE (q s)) []->ap prog F [s.cv] [] K){m:Mem}{K:CV->Mem->Prop}(h:K (aE (l.any q)) m):ap prog 47 [Ig l,(.rv (.one (.fn F [])))] m K:=by
 refine bA func47 l47 rfl (aah rfl) (show body prog c47 [Ig l,(.rv (.one (.fn F [])))] [] (λr m=>r=aE (l.any q))from ?_) rfl rfl h
 refine GG l hb F q hF ?_;rw[<-r9];exact rfl
def uk(m:lv):Bool:=decide (m.w<1)||decide (m.w>=6)||decide (m.bits<1)||decide (m.bits>=2147483648)
theorem XY(p s:cR)(K:CV->Mem->Prop)(h:K (aE (s.call==p.call)) [.var (p.enc.map .ah)]):ap prog 46 [s.cv,Oz] [.var (p.enc.map .ah)] K:=
 eQ rfl (aZ func46 l46 (show body prog c46 [s.cv,Oz] [.var (p.enc.map .ah)] (λr m=>r=aE (s.call==p.call)/\∃ex,m= .var (p.enc.map .ah)::ex)from⟨rfl,_,rfl⟩)) h
theorem Us(s:lv):body prog c48 [s.cv] [] (λr m=>r=aE (uk s)):=by
 refine aM (λh=>?_) (λh=>?_)
 .rw[uk,h];exact rfl
 refine aM (λh2=>?_) (λh2=>?_)
 .rw[uk,h,h2];exact rfl
 refine aM (λh3=>?_) (λh3=>?_)
 .rw[uk,h,h2,h3];exact rfl
 .rw[uk,h,h2,h3];exact rfl
theorem XZ(s:lv)(K:CV->Mem->Prop)(h:K (aE (uk s)) []):ap prog 48 [s.cv] [] K:=
 bA func48 l48 rfl (aah rfl) (Us s) rfl rfl h
def Q0(r:qk)(m:lv):Bool:=Oc (r.get m.w.toNat) m.bits !=0
def c22:LF:= ⟨46,[.cell true 2 2],(.seq (.ai [qu 2 (.alloc [qd 0,qd 0])]) (.seq (.seq (.ai [qm 5 0,qu 6 (.len 1 5),qu 7 (.aJ .gtr 6 (qi 30))]) (.cond 7 (.seq (.ai [qu 8 (.build [qd 0,qd 0] [(0,1,qi 5)]),qw (.store 2 2 8)]) .ret) .skip)) (.seq (.seq (.ai [qm 9 0,qu 10 (.len 1 9),qu 11 (.aI (qi 0))]) (.block 0 (.loop (.seq (.ai [qu 12 (.aJ .lss 11 10)]) (.seq (.cond 12 .skip (.exit 0)) (.seq (.block 1 (.seq (.ai [qm 13 11,qu 14 (.cr 2 9 11),qL 15 2 14,qu 4 (.alloc [qd 0,.aK]),qm 3 13,qw (.store 2 4 15)]) (.seq (.seq (.ai [qf 16 0 4,ql 17 16,qu 18 (.aJ .lss 17 (qi 0)),qm 19 18,qg 20 (.bU 0 4) 19 false,qg 21 (.load false 1 20) 19 false,qg 22 (.aJ .geq 21 (qi 2147483648)) 19 false,qu 23 (.pick 19 (qb true) 22)]) (.cond 23 (.seq (.ai [qm 24 3,qu 25 (.build [qd 0,qd 0] [(0,1,qi 3),(1,1,24)]),qw (.store 2 2 25)]) .ret) .skip)) (.seq (.seq (.ai [qm 26 0,qm 27 3,qu 28 (.nT 2 26 none (some 27) none),qu 29 (.fn 46 [4]),qu 30 (qc 45 [28,29])]) (.cond 30 (.seq (.ai [qm 31 3,qu 32 (.build [qd 0,qd 0] [(0,1,qi 7),(1,1,31)]),qw (.store 2 2 32)]) .ret) .skip)) (.seq (.seq (.ai [qf 33 1 4,ql 34 33,qu 35 (.len 1 34),qu 36 (.aJ .gtr 35 (qi 3))]) (.cond 36 (.seq (.ai [qm 37 3,qu 38 (.build [qd 0,qd 0] [(0,1,qi 5),(1,1,37)]),qw (.store 2 2 38)]) .ret) .skip)) (.seq (.ai [qf 39 1 4,ql 40 39,qu 41 (qc 47 [40,(.c (.rv (.one (.fn 48 []))))])]) (.cond 41 (.seq (.ai [qm 42 3,qu 43 (.build [qd 0,qd 0] [(0,1,qi 3),(1,1,42)]),qw (.store 2 2 43)]) .ret) .skip))))))) (.ai [qu 44 (.aJ .add 11 (qi 1)),qm 11 44]))))))) (.seq (.ai [qu 45 (.build [qd 0,qd 0] []),qw (.store 2 2 45)]) .ret))))⟩
def lw(pre:List cR)(p:cR):Int:=
 if p.call<0\/p.call>=2147483648 then 3 else if pre.any (λq=>q.call==p.call)=true then 7 else if p.bl.length>3 then 5 else if p.bl.any uk=true then 3 else 0
def iW(l:List cR)(k:Nat):Int:=match l[k]? with|some p=>lw (l.take k) p|none=>0
def ul(f:Nat->Int):Nat->Nat->Int×Int
 |0,_=>(0,0)
 |n+1,k=>if f k=0 then ul f n (k+1)else(f k,(k:Int))
theorem z7{f:Nat->Int}:∀(n k:Nat),(∀j,k<=j->j<k+n->f j=0)->ul f n k=(0,0)
 |0,_,_=>rfl
 |n+1,k,h=>by rw[ul,if_pos (h k (T5 k) om)];exact z7 n (k+1) λj h1 h2=>h j om om
theorem rc{f:Nat->Int}:∀(n k j:Nat),k<=j->j<k+n->(∀i,k<=i->i<j->f i=0)->f j≠0->ul f n k=(f j,(j:Int))
 |0,_,_,_,_,_,_=>om
 |n+1,k,j,h1,h2,h3,h4=>by
  rw[ul];rcases aaf k j with h|h
  .rw[if_pos (h3 k (T5 k) h)];exact rc n (k+1) j om om (λi a b=>h3 i om b) h4
  .have:k=j:=om;subst this;rw[if_neg h4]
def bT(l:List cR):Int×Int:=if l.length>30 then(5,0)else ul (iW l) l.length 0
theorem Kv{l:List cR}{k:Nat}(h0:¬l.length>30)(hk:k<l.length)(hg:∀j,j<k->iW l j=0){e:Int}(h:lw (l.take k) l[k]=e)(he:e≠0):BD (e,(k:Int))=BD (bT l):=by
 have hw:iW l k=e:=by rw[iW,vl hk];exact h
 rw[bT,if_neg h0,rc l.length 0 k om om (λi _ hi=>hg i hi) (by rw[hw];exact he),hw]
theorem GH{l:List cR}{k:Nat}(hk:k<l.length)(hg:∀j,j<k->iW l j=0)(h:lw (l.take k) l[k]=0):∀j,j<k+1->iW l j=0:=by
 intro j hj;rcases aaf j k with h1|h1
 .exact hg j h1
 .have:j=k:=om;subst this;rw[iW,vl hk];exact h
theorem l22:bw prog Tryz.f22=some c22:=by kernel_rfl
theorem GJ(l:List cR):body prog c22 [dY l] [] (λr m=>r=BD (bT l)):=by
 refine aN (λh=>?_) (λh0=>?_)
 .have h:l.length>30:=by have h:(((l.map cR.enc).length:Nat):Int)>30:=h;rw[Nr]at h;omega
  rw[bT,if_pos h];exact rfl
 have h0:¬l.length>30:=by have h:¬(((l.map cR.enc).length:Nat):Int)>30:=h0;rw[Nr]at h;omega
 refine ba (λk=>k<=l.length/\∀(j:Nat),j<k->iW l j=0) [0,2,9,10] (λk=>[(11,an .i64 (k:Nat))]) (λ_=>[.var [.ah (.val (.int .i64 0)),.ah (.val (.int .i64 0))]]) (λk=>l.length-k) 0 ⟨aan _,λj h=>absurd h (aaR j)⟩ ?_ (λk hk=>?_)
 .refine View.o1 1 [0] [] ?_
  .exact .put (by simp[bx]) rfl (.eq rfl aC) (.nil _)
 .refine aN (λh=>?_) (λh=>?_)
  .have aD:k<l.length:=by have h:(k:Int)<((l.map cR.enc).length:Int):=h;rw[Nr]at h;omega
   have bad:∀{e:Int},lw (l.take k) l[k]=e->e≠0->BD (e,(k:Int))=BD (bT l):=λa b=>Kv h0 aD hk.2 a b
   have X0:=GH aD hk.2;have hg:dC (l.map cR.enc) (k:Nat)=some [.val (.int .i64 l[k].call),.sl 2 (l[k].bl.map lv.enc)]:=by rw[bD,Sf,vl aD];rfl
   generalize l[k]=p at bad X0 hg;obtain⟨call,bl⟩:=p;refine af hg ?_;refine aN (λh=>?_) (λh1=>?_)
   .exact bad (by rw[lw,if_pos (.inl h)]) (by decide)
   refine aN (λh=>?_) (λh2=>?_)
   .exact bad (by rw[lw,if_pos (.inr h)]) (by decide)
   have n1:¬((⟨call,bl⟩:cR).call<0\/(⟨call,bl⟩:cR).call>=2147483648):=λh=>h.elim h1 h2
   have uL:∀{m:Mem}{K:CV->Mem->Prop},cD m 1=some (.var ((⟨call,bl⟩:cR).enc.map .ah))->K (aE ((l.take k).any λq=>q.call==(⟨call,bl⟩:cR).call)) m->ap prog 45 [.rv (.one (.ah (.sl 2 (((l.map cR.enc).take k).drop 0)))),.rv (.one (.fn 46 [1]))] m K:=by
    intro m K hm hK;have e:((l.map cR.enc).take k).drop 0=(l.take k).map cR.enc:=aC;rw[e];exact fo 1 hm rfl rfl (Kt (l.take k) (by simp;omega) 46 (⟨call,bl⟩:cR).enc (λq=>q.call==(⟨call,bl⟩:cR).call) λs _ K hs=>XY _ s K hs) hK
   refine cE (by simp[aaU];omega) ?_
   refine uL rfl ?_;refine aM (λh=>?_) (λh3=>?_)
   .exact bad (by rw[lw,if_neg n1,if_pos h]) (by decide)
   have n2:¬((l.take k).any λq=>q.call==(⟨call,bl⟩:cR).call)=true:=by rw[h3];simp
   refine aN (λh=>?_) (λh4=>?_)
   .have h:(⟨call,bl⟩:cR).bl.length>3:=by have h:(((bl.map lv.enc).length:Nat):Int)>3:=h;rw[Nr]at h;show bl.length>3;omega
    exact bad (by rw[lw,if_neg n1,if_neg n2,if_pos h]) (by decide)
   have n3:¬(⟨call,bl⟩:cR).bl.length>3:=by have h:¬(((bl.map lv.enc).length:Nat):Int)>3:=h4;rw[Nr]at h;show ¬bl.length>3;omega
   refine Ku bl (by have:¬bl.length>3:=n3;omega) 48 uk (λs _ K hs=>XZ s K hs) ?_
   refine aM (λh=>?_) (λh5=>?_)
   .exact bad (by rw[lw,if_neg n1,if_neg n2,if_neg n3,if_pos h]) (by decide)
   have n4:¬(⟨call,bl⟩:cR).bl.any uk=true:=by show ¬bl.any uk=true;rw[h5];simp
   refine⟨k+1,⟨aD,X0 (by rw[lw,if_neg n1,if_neg n2,if_neg n3,if_neg n4])⟩,(show l.length-(k+1)<l.length-k by omega),View.o2 2 [0] [] ?_⟩
   .exact .put (by simp[bx]) rfl (.eq rfl aC) (.nil _)
  .have ek:¬(k:Int)<((l.map cR.enc).length:Int):=h;rw[Nr]at ek;rw[bT,if_neg h0,z7 l.length 0 λj _ hj=>hk.2 j om]
   exact rfl
theorem OA(l:List cR){m:Mem}{K:CV->Mem->Prop}(h:K (BD (bT l)) m):ap prog 22 [dY l] m K:=
 bA func22 l22 rfl (aah rfl) (GJ l) rfl rfl h
def rd(l:List cR)(r:qk):Bool:=match l.find? (λp=>p.call==r.r0)with|some p=>!p.bl.any (Q0 r)|none=>false
def me:List lv->List dq
 | []=>[⟨6,0,0,1⟩,⟨6,0,0,0⟩]
 |m::r=>⟨1,0,0,m.w⟩:: ⟨4,((2*r.length+1:Nat):Int),0,m.bits⟩::me r
def dZ(p:cR):List dq:=⟨2,0,((2*p.bl.length+1:Nat):Int),p.call⟩::me p.bl
def yH(l:List cR):Int:=match l[l.length/2]? with|some p=>p.call|none=>0
def dd:Nat->List cR->List dq
 |0,_=>[⟨6,0,0,0⟩]
 |_+1,[]=>[⟨6,0,0,0⟩]
 |_+1,[p]=>dZ p
 |n+1,p::q::r=>⟨3,0,1,yH (p::q::r)⟩:: ⟨5,0,0,(dd n ((p::q::r).take ((p::q::r).length/2))).length⟩::
   (dd n ((p::q::r).take ((p::q::r).length/2))++dd n ((p::q::r).drop ((p::q::r).length/2)))
theorem nh{n:Nat}{l:List cR}(h:2<=l.length):dd (n+1) l=⟨3,0,1,yH l⟩:: ⟨5,0,0,(dd n (l.take (l.length/2))).length⟩::(dd n (l.take (l.length/2))++dd n (l.drop (l.length/2))):=by
 match l,h with
 |p::q::r,_=>rfl
theorem Kw(n:Nat)(p:cR):dd (n+1) [p]=dZ p:=rfl
theorem iz:∀ms:List lv,(me ms).length=2*ms.length+2
 | []=>rfl
 |m::r=>by simp[me,iz r];omega
theorem lA:∀ms:List lv,(me ms)[2*ms.length+1]? =some ⟨6,0,0,0⟩
 | []=>rfl
 |m::r=>by
  have:=lA r;rw[aaj,show 2*(r.length+1)+1=2*r.length+1+1+1 by omega]
  simpa[me]using this
def At(P:List dq)(a:Nat)(c:List dq):Prop:=∀(j:Nat)i,c[j]? =some i->P[a+j]? =some i
theorem At.head{P:List dq}{a:Nat}{x:dq}{c:List dq}(h:At P a (x::c)):P[a]? =some x:=h 0 x rfl
theorem At.tail{P:List dq}{a:Nat}{x:dq}{c:List dq}(h:At P a (x::c)):At P (a+1) c:=λj i hi=>by
 have:=h (j+1) i (by simpa using hi)
 rwa [show a+(j+1)=a+1+j by omega]at this
theorem At.left{P:List dq}{a:Nat}{c d:List dq}(h:At P a (c++d)):At P a c:=λj i hi=>h j i (by rw[YN (JJ.1 hi).1];exact hi)
theorem At.right{P:List dq}{a:Nat}{c d:List dq}(h:At P a (c++d)):At P (a+c.length) d:=λj i hi=>by
 have:=h (c.length+j) i (by rw[Xi om];simpa using hi)
 rwa [show a+(c.length+j)=a+c.length+j by omega]at this
theorem z8{P:List dq}{r:qk}:∀(ms:List lv)(a:Nat)(c6:Int),At P a (me ms)->(gF P r a c6).1=if ms.any (Q0 r)then 0 else 1
 | [],a,c6,h=>by rw[kT h.head rfl];rfl
 |m::q,a,c6,h=>by
  have h2:=h.tail;rw[fk h.head aC (d:=1) (acc2:=r.get m.w.toNat) rfl];have hn:=Of (2*q.length+1) 0 m.bits (r.get m.w.toNat) r;by_cases hh:Oc (r.get m.w.toNat) m.bits=0
  .rw[fk h2.head aC (hn.2 hh)];have hm:Q0 r m=false:=by simp[Q0,hh]
   have ih:=z8 (P:=P) (r:=r) q (a+1+1) (r.get m.w.toNat) h2.tail;simp only[List.any_cons,hm,acw];exact ih
  .rw[fk h2.head aC (hn.1 hh)];have hm:Q0 r m=true:=by simp[Q0,hh]
   have h3:=h2.tail _ _ (lA q);rw[show a+1+(1+(2*q.length+1))=a+1+1+(2*q.length+1) by omega,kT h3 rfl]
   simp[hm]
theorem OB{P:List dq}{r:qk}{p:cR}{a:Nat}{c6:Int}(h:At P a (dZ p)):(gF P r a c6).1=if(p.call==c6&& !p.bl.any (Q0 r))then 1 else 0:=by
 have hn:=Od 0 (2*p.bl.length+1) p.call c6 r;by_cases hc:c6=p.call
 .rw[fk h.head aC (hn.1 hc)];have:=z8 (r:=r) p.bl (a+1) c6 h.tail;show(gF P r (a+1) c6).1=_;rw[this];subst hc;cases p.bl.any (Q0 r)<;>simp
 .rw[fk h.head aC (hn.2 hc)];have h3:=h.tail _ _ (lA p.bl);rw[show a+(1+(2*p.bl.length+1))=a+1+(2*p.bl.length+1) by omega,kT h3 rfl]
  have:(p.call==c6)=false:=by rw[beq_eq_false_iff_ne];exact λe=>hc e.symm
  simp[this]
def ni(l:List cR)(r:qk)(c6:Int):Bool:=l.any λp=>p.call==c6&& !p.bl.any (Q0 r)
def fR(l:List cR):Prop:=l.Pairwise λa b=>a.call<b.call
theorem fR.lo{l:List cR}(h:fR l){k:Nat}{q:cR}(hk:l[k]? =some q):∀p,p∈l.take k->p.call<q.call:=by
 intro p hp;obtain⟨i,hi⟩:=X1 hp;rw[aaF]at hi;split at hi
 .rename_i Xh;obtain⟨h1,rfl⟩:=JJ.1 hi;obtain⟨h2,rfl⟩:=JJ.1 hk;exact ab4.1 h i k h1 h2 Xh
 .cases hi
theorem fR.hi{l:List cR}(h:fR l){k:Nat}{q:cR}(hk:l[k]? =some q):∀p,p∈l.drop k->q.call<=p.call:=by
 intro p hp;obtain⟨i,hi⟩:=X1 hp;rw[aaX]at hi;obtain⟨h1,rfl⟩:=JJ.1 hi;obtain⟨h2,rfl⟩:=JJ.1 hk;cases i with
 |zero=>exact acN _
 |succ i=>exact Int.le_of_lt (ab4.1 h k (k+(i+1)) h2 h1 om)
theorem um{l:List cR}{r:qk}{c6:Int}(h:∀p,p∈l->p.call≠c6):ni l r c6=false:=by rw[ni,List.any_eq_false];intro p hp;simp[h p hp]
theorem DU(l:List cR)(k:Nat)(r:qk)(c6:Int):ni l r c6=(ni (l.take k) r c6||ni (l.drop k) r c6):=by rw[ni,ni,ni,<-List.any_append,acH]
theorem xT{P:List dq}{r:qk}:∀(n:Nat)(l:List cR)(a:Nat)(c6:Int),l.length<=n->fR l->At P a (dd n l)->(gF P r a c6).1=if ni l r c6 then 1 else 0
 |0,l,a,c6,hl,_,h=>by have:l=[]:=aai om;subst this;rw[kT (At.head (x:=⟨6,0,0,0⟩) (c:=[]) h) rfl];rfl
 |n+1,l,a,c6,hl,hs,h=>by
  rcases aaf l.length 2 with h2|h2
  .match l,h2 with
   | [],_=>rw[kT (At.head (x:=⟨6,0,0,0⟩) (c:=[]) h) rfl];rfl
   | [p],_=>
    rw[OB (p:=p) h];simp[ni]
  .rw[nh h2]at h;have hk:l.length/2<l.length:=om;have hm:l[l.length/2]? =some l[l.length/2]:=vl hk;have sf:yH l=(l[l.length/2]).call:=by rw[yH,hm]
   have ia:=hs.lo hm;have ye:=hs.hi hm;rw[<-sf]at ia ye;have hn:=Oe 0 1 (yH l) c6 r;by_cases hc:c6>=yH l
   .rw[fk h.head aC (hn.1 hc)];show(gF P r (a+1) c6).1=_;rw[fk h.tail.head aC (d:=1+(dd n (l.take (l.length/2))).length) (acc2:=c6) (by simp[sY])]
    have ih:=xT (P:=P) (r:=r) n (l.drop (l.length/2)) (a+1+1+(dd n (l.take (l.length/2))).length) c6 (by rw[abB];omega) (hs.sublist (List.drop_sublist _ _)) h.tail.tail.right
    rw[<-aaW (a+1)];show(gF P r (a+1+1+(dd n (l.take (l.length/2))).length) c6).1=_;rw[ih,DU l (l.length/2),um (l:=l.take (l.length/2)) (λp hp=>by have:=ia p hp;omega),acw]
   .rw[fk h.head aC (hn.2 hc)];have ih:=xT (P:=P) (r:=r) n (l.take (l.length/2)) (a+1+1) c6 (by rw[aav];omega) (hs.sublist (List.take_sublist _ _)) h.tail.tail.left
    show(gF P r (a+1+1) c6).1=_;rw[ih,DU l (l.length/2),um (l:=l.drop (l.length/2)) (λp hp=>by have:=ye p hp;omega),Bool.or_false]
def xU(c:List dq)(a:Nat)(s:Int):Prop:=∀(j:Nat)i,c[j]? =some i->iG i ((a+j:Nat):Int) s=0
theorem xU.cons{x:dq}{c:List dq}{a:Nat}{s:Int}(hx:iG x (a:Int) s=0)(h:xU c (a+1) s):xU (x::c) a s:=λj i hi=>by
 cases j with
 |zero=>simp at hi;subst hi;exact hx
 |succ j=>
  have:=h j i (by simpa using hi)
  rwa [show a+1+j=a+(j+1) by omega]at this
theorem xU.append{c d:List dq}{a:Nat}{s:Int}(h1:xU c a s)(h2:xU d (a+c.length) s):xU (c++d) a s:=λj i hi=>by
 rcases aaf j c.length with h|h
 .rw[YN h]at hi;exact h1 j i hi
 .rw[Xi h]at hi;have:=h2 (j-c.length) i hi;rwa [show a+c.length+(j-c.length)=a+j by omega]at this
def SA(m:lv):Prop:=1<=m.w/\m.w<6/\1<=m.bits/\m.bits<2147483648
def Aa(p:cR):Prop:=0<=p.call/\p.call<2147483648/\p.bl.length<=3/\∀m,m∈p.bl->SA m
theorem DV:∀(ms:List lv)(a s:Nat),ms.length<=3->(∀m,m∈ms->SA m)->a+(me ms).length<=s->xU (me ms) a s
 | [],a,s,_,_,h=>.cons (by rw[xN];simp) (.cons (by rw[xN];simp) λj i hi=>by simp at hi)
 |m::r,a,s,h1,h2,h=>by
  obtain⟨g1,g2,g3,g4⟩:=h2 m aC;rw[iz,aaj]at h;rw[aaj]at h1;refine .cons ?_ (.cons ?_ (DV r (a+1+1) s om (λx hx=>h2 x (by simp[hx])) (by rw[iz];omega)))
  .rw[Gw,if_neg om];simp
  .rw[uf _ _ _ _ _ _ om,if_neg om]
theorem OC{p:cR}(hp:Aa p){a s:Nat}(h:a+(dZ p).length<=s):xU (dZ p) a s:=by
 obtain⟨g1,g2,g3,g4⟩:=hp;have hl:(dZ p).length=2*p.bl.length+3:=by simp[dZ,iz]
 rw[hl]at h;refine .cons ?_ (DV p.bl (a+1) s g3 g4 (by rw[iz];omega))
 rw[uf _ _ _ _ _ _ om,if_neg om]
theorem uo:∀(n:Nat)(l:List cR),1<=(dd n l).length/\∃i,(dd n l)[(dd n l).length-1]? =some i/\i.op=6
 |0,l=>⟨by simp[dd],_,rfl,rfl⟩
 |n+1,l=>by
  rcases aaf l.length 2 with h2|h2
  .match l,h2 with
   | [],_=>exact⟨by simp[dd],_,rfl,rfl⟩
   | [p],_=>
    refine⟨by simp[dd,dZ],⟨6,0,0,0⟩,?_,rfl⟩
    have:=lA p.bl;rw[Kw,dZ,aaj,iz,show 2*p.bl.length+2+1-1=2*p.bl.length+1+1 by omega,abC]
    exact this
  .rw[nh h2];obtain⟨h1,i,h3,h4⟩:=uo n (l.drop (l.length/2));refine⟨aC,i,?_,h4⟩;simp only[aaj,aaL];rw[show(dd n (l.take (l.length/2))).length+(dd n (l.drop (l.length/2))).length+1+1-1=(dd n (l.take (l.length/2))).length+((dd n (l.drop (l.length/2))).length-1)+1+1 by omega,
    abC,abC,Xi om]
   rw[<-h3];congr 1;omega
theorem pK:∀(n:Nat)(l:List cR),(∀p,p∈l->p.bl.length<=3)->l.length<=n->(l=[]->(dd n l).length=1)/\(l≠[]->(dd n l).length+2<=11*l.length)
 |0,l,_,hl=>by have:l=[]:=aai om;subst this;simp[dd]
 |n+1,l,h,hl=>by
  rcases aaf l.length 2 with h2|h2
  .match l,h2 with
   | [],_=>simp[dd]
   | [p],_=>
    have:=h p aC;simp[dd,dZ,iz];omega
  .refine⟨λe=>by subst e;simp at h2,λ_=>?_⟩
   have i1:=(pK n (l.take (l.length/2)) (λp hp=>h p (aaY hp)) (by rw[aav];omega)).2 (λe=>by have:=congrArg List.length e;rw[aav,aa9]at this;omega)
   have i2:=(pK n (l.drop (l.length/2)) (λp hp=>h p (aci hp)) (by rw[abB];omega)).2 (λe=>by have:=congrArg List.length e;rw[abB,aa9]at this;omega)
   rw[nh h2];simp only[aaj,aaL];rw[aav]at i1;rw[abB]at i2;omega
theorem xV:∀(n:Nat)(l:List cR)(a s:Nat),(∀p,p∈l->Aa p)->l.length<=n->a+(dd n l).length<=s->xU (dd n l) a s
 |0,l,a,s,_,_,_=>.cons (by rw[xN];simp) λj i hi=>by simp at hi
 |n+1,l,a,s,hg,hl,h=>by
  rcases aaf l.length 2 with h2|h2
  .match l,h2 with
   | [],_=>exact .cons (by rw[xN];simp) λj i hi=>by simp at hi
   | [p],_=>exact OC (hg p aC) h
  .rw[nh h2]at h|-;have hk:l.length/2<l.length:=om;have hm:l[l.length/2]? =some l[l.length/2]:=vl hk;have sf:yH l=(l[l.length/2]).call:=by rw[yH,hm]
   have VO:=hg _ (aar hk);have hp:=(uo n (l.drop (l.length/2))).1;simp only[aaj,aaL]at h;refine .cons ?_ (.cons ?_ (.append (xV n _ _ s (λp hp=>hg p (aaY hp)) (by rw[aav];omega) om) (xV n _ _ s (λp hp=>hg p (aci hp)) (by rw[abB];omega) om)))
   .rw[uf _ _ _ _ _ _ om,sf,if_neg (by have:=VO.1;have:=VO.2.1;omega)]
   .rw[Oa _ _ _ _ _ om,if_neg om];simp
def cS(l:List cR):List dq:=⟨1,0,0,0⟩::dd l.length l
theorem GK{l:List cR}(hg:∀p,p∈l->Aa p)(hl:l.length<=30):j7 (cS l)=(0,0):=by
 have h1:=uo l.length l;have h2:=pK l.length l (λp hp=>(hg p hp).2.2.1) (T5 _)
 have hlen:(cS l).length=(dd l.length l).length+1:=by simp[cS]
 have h3:(dd l.length l).length<=330:=by
  by_cases e:l=[]
  .have:=h2.1 e;omega
  .have:=h2.2 e;omega
 have fl:xU (cS l) 0 ((cS l).length:Nat):=by refine .cons ?_ (xV l.length l 1 (cS l).length hg (T5 _) om);rw[Gw];simp
 obtain⟨h4,i,h5,h6⟩:=h1;have hc:=BE (cS l).length (cS l) 0 fl;have l8:(cS l)[(cS l).length-1]? =some i:=by
  rw[hlen,show(dd l.length l).length+1-1=(dd l.length l).length-1+1 by omega]
  exact h5
 rw[j7,if_neg om,hc,if_neg aC,l8];simp only;rw[if_pos h6]
theorem OD{l:List cR}(r:qk)(hg:∀p,p∈l->Aa p)(hl:l.length<=30)(hs:fR l):(ug (cS l) r).1=if ni l r r.r0 then 1 else 0:=by
 rw[ug,GK hg hl,if_pos rfl];have hA:At (cS l) 0 (cS l):=λj i hi=>by simpa using hi
 rw[fk hA.head (by decide) (d:=1) (acc2:=r.r0) rfl]
 have:=xT (P:=cS l) (r:=r) l.length l 1 r.r0 (T5 _) hs hA.tail;exact this
theorem Kx{l l':List cR}(h:l'.Perm l)(r:qk)(c6:Int):ni l' r c6=ni l r c6:=by
 rw[ac9,ni,ni,aaT,aaT];constructor
 .rintro⟨p,hp,h2⟩;exact⟨p,h.mem_iff.1 hp,h2⟩
 .rintro⟨p,hp,h2⟩;exact⟨p,h.mem_iff.2 hp,h2⟩
def nj(l:List cR):Prop:=l.Pairwise λa b=>a.call≠b.call
theorem Kz{l:List cR}(h:nj l)(r:qk):rd l r=ni l r r.r0:=by
 induction l with
 |nil=>rfl
 |cons p q ih=>
  obtain⟨h1,h2⟩:=acs.1 h;have ih:=ih h2;rw[ni,List.any_cons];by_cases hc:p.call=r.r0
  .have hb:(p.call==r.r0)=true:=by simp[hc]
   have hq:ni q r r.r0=false:=um λx hx e=>h1 x hx (hc.trans e.symm)
   rw[ni]at hq;rw[hq,rd,List.find?_cons,hb];simp
  .have hb:(p.call==r.r0)=false:=by simpa using hc
   have e:rd (p::q) r=rd q r:=by rw[rd,rd,List.find?_cons,hb]
   rw[e,ih,hb,ni];simp
theorem yI{l l':List cR}(h:l'.Perm l)(hd:nj l):nj l':=(h.pairwise_iff (λh=>Ne.symm h)).2 hd
theorem u4{l:List cR}(h:(bT l).1=0):l.length<=30/\(∀p,p∈l->Aa p)/\nj l:=by
 unfold bT at h;split at h
 .simp at h
 .rename_i h0;have fN:∀j,j<l.length->iW l j=0:=by
   intro j
   induction j using Nat.strongRecOn with
   |_ j ih=>
    intro hj;by_cases hw:iW l j=0
    .exact hw
    .rw[rc l.length 0 j om om (λi _ hi=>ih i hi om) hw]at h
     exact absurd h hw
  have fact:∀(j:Nat)p,l[j]? =some p->Aa p/\∀q,q∈l.take j->q.call≠p.call:=by
   intro j p hj;have hw:=fN j (JJ.1 hj).1;rw[iW,hj]at hw;simp only[lw]at hw;split at hw
   .simp at hw
   .rename_i c1;split at hw
    .simp at hw
    .rename_i c2;split at hw
     .simp at hw
     .rename_i c3;split at hw
      .simp at hw
      .rename_i c4;refine⟨⟨om,om,om,λm hm=>?_⟩,λq hq e=>?_⟩
       .have c4:p.bl.any uk=false:=by simpa using c4
        rw[List.any_eq_false]at c4;have hb:uk m=false:=by simpa using c4 m hm
        simp only[uk,Bool.or_eq_false_iff,decide_eq_false_iff_not]at hb;refine⟨om,om,om,om⟩
       .refine c2 (aaT.2 ⟨q,hq,by simp[e]⟩)
  refine⟨om,λp hp=>?_,?_⟩
  .obtain⟨j,hj⟩:=X1 hp;exact(fact j p hj).1
  .rw[nj,ab4];intro i j hi hj pN;refine(fact j l[j] (vl hj)).2 l[i] ?_;exact Sj (i:=i) (by rw[aaF,if_pos pN,vl hi])
theorem KA{l:List cR}(h:l.Pairwise λa b=>¬b.call<a.call)(hd:nj l):fR l:=by have:=List.Pairwise.and h hd;exact this.imp λ⟨a,b⟩=>om
def c27:LF:= ⟨45,[.tmp 2],(.seq (.ai [qu 2 (.aI qe)]) (.seq (.seq (.ai [qm 7 0,qu 8 (.len 1 7)]) (.block 0 (.seq (.ai [qu 10 (.aJ .eql 8 (qi 0)),qm 9 10]) (.cond 9 (.seq (.ai [qu 11 (.build [qd 0,qd 0,qd 0,qd 0] [(0,1,qi 6),(3,1,qi 0)]),qu 12 (.nw 4 [qd 0,qd 0,qd 0,qd 0] 1 [(0,11)]),qm 2 12]) .ret) (.seq (.ai [qu 14 (.aJ .eql 8 (qi 1)),qm 13 14]) (.cond 13 (.seq (.ai [qm 15 0,qu 16 (.cr 2 15 (qi 0)),qL 17 2 16,qu 18 (qc 52 [17]),qm 2 18]) .ret) .skip)))))) (.seq (.ai [qm 19 0,qu 20 (.len 1 19),qu 21 (.aJ .quo 20 (qi 2)),qm 3 21]) (.cU (.seq (.bR [qm 22 0,qm 23 3,qu 24 (.nT 2 22 none (some 23) none),qu 25 (qc 27 [24]),qm 26 0,qm 27 3,qu 28 (.nT 2 26 (some 27) none none),qu 29 (qc 27 [28]),qm 4 25,qm 5 29] [(eh 3 0 (eh 3 4 (.cons 3 (some [6]) (.cons 7 (some []) (.cons 8 none (.cons 9 none .nil))))))]) (.seq (.ai [qm 30 0,qm 31 3,qu 32 (.cr 2 30 31),qf 33 0 32,ql 34 33,qu 35 (.build [qd 0,qd 0,qd 0,qd 0] [(0,1,qi 3),(1,1,qi 0),(2,1,qi 1),(3,1,34)]),qm 36 4,qu 37 (.len 1 36),qu 38 (.build [qd 0,qd 0,qd 0,qd 0] [(0,1,qi 5),(3,1,37)]),qu 39 (.nw 4 [qd 0,qd 0,qd 0,qd 0] 2 [(0,35),(1,38)]),qm 6 39]) (.seq (.ai [qm 40 6,qm 41 4,qu 42 (.ov 4 32 40 41),qm 43 5,qu 44 (.ov 4 32 42 43),qm 2 44]) .ret)))))))⟩
def c52:LF:= ⟨50,[.tmp 2],(.seq (.ai [qu 1 (.box 0),qu 2 (.aI qe)]) (.seq (.ai [qf 8 1 1,ql 9 8,qu 10 (.len 1 9),qu 11 (.aJ .mul (qi 2) 10),qu 12 (.aJ .add 11 (qi 1)),qm 3 12]) (.seq (.ai [qm 13 3,qf 14 0 1,ql 15 14,qu 16 (.build [qd 0,qd 0,qd 0,qd 0] [(0,1,qi 2),(1,1,qi 0),(2,1,13),(3,1,15)]),qu 17 (.nw 4 [qd 0,qd 0,qd 0,qd 0] 1 [(0,16)]),qm 4 17]) (.seq (.seq (.ai [qf 18 1 1,ql 19 18,qu 20 (.len 1 19),qu 21 (.aI (qi 0))]) (.block 0 (.loop (.seq (.ai [qu 22 (.aJ .lss 21 20)]) (.seq (.cond 22 .skip (.exit 0)) (.seq (.block 1 (.seq (.ai [qm 23 21,qu 24 (.cr 2 19 21),qL 25 2 24,qu 6 (.alloc [qd 0,qd 0]),qm 5 23,qw (.store 2 6 25)]) (.seq (.ai [qf 26 1 1,ql 27 26,qu 28 (.len 1 27),qm 29 5,qu 30 (.aJ .sub 28 29),qu 31 (.aJ .sub 30 (qi 1)),qu 32 (.aJ .mul (qi 2) 31),qu 33 (.aJ .add 32 (qi 1)),qm 7 33]) (.ai [qm 34 4,qf 35 0 6,ql 36 35,qu 37 (.build [qd 0,qd 0,qd 0,qd 0] [(0,1,qi 1),(3,1,36)]),qm 38 7,qf 39 1 6,ql 40 39,qu 41 (.build [qd 0,qd 0,qd 0,qd 0] [(0,1,qi 4),(1,1,38),(2,1,qi 0),(3,1,40)]),qu 42 (.nw 4 [qd 0,qd 0,qd 0,qd 0] 2 [(0,37),(1,41)]),qu 43 (.ov 4 32 34 42),qm 4 43])))) (.ai [qu 44 (.aJ .add 21 (qi 1)),qm 21 44]))))))) (.seq (.ai [qm 45 4,qu 46 (.build [qd 0,qd 0,qd 0,qd 0] [(0,1,qi 6),(3,1,qi 1)]),qu 47 (.build [qd 0,qd 0,qd 0,qd 0] [(0,1,qi 6),(3,1,qi 0)]),qu 48 (.nw 4 [qd 0,qd 0,qd 0,qd 0] 2 [(0,46),(1,47)]),qu 49 (.ov 4 32 45 48),qm 2 49]) .ret)))))⟩
theorem qn(a b:List (List Dt)):aa (a++b)=aa a++aa b:=by simp[aa]
theorem l52:bw prog f52=some c52:=by kernel_rfl
theorem l27:bw prog Tryz.f27=some c27.er:=by kernel_rfl
theorem DW:∀(ms:List lv)(k:Nat)(m:lv),ms[k]? =some m->(me ms)[2*k]? =some ⟨1,0,0,m.w⟩/\(me ms)[2*k+1]? =some ⟨4,((2*(ms.length-k-1)+1:Nat):Int),0,m.bits⟩
 | [],k,m,h=>by simp at h
 |x::r,0,m,h=>by
  simp at h;subst h;refine⟨rfl,?_⟩;show some _=some _;rw[aaj,show r.length+1-0-1=r.length by omega]
 |x::r,k+1,m,h=>by
  have:=DW r k m (by simpa using h)
  rw[show 2*(k+1)=2*k+1+1 by omega,aaj,show r.length+1-(k+1)-1=r.length-k-1 by omega]
  simpa[me]using this
theorem Ab:∀ms:List lv,(me ms)[2*ms.length]? =some ⟨6,0,0,1⟩
 | []=>rfl
 |m::r=>by
  have:=Ab r;rw[aaj,show 2*(r.length+1)=2*r.length+1+1 by omega]
  simpa[me]using this
theorem KB{p:cR}{k:Nat}{m:lv}(h:p.bl[k]? =some m):(dZ p).take (2*(k+1)+1)=(dZ p).take (2*k+1)++ [⟨1,0,0,m.w⟩,⟨4,((2*(p.bl.length-k-1)+1:Nat):Int),0,m.bits⟩]:=by
 obtain⟨h1,h2⟩:=DW p.bl k m h;have e1:(dZ p)[2*k+1]? =some ⟨1,0,0,m.w⟩:=by simpa[dZ]using h1
 have e2:(dZ p)[2*k+1+1]? =some ⟨4,((2*(p.bl.length-k-1)+1:Nat):Int),0,m.bits⟩:=by simpa[dZ]using h2
 rw[show 2*(k+1)+1=2*k+1+1+1 by omega,abQ,e2,abQ,e1]
 simp
theorem OF(p:cR):dZ p=(dZ p).take (2*p.bl.length+1)++ [⟨6,0,0,1⟩,⟨6,0,0,0⟩]:=by
 have h1:=Ab p.bl;have h2:=lA p.bl;have e1:(dZ p)[2*p.bl.length+1]? =some ⟨6,0,0,1⟩:=by simpa[dZ]using h1
 have e2:(dZ p)[2*p.bl.length+1+1]? =some ⟨6,0,0,0⟩:=by simpa[dZ]using h2
 have hl:(dZ p).length=2*p.bl.length+1+1+1:=by simp[dZ,iz]
 have h3:(dZ p).take (2*p.bl.length+1+1+1)=dZ p:=ab1 om;rw[abQ,e2,abQ,e1,acy]at h3;exact h3.symm
theorem GL(p:cR)(hm:p.bl.length<=1000):body prog c52 [p.cv] [] (λr m=>cL m r (sL (dZ p))):=by
 have hn:IntKind.i64.wrap (IntKind.i64.wrap (2*(((p.bl.map lv.enc).length:Nat):Int))+1)=((2*p.bl.length+1:Nat):Int):=by rw[Nr,ip (n:=2*(p.bl.length:Int)) om om,ip om om];omega
 refine ba (λk=>k<=p.bl.length) [1,19] (λk=>[(4,.rv (.one (.row 1 4 0 none))),(20,an .i64 (p.bl.length:Nat)),(21,an .i64 (k:Nat))]) (λk=>[.var (p.enc.map .ah),.row 4 (aa (((dZ p).take (2*k+1)).map dq.enc))])
  (λk=>p.bl.length-k) 0 (aan _) ?_ (λk hk=>?_)
 .refine View.o 2 [0,1] [] ?_ ?_
  .repeat(first|exact .nil|refine .aF ?_|refine .eq rfl ?_|refine .put (.bg (by rw[Nr];rfl)) ?_)
  .refine .pe rfl rfl rfl (.pt rfl rfl (.bI ?_) (.nil _));show [[CC.ah (.val (.int .i64 2)),.ah (.val (.int .i64 0)),.ah (.val (.int .i64 (IntKind.i64.wrap (IntKind.i64.wrap (2*(((p.bl.map lv.enc).length:Nat):Int))+1)))),.ah (.val (.int .i64 p.call))]]=_;rw[hn];rfl
 have hk:k<=p.bl.length:=hk;refine aN (λh=>?_) (λh=>?_)
 .have aD:k<p.bl.length:=by have h:(k:Int)<(p.bl.length:Int):=h;omega
  have hi:=vl aD;have hT:=KB hi;have hg:dC (p.bl.map lv.enc) (k:Nat)=some [.val (.int .i64 p.bl[k].w),.val (.int .i64 p.bl[k].bits)]:=by rw[bD,Sf,hi];rfl
  generalize p.bl[k]=mk at hT hg;refine af hg ?_;have hw:IntKind.i64.wrap (IntKind.i64.wrap (2*IntKind.i64.wrap (IntKind.i64.wrap ((((p.bl.map lv.enc).length:Nat):Int)-(k:Int))-1))+1)=((2*(p.bl.length-k-1)+1:Nat):Int):=by rw[Nr,ip (n:=(p.bl.length:Int)-k) om om,ip (n:=(p.bl.length:Int)-k-1) om om,ip (n:=2*((p.bl.length:Int)-k-1)) om om,ip om om];omega
  refine⟨?_,?_⟩
  .show((aa (((dZ p).take (2*k+1)).map dq.enc)).length+2)*32<=_;simp[aa];omega
  refine⟨k+1,aD,(show p.bl.length-(k+1)<p.bl.length-k by omega),View.o2 5 [0,4] [] ?_⟩
  .refine .pe rfl rfl rfl (.pt rfl rfl (.bI ?_) (.nil _));show aa (((dZ p).take (2*k+1)).map dq.enc)++ [[CC.ah (.val (.int .i64 1)),.ah (.val (.int .i64 0)),.ah (.val (.int .i64 0)),.ah (.val (.int .i64 mk.w))],[.ah (.val (.int .i64 4)),.ah (.val (.int .i64 (IntKind.i64.wrap (IntKind.i64.wrap (2*IntKind.i64.wrap (IntKind.i64.wrap ((((p.bl.map lv.enc).length:Nat):Int)-(k:Int))-1))+1)))),.ah (.val (.int .i64 0)),.ah (.val (.int .i64 mk.bits))]]=_;rw[hw,hT,aby,qn];rfl
 .have AZ:k=p.bl.length:=by have h:¬(k:Int)<(p.bl.length:Int):=h;omega
  subst AZ;refine⟨?_,?_⟩
  .show((aa (((dZ p).take (2*p.bl.length+1)).map dq.enc)).length+2)*32<=_;simp[aa];omega
  have eF:some (Bk.row 4 (aa (((dZ p).take (2*p.bl.length+1)).map dq.enc)++ [[CC.ah (.val (.int .i64 6)),.ah (.val (.int .i64 0)),.ah (.val (.int .i64 0)),.ah (.val (.int .i64 1))],[.ah (.val (.int .i64 6)),.ah (.val (.int .i64 0)),.ah (.val (.int .i64 0)),.ah (.val (.int .i64 0))]]))=some (Bk.row 4 (aa ((dZ p).map dq.enc))):=by
   conv=>rhs;rw[OF p,aby,qn]
   rfl
  exact .rv (.one (eV.eW eF 0 none))
theorem OG(p:cR)(hm:p.bl.length<=1000){m:Mem}{K:CV->Mem->Prop}(h:K (sL (dZ p)) m):ap prog 52 [p.cv] m K:=
 be (aZ func52 l52 (GL p hm)) (by simp[cR.cv,CV.dv,CC.dv,RV.dv]) λr m1 hf=>⟨_,hf,h⟩
theorem re{n:Nat}{l:List cR}(hg:∀p,p∈l->p.bl.length<=3)(hl:l.length<=30)(hn:l.length<=n):(dd n l).length<=330:=by
 have h2:=pK n l hg hn;by_cases e:l=[]
 .have:=h2.1 e;omega
 .have:=h2.2 e;omega
theorem Ih:∀(n:Nat)(l:List cR),l.length<=n->l.length<=30->(∀p,p∈l->p.bl.length<=3)->∀{m:Mem}{K:CV->Mem->Prop},K (sL (dd n l)) m->ap prog 27 [dY l] m K:=by
 intro n
 induction n with
 |zero=>
  intro l hl _ _ m K h;have:l=[]:=aai om;subst this;refine be (K0:=λr m=>cL m r (sL (dd 0 []))) (b8 func27 l27 ?_) (by simp[dY,CV.dv,CC.dv]) λr m1 hf=>⟨_,hf,h⟩
  exact .rv (.one (eV.eW rfl 0 none))
 |succ n ih=>
  intro l hl afM hg m K h;refine be (K0:=λr m=>cL m r (sL (dd (n+1) l))) (b8 func27 l27 ?_) (by simp[dY,CV.dv,CC.dv]) λr m1 hf=>⟨_,hf,h⟩
  refine bs (λh0=>?_) (λh0=>?_)
  .have h0:l=[]:=by have h0:(((l.map cR.enc).length:Nat):Int)=0:=h0;rw[Nr]at h0;exact aai om
   subst h0;exact .rv (.one (eV.eW rfl 0 none))
  have h0:l.length≠0:=by have h0:(((l.map cR.enc).length:Nat):Int)≠0:=h0;rw[Nr]at h0;omega
  refine bs (λh1=>?_) (λh1=>?_)
  .have h1:l.length=1:=by have h1:(((l.map cR.enc).length:Nat):Int)=1:=h1;rw[Nr]at h1;omega
   match l,h1 with
   | [p],_=>
    refine OG p (by have:=hg p (by simp);omega) ?_
    exact cL.self rfl
  have h2:2<=l.length:=by have h1:(((l.map cR.enc).length:Nat):Int)≠1:=h1;rw[Nr]at h1;omega
  have hq:IntKind.i64.wrap ((((l.map cR.enc).length:Nat):Int).tdiv 2)=((l.length/2:Nat):Int):=by rw[Nr,show(2:Int)=((2:Nat):Int)from rfl,<-Int.ofNat_tdiv,ip om om]
  refine gq [0] [(3,an .i64 ((l.length/2:Nat):Int))] [] (View.o 0 [] [] ?_ (.nil _)) ?_
  .repeat(first|exact .nil|refine .aF ?_|refine .eq rfl ?_|refine .put (.bg (congrArg (an .i64) hq).symm) ?_)
  have hk:l.length/2<l.length:=om;have b1:(Nat.ble 0 (l.length/2)&&Nat.ble (l.length/2) (l.map cR.enc).length)=true:=by rw[aac,aaU,aaU,Nr];omega
  have b2:(Nat.ble (l.length/2) (l.map cR.enc).length&&Nat.ble (l.map cR.enc).length (l.map cR.enc).length)=true:=by rw[aac,aaU,aaU,Nr];omega
  have e1:((l.map cR.enc).take (l.length/2)).drop 0=(l.take (l.length/2)).map cR.enc:=by rw[acU,acx]
  have e2:((l.map cR.enc).take (l.map cR.enc).length).drop (l.length/2)=(l.drop (l.length/2)).map cR.enc:=by rw[aaN,adp]
  refine cE b1 ?_;refine cE b2 ?_;show ap prog 27 [.rv (.one (.ah (.sl 2 (((l.map cR.enc).take (l.length/2)).drop 0))))] _ _;rw[e1];refine ih (l.take (l.length/2)) (by rw[aav];omega) (by rw[aav];omega) (λp hp=>hg p (aaY hp)) ?_
  refine⟨⟨cE b2 rfl,trivial⟩,?_⟩;show ap prog 27 [.rv (.one (.ah (.sl 2 (((l.map cR.enc).take (l.map cR.enc).length).drop (l.length/2)))))] _ _;rw[e2];refine ih (l.drop (l.length/2)) (by rw[abB];omega) (by rw[abB];omega) (λp hp=>hg p (aci hp)) ?_
  refine⟨trivial,?_⟩;have hgt:dC (l.map cR.enc) ((l.length/2:Nat):Int)=some (l[l.length/2].enc):=by rw[bD,Sf,vl hk];rfl
  have sf:yH l=(l[l.length/2]).call:=by rw[yH,vl hk]
  refine af hgt ?_;have t1:=re (n:=n) (l:=l.take (l.length/2)) (λp hp=>hg p (aaY hp)) (by rw[aav];omega) (by rw[aav];omega)
  have t2:=re (n:=n) (l:=l.drop (l.length/2)) (λp hp=>hg p (aci hp)) (by rw[abB];omega) (by rw[abB];omega)
  have Mo:=nh (n:=n) h2;generalize dd n (l.take (l.length/2))=lo at t1 Mo;generalize dd n (l.drop (l.length/2))=hi at t2 Mo;refine⟨?_,?_⟩
  .show(2+((lo.map dq.enc).map λds=>ds.map CC.ah).length)*32<=_
   simp;omega
  refine⟨?_,?_⟩
  .show(([[CC.ah (.val (.int .i64 3)),.ah (.val (.int .i64 0)),.ah (.val (.int .i64 1)),.ah (.val (.int .i64 (l[l.length/2]).call))],[.ah (.val (.int .i64 5)),.ah (.val (.int .i64 0)),.ah (.val (.int .i64 0)),.ah (.val (.int .i64 (((lo.map dq.enc).length:Nat):Int)))]]++((lo.map dq.enc).map λds=>ds.map CC.ah)).length+((hi.map dq.enc).map λds=>ds.map CC.ah).length)*32<=_
   simp;omega
  have eF:some (Bk.row 4 (([[CC.ah (.val (.int .i64 3)),.ah (.val (.int .i64 0)),.ah (.val (.int .i64 1)),.ah (.val (.int .i64 (l[l.length/2]).call))],[.ah (.val (.int .i64 5)),.ah (.val (.int .i64 0)),.ah (.val (.int .i64 0)),.ah (.val (.int .i64 (((lo.map dq.enc).length:Nat):Int)))]]++((lo.map dq.enc).map λds=>ds.map CC.ah))++((hi.map dq.enc).map λds=>ds.map CC.ah)))=some (Bk.row 4 (((dd (n+1) l).map dq.enc).map λds=>ds.map CC.ah)):=by rw[Mo,Nr,sf];simp[dq.enc]
  exact .rv (.one (eV.eW eF 0 none))
def Tryz.DX:Go.Shelf.Ren:=⟨λ|6=>24|15=>50|14=>49|28=>93|29=>94|20=>85|21=>86|22=>87|23=>88|24=>89|25=>90|26=>91|27=>92|46=>122|47=>123|48=>124|49=>125|50=>126|57=>144|n=>n,λ|22=>38|24=>75|25=>96|3=>3|39=>127|0=>0|53=>187|55=>189|4=>4|46=>181|45=>180|50=>50|5=>5|9=>9|66=>233|70=>237|76=>250|77=>102|n=>n,λ|n=>n⟩
theorem Tryz.Q1:Go.Proofs.SlLaysF0.n6 prog Tryz.DX:={
 mixed:=by kernel_rfl,
 f6:=⟨ "slices.SortFunc[[]ringfence/api.Policy,ringfence/api.Policy]",by decide,func24.trans (congrArg some (by kernel_rfl))⟩,
 f14:=⟨ "slices.pdqsortCmpFunc[ringfence/api.Policy]",by decide,func49.trans (congrArg some (by kernel_rfl))⟩,
 f15:=func50.trans (congrArg some (by kernel_rfl)),
 f20:=⟨ "slices.insertionSortCmpFunc[ringfence/api.Policy]",by decide,func85.trans (congrArg some (by kernel_rfl))⟩,
 f21:=⟨ "slices.heapSortCmpFunc[ringfence/api.Policy]",by decide,func86.trans (congrArg some (by kernel_rfl))⟩,
 f22:=⟨ "slices.breakPatternsCmpFunc[ringfence/api.Policy]",by decide,func87.trans (congrArg some (by kernel_rfl))⟩,
 f23:=⟨ "slices.choosePivotCmpFunc[ringfence/api.Policy]",by decide,func88.trans (congrArg some (by kernel_rfl))⟩,
 f24:=⟨ "slices.reverseRangeCmpFunc[ringfence/api.Policy]",by decide,func89.trans (congrArg some (by kernel_rfl))⟩,
 f25:=⟨ "slices.partialInsertionSortCmpFunc[ringfence/api.Policy]",by decide,func90.trans (congrArg some (by kernel_rfl))⟩,
 f26:=⟨ "slices.partitionEqualCmpFunc[ringfence/api.Policy]",by decide,func91.trans (congrArg some (by kernel_rfl))⟩,
 f27:=⟨ "slices.partitionCmpFunc[ringfence/api.Policy]",by decide,func92.trans (congrArg some (by kernel_rfl))⟩,
 f28:=func93.trans (congrArg some (by kernel_rfl)),
 f29:=func94.trans (congrArg some (by kernel_rfl)),
 f46:=⟨ "slices.siftDownCmpFunc[ringfence/api.Policy]",by decide,func122.trans (congrArg some (by kernel_rfl))⟩,
 f47:=func123.trans (congrArg some (by kernel_rfl)),
 f48:=func124.trans (congrArg some (by kernel_rfl)),
 f49:=⟨ "slices.medianAdjacentCmpFunc[ringfence/api.Policy]",by decide,func125.trans (congrArg some (by kernel_rfl))⟩,
 f50:=⟨ "slices.medianCmpFunc[ringfence/api.Policy]",by decide,func126.trans (congrArg some (by kernel_rfl))⟩,
 f57:=⟨ "slices.order2CmpFunc[ringfence/api.Policy]",by decide,func144.trans (congrArg some (by kernel_rfl))⟩,
 t0:=underlying0,
 a0:=isAgg0,
 z0:=sizeOf0,
 v0:=zeroValue0,
 t3:=underlying3,
 a3:=isAgg3,
 z3:=sizeOf3,
 v3:=zeroValue3,
 t4:=underlying4,
 a4:=isAgg4,
 z4:=sizeOf4,
 v4:=zeroValue4,
 t5:=underlying5,
 a5:=isAgg5,
 z5:=sizeOf5,
 v5:=zeroValue5,
 t9:=underlying9,
 a9:=isAgg9,
 z9:=sizeOf9,
 v9:=zeroValue9,
 t22:=underlying38,
 a22:=isAgg38,
 z22:=sizeOf38,
 v22:=zeroValue38,
 t25:=underlying96,
 a25:=isAgg96,
 z25:=sizeOf96,
 v25:=zeroValue96,
 t39:=underlying127,
 a39:=isAgg127,
 z39:=sizeOf127,
 v39:=zeroValue127,
 t45:=underlying180,
 a45:=isAgg180,
 z45:=sizeOf180,
 v45:=zeroValue180,
 t46:=underlying181,
 a46:=isAgg181,
 z46:=sizeOf181,
 v46:=zeroValue181,
 t50:=underlying50,
 a50:=isAgg50,
 z50:=sizeOf50,
 v50:=zeroValue50,
 t53:=underlying187,
 a53:=isAgg187,
 z53:=sizeOf187,
 v53:=zeroValue187,
 t55:=underlying189,
 a55:=isAgg189,
 z55:=sizeOf189,
 v55:=zeroValue189,
 t66:=underlying233,
 a66:=isAgg233,
 z66:=sizeOf233,
 v66:=zeroValue233,
 t70:=underlying237,
 a70:=isAgg237,
 z70:=sizeOf237,
 v70:=zeroValue237,
 t76:=underlying250,
 a76:=isAgg250,
 z76:=sizeOf250,
 v76:=zeroValue250,
 t77:=underlying102,
 a77:=isAgg102,
 z77:=sizeOf102,
 v77:=zeroValue102}
def Tryz.GM:Go.Shelf.Ren:=⟨λ|5=>26|7=>51|n=>n,λ|22=>3|3=>3|4=>4|n=>n,λ|n=>n⟩
theorem Tryz.Ut:Go.Proofs.SlLaysC2.n5 prog Tryz.GM:={
 mixed:=by kernel_rfl,
 f5:=⟨ "cmp.Compare[int]",by decide,func26.trans (congrArg some (by kernel_rfl))⟩,
 f7:=⟨ "cmp.isNaN[int]",by decide,func51.trans (congrArg some (by kernel_rfl))⟩,
 t3:=underlying3,
 a3:=isAgg3,
 z3:=sizeOf3,
 v3:=zeroValue3,
 t4:=underlying4,
 a4:=isAgg4,
 z4:=sizeOf4,
 v4:=zeroValue4,
 t22:=underlying3,
 a22:=isAgg3,
 z22:=sizeOf3,
 v22:=zeroValue3}
open Go.Shelf Go.Lib Go.Sort in
def YU(x:cR×(Option Addr×Nat×Nat)):List Value:=[.int .i64 x.1.call,.slice x.2.1 x.2.2.1 x.2.2.2]
instance YV:Inhabited cR:=⟨⟨0,[]⟩⟩
open Go.Shelf Go.Lib Go.Sort in
theorem OH(a b:Int)(s1 s2:Option Addr)(n1 n2 k1 k2:Nat)(W:World):Calls prog 25 #[.agg #[.int .i64 a,.slice s1 n1 k1],.agg #[.int .i64 b,.slice s2 n2 k2]] W λe w'=>e= .returned (.int .i64 (Lib.compareInt a b))/\∃q os',w'=Sort.grow (W.drewN q) os':=by
 have hcon:=λW'=>AnyG.cmp_Compare_int Tryz.Ut a b W'
 change ∀W',Calls prog 26 _ _ _ at hcon;generalize Lib.compareInt a b=r at hcon|-
 go_enter func25,ntmps25
 go_wp2_with (go_at_call 26;refine(hcon _).mono ?_;rintro e w' ⟨rfl,rfl⟩)
 go_ret
 exact⟨rfl,0,_,by rw[Sort.alloc_eq_grow,Sort.alloc_eq_grow,Sort.grow_grow];rfl⟩
open Go.Shelf Go.Lib Go.Sort in
theorem Q2(x y:cR×(Option Addr×Nat×Nat)):ltOf (λx y:cR×(Option Addr×Nat×Nat)=>Lib.compareInt x.1.call y.1.call) x y=decide (x.1.call<y.1.call):=by
 unfold ltOf Lib.compareInt;by_cases h1:x.1.call<y.1.call
 .simp[h1]
 .by_cases h2:y.1.call<x.1.call<;>simp[h1,h2]
open Go.Shelf Go.Lib Go.Sort in
theorem abJ:SWO (ltOf λx y:cR×(Option Addr×Nat×Nat)=>Lib.compareInt x.1.call y.1.call) where
 irrefl x:=by rw[Q2];simp
 trans x y z h1 h2:=by rw[Q2]at*;simp at*;omega
 ntrans x y z h1 h2:=by rw[Q2]at*;simp at*;omega
open Go.Shelf Go.Lib Go.Sort in
theorem OI(l:List cR)(hne:l≠[])(hl:l.length<=4194304){m:Mem}{id:Nat}(hb:cD m id=some (.row 2 (aa (l.map cR.enc)))){K:CV->Mem->Prop}(h:∀l':List cR,l'.Perm l->l'.Pairwise (λa b=>¬b.call<a.call)->K (.bz []) (aW m id (.row 2 (aa (l'.map cR.enc))))):ap prog 24 [.rv (.one (.row id 2 0 none)),.rv (.one (.fn 25 []))] m K:=by
 refine⟨⟨Tryz.f24,func24,rfl,by decide⟩,λρ w vs hM hvl hd=>?_⟩
 obtain⟨v0,h0,d0⟩:=hd 0 _ rfl;obtain⟨v1,h1,d1⟩:=hd 1 _ rfl;have hvs:vs=[v0,v1]:=by
  match vs,hvl with
  | [a,b],_=>simp at h0 h1;rw[h0,h1]
 rw[aT]at hb;obtain⟨hid,_,_,hlc,hcm,a,hv0,ha⟩:=(show bi ρ w none (.row id 2 0 none) v0 from d0);obtain⟨_,hv1⟩:=(show bi ρ w none (.fn 25 []) v1 from d1);obtain⟨hln,_,_,hsz,hcu⟩:=hM.bk id _ hb;have hlen:(ρ.aH (.aj id)).len=l.length:=by rw[<-hln];simp[aa]
 have hpos:0<l.length:=ade.2 hne;have hcap:0<(ρ.aH (.aj id)).cap:=om;obtain⟨cur,hcur,hcsz,hcells⟩:=hcu hcap;have ha:=ha hcap;have hel:∀i(hi:i<l.length),∃x:Option Addr×Nat×Nat,cur[(ρ.aH (.aj id)).ar+i*2+0]? =some (.int .i64 l[i].call)/\cur[(ρ.aH (.aj id)).ar+i*2+1]? =some (.slice x.1 x.2.1 x.2.2)/\
   de ρ.S w (.sl 2 (l[i].bl.map lv.enc)) (.slice x.1 x.2.1 x.2.2):=by
  intro i hi;have hri:(aa (l.map cR.enc))[i]? =some (l[i].enc.map .ah):=by simp[aa,hi]
  obtain⟨u,hu,hdu⟩:=hcells i _ 0 _ hri rfl;obtain⟨u1,hu1,hdu1⟩:=hcells i _ 1 _ hri rfl;have e0:u= .int .i64 l[i].call:=by
   have hdu:de ρ.S w (.val (.int .i64 l[i].call)) u:=hdu;cases hdu with
   |val _ _=>rfl
  have hdu1:de ρ.S w (.sl 2 (l[i].bl.map lv.enc)) u1:=hdu1;obtain⟨b,n,c,e1⟩:∃b n c,u1=Value.slice b n c:=by
   generalize l[i].bl.map lv.enc=E at hdu1;cases hdu1 with
   |nil _ b c _=>exact⟨_,_,_,rfl⟩
   |sl _ _ b off c u _ _ _ _ _ _=>exact⟨_,_,_,rfl⟩
  subst e0 e1;exact⟨(b,n,c),hu,hu1,hdu1⟩
 obtain⟨X,hX⟩:∃X:Nat->Option Addr×Nat×Nat,∀i(hi:i<l.length),cur[(ρ.aH (.aj id)).ar+i*2+0]? =some (.int .i64 l[i].call)/\cur[(ρ.aH (.aj id)).ar+i*2+1]? =some (.slice (X i).1 (X i).2.1 (X i).2.2)/\
   de ρ.S w (.sl 2 (l[i].bl.map lv.enc)) (.slice (X i).1 (X i).2.1 (X i).2.2):=
  ⟨λi=>if hi:i<l.length then Classical.choose (hel i hi)else(none,0,0),λi hi=>by have:=Classical.choose_spec (hel i hi);simp only[dif_pos hi];exact this⟩
 obtain⟨d,hdd⟩:∃d:Array (cR×(Option Addr×Nat×Nat)),d=(l.zipIdx.map λp=>(p.1,X p.2)).toArray:=⟨_,rfl⟩
 have hds:d.size=l.length:=by simp[hdd]
 have hdg:∀i(hi:i<l.length),d[i]! =(l[i],X i):=by intro i hi;rw[getElem!_pos d i om];simp[hdd]
 have hdl:d.toList.map Prod.fst=l:=by rw[hdd,List.toList_toArray,abZ];exact List.zipIdx_map_fst 0 l
 have hH:HoldsK YU 2 w (ρ.aH (.aj id)).b (ρ.aH (.aj id)).ar d:=by
  intro j hj;rw[size_flatK,hds]at hj;have hi:j/2<l.length:=om;obtain⟨g0,g1,_⟩:=hX (j/2) hi;have hc:l.length*2<=(ρ.aH (.aj id)).cap*2:=om;rw[hcur.cell,get_flatK _ _ _ _ (by rw[hds];exact hj),hdg _ hi]
  refine⟨?_,hcur.qt om⟩;rcases Nat.mod_two_eq_zero_or_one j with e|e
  .rw[e,show(ρ.aH (.aj id)).ar+j=(ρ.aH (.aj id)).ar+j/2*2+0 by omega,g0];rfl
  .rw[e,show(ρ.aH (.aj id)).ar+j=(ρ.aH (.aj id)).ar+j/2*2+1 by omega,g1];rfl
 have eg:∀args w,(callFunc 25 args).run prog w= .ok (.enter 25 args) w:=enters_of func25 (by kernel_rfl) rfl
 have hblk:(ρ.aH (.aj id)).b<w.heap.size:=hcur.lt;have hcon:=AnyQ.slices_SortFunc Tryz.Q1 2 isAgg75 sizeOf75 YU (λ_=>rfl) (λx v hv=>by simp[YU]at hv;rcases hv with rfl|rfl<;>rfl) (λx y=>Lib.compareInt x.1.call y.1.call) abJ 25 #[] (ρ.aH (.aj id)).b (ρ.aH (.aj id)).ar (ρ.aH (.aj id)).cap d w eg
  (λ_ _ _ _ x y=>OH x.1.call y.1.call x.2.1 y.2.1 x.2.2.1 y.2.2.1 x.2.2.2 y.2.2.2 _) hH hblk om
 change Calls prog 24 _ _ _ at hcon;have hargs:vs.toArray= #[.slice (some ⟨(ρ.aH (.aj id)).b,(ρ.aH (.aj id)).ar,none⟩) d.size (ρ.aH (.aj id)).cap,.func (.func 25) #[] #[]]:=by rw[hvs,hv0,hv1,ha,hds,<-hlen];simp
 rw[hargs];refine hcon.mono ?_;rintro e w' ⟨rfl,d',n,os,hp,hs,rfl⟩;obtain⟨hp1,_,hp2⟩:=hp;have hp2:d'.toList.Perm d.toList:=by
  have e1:d'.extract 0 d.size=d':=by rw[<-hp1];simp
  have e2:d.extract 0 d.size=d:=aC;rw[e1,e2]at hp2;exact hp2
 have hperm:(d'.toList.map Prod.fst).Perm l:=by have:=hp2.map Prod.fst;rwa [hdl]at this
 have hll:(d'.toList.map Prod.fst).length=l.length:=hperm.length_eq;have hsort:(d'.toList.map Prod.fst).Pairwise (λa b=>¬b.call<a.call):=by
  rw[ab4];intro i j hi hj hij;have hj2:j<d'.size:=by simpa using hj
  have:=hs i j (aan _) hij om;rw[Q2,getElem!_pos d' i om,getElem!_pos d' j hj2]at this;simpa using this
 have hmem:∀i,i<d'.size->∃k,∃hk:k<l.length,d'[i]! =(l[k],X k):=by
  intro i hi;have:d'[i]! ∈d.toList:=by rw[<-hp2.mem_iff,getElem!_pos d' i hi];exact ac6.2 (Array.getElem_mem hi)
  obtain⟨k,hk⟩:=X1 this;obtain⟨hk1,hk2⟩:=JJ.1 hk;have hk1:k<d.size:=by simpa using hk1
  refine⟨k,om,?_⟩;rw[<-hdg k om,getElem!_pos d k hk1,<-hk2];simp
 have hb2:=hb;obtain⟨hM',hX'⟩:=Jh (mK:=aa ((d'.toList.map Prod.fst).map cR.enc)) (F:=flatK YU 2 d') hM hb (by simpa[aa]using hpos) (by simp[aa];omega) (λcs hcs=>by
   simp only[aa,aas]at hcs;obtain⟨x,⟨p,_,rfl⟩,rfl⟩:=hcs;rfl) (by rw[size_flatK];simp[aa];omega) (λcs hcs c hc=>by
   simp only[aa,aas]at hcs;obtain⟨x,_,rfl⟩:=hcs;obtain⟨d,_,rfl⟩:=aas.1 hc;exact⟨d,rfl⟩) (λi cs j c hi hj=>by
   simp only[aa,Sf]at hi;cases ho:d'.toList[i]? with
   |none=>rw[ho]at hi;simp at hi
   |some y=>
    rw[ho]at hi;simp only[aax,aat]at hi;subst hi;have hid':i<d'.size:=by have:=(JJ.1 ho).1;simpa using this
    have hy:d'[i]! =y:=by rw[getElem!_pos d' i hid'];have:=(JJ.1 ho).2;simpa using this
    obtain⟨k,hk,hyk⟩:=hmem i hid';rw[hy]at hyk;subst hyk;have hj2:j<2:=by have:=(JJ.1 hj).1;simpa[cR.enc]using this
    rw[get_flatK _ _ _ _ om,show(i*2+j)/2=i by omega,show(i*2+j)%2=j by omega,hy]
    match j,hj2,hj with
    |0,_,hj=>cases hj;exact de.val _ rfl
    |1,_,hj=>cases hj;exact(hX k hk).2.2) n os
 rw[<-aY]at hM' hX';exact⟨_,.bz [],_,ρ,rfl,h _ hperm hsort,hM',⟨[],rfl,rfl,aC⟩,hX'⟩
def c17:LF:= ⟨22,[.tmp 2,.cell true 2 3],(.seq (.ai [qu 2 (.aI qe),qu 3 (.alloc [qd 0,qd 0])]) (.seq (.seq (.ai [qm 6 0,qu 7 (qc 22 [6]),qu 4 (.alloc [qd 0,qd 0]),qw (.store 2 4 7)]) (.seq (.ai [qf 8 0 4,ql 9 8,qu 10 (.aJ .neq 9 (qi 0))]) (.cond 10 (.seq (.bR [qL 11 2 4,qu 2 (.aI qe),qw (.store 2 3 11)] [(.cons 0 none (.cons 1 none (.cons 2 (some []) .nil)))]) .ret) .skip))) (.seq (.ai [qm 12 0,qu 13 (qc 23 [12]),qm 5 13]) (.seq (.ai [qm 14 5,qu 15 (qc 24 [14,(.c (.rv (.one (.fn 25 []))))])]) (.seq (.ai [qu 16 (.build [qd 0,qd 0,qd 0,qd 0] [(0,1,qi 1)]),qu 17 (.nw 4 [qd 0,qd 0,qd 0,qd 0] 1 [(0,16)]),qm 18 5,qu 19 (qc 27 [18]),qu 20 (.ov 4 32 17 19),qu 21 (.build [qd 0,qd 0] []),qm 2 20,qw (.store 2 3 21)]) .ret)))))⟩
def c23:LF:= ⟨8,[.tmp 2],(.seq (.ai [qu 2 (.aI qe)]) (.seq (.seq (.ai [qm 3 0,qu 4 (.yj false 3)]) (.cond 4 (.seq (.ai [qu 2 (.aI qe)]) .ret) .skip)) (.seq (.ai [qu 5 (.nw 2 [qd 0,.aK] 0 []),qm 6 0,qu 7 (.ov 2 32 5 6),qm 2 7]) .ret)))⟩
def c24:LF:= ⟨14,[],(.seq (.ai [qm 5 0,qu 6 (.len 1 5),qm 4 6]) (.ai [qm 7 0,qm 8 4,qm 9 4,qu 10 (.conv .u64 9),qu 11 (qc 50 [10]),qm 12 1,qu 13 (qc 49 [7,qi 0,8,11,12])]))⟩
def c49:LF:= ⟨148,[],(.seq (.ai [qu 10 (.aI (qb true))]) (.seq (.ai [qu 11 (.aI (qb true))]) (.block 0 (.loop (.block 1 (.seq (.ai [qm 21 2,qm 22 1,qu 23 (.aJ .sub 21 22),qm 12 23]) (.seq (.seq (.ai [qm 24 12,qu 25 (.aJ .leq 24 (qi 12))]) (.cond 25 (.seq (.ai [qm 26 0,qm 27 1,qm 28 2,qm 29 4,qu 30 (qc 85 [26,27,28,29])]) .ret) .skip)) (.seq (.seq (.ai [qm 31 3,qu 32 (.aJ .eql 31 (qi 0))]) (.cond 32 (.seq (.ai [qm 33 0,qm 34 1,qm 35 2,qm 36 4,qu 37 (qc 86 [33,34,35,36])]) .ret) .skip)) (.seq (.seq (.ai [qm 38 10,qu 39 (.un .not 38)]) (.cond 39 (.seq (.ai [qm 40 0,qm 41 1,qm 42 2,qm 43 4,qu 44 (qc 87 [40,41,42,43])]) (.ai [qm 45 3,qu 46 (.aJ .sub 45 (qi 1)),qm 3 46])) .skip)) (.seq (.ai [qm 48 0,qm 49 1,qm 50 2,qm 51 4,qu 52 (qc 88 [48,49,50,51]),qm 47 52,qu 53 (.ext 47 0),qu 54 (.ext 47 1),qm 13 53,qm 14 54]) (.seq (.seq (.ai [qm 55 14,qu 56 (.aJ .eql 55 (qi 2))]) (.cond 56 (.seq (.ai [qm 57 0,qm 58 1,qm 59 2,qm 60 4,qu 61 (qc 89 [57,58,59,60])]) (.seq (.ai [qm 62 2,qu 63 (.aJ .sub 62 (qi 1)),qm 64 13,qm 65 1,qu 66 (.aJ .sub 64 65),qu 67 (.aJ .sub 63 66),qm 13 67]) (.ai [qu 14 (.aI (qi 1))]))) .skip)) (.seq (.seq (.ai [qm 68 10,qm 69 68,qg 70 (.aI 11) 69 true,qu 71 (.pick 69 70 (qb false)),qm 72 71,qg 73 (.aI 14) 72 true,qg 74 (.aJ .eql 73 (qi 1)) 72 true,qu 75 (.pick 72 74 (qb false))]) (.cond 75 (.seq (.ai [qm 76 0,qm 77 1,qm 78 2,qm 79 4,qu 80 (qc 90 [76,77,78,79])]) (.cond 80 .ret .skip)) .skip)) (.seq (.seq (.bR [qm 81 1,qu 82 (.aJ .gtr 81 (qi 0)),qm 83 82,qg 84 (.aI 4) 83 true,qg 85 (.aI 0) 83 true,qg 86 (.aI 1) 83 true,qg 87 (.aJ .sub 86 (qi 1)) 83 true,qg 88 (.cr 2 85 87) 83 true,qg 89 (.load true 2 88) 83 true,qg 90 (.aI 0) 83 true,qg 91 (.aI 13) 83 true,qg 92 (.cr 2 90 91) 83 true,qg 93 (.load true 2 92) 83 true,qg 94 (.call 84 [89,93]) 83 true,qg 95 (.aJ .lss 94 (qi 0)) 83 true,qg 96 (.un .not 95) 83 true,qu 97 (.pick 83 96 (qb false))] [(eh 13 0 (.cons 13 (some []) (eh 3 14 .nil)))]) (.cond 97 (.seq (.ai [qm 98 0,qm 99 1,qm 100 2,qm 101 13,qm 102 4,qu 103 (qc 91 [98,99,100,101,102]),qm 15 103]) (.seq (.ai [qm 104 15,qm 1 104]) (.exit 1))) .skip)) (.seq (.ai [qm 106 0,qm 107 1,qm 108 2,qm 109 13,qm 110 4,qu 111 (qc 92 [106,107,108,109,110]),qm 105 111,qu 112 (.ext 105 0),qu 113 (.ext 105 1),qm 16 112,qm 17 113]) (.seq (.ai [qm 114 17,qm 11 114]) (.seq (.ai [qm 115 16,qm 116 1,qu 117 (.aJ .sub 115 116),qm 118 2,qm 119 16,qu 120 (.aJ .sub 118 119),qm 18 117,qm 19 120]) (.seq (.ai [qm 121 12,qu 122 (.aJ .quo 121 (qi 8)),qm 20 122]) (.seq (.ai [qm 123 18,qm 124 19,qu 125 (.aJ .lss 123 124)]) (.cond 125 (.seq (.ai [qm 126 18,qm 127 20,qu 128 (.aJ .geq 126 127),qm 10 128]) (.seq (.ai [qm 129 0,qm 130 1,qm 131 16,qm 132 3,qm 133 4,qu 134 (qc 49 [129,130,131,132,133])]) (.ai [qm 135 16,qu 136 (.aJ .add 135 (qi 1)),qm 1 136]))) (.seq (.ai [qm 137 19,qm 138 20,qu 139 (.aJ .geq 137 138),qm 10 139]) (.seq (.ai [qm 140 0,qm 141 16,qu 142 (.aJ .add 141 (qi 1)),qm 143 2,qm 144 3,qm 145 4,qu 146 (qc 49 [140,142,143,144,145])]) (.ai [qm 147 16,qm 2 147]))))))))))))))))))))))⟩
def c50:LF:= ⟨8,[.tmp 2],(.seq (.ai [qu 2 (.aI (qi 0))]) (.seq (.cond (qb false) (.seq (.ai [qm 3 0,qu 4 (.conv .u32 3),qu 5 (qc 93 [4]),qm 2 5]) .ret) .skip) (.seq (.ai [qm 6 0,qu 7 (qc 94 [6]),qm 2 7]) .ret)))⟩
def c85:LF:= ⟨53,[],(.seq (.ai [qm 10 1,qu 11 (.aJ .add 10 (qi 1)),qm 8 11]) (.block 0 (.loop (.seq (.seq (.ai [qm 12 8,qm 13 2,qu 14 (.aJ .lss 12 13)]) (.cond 14 .skip (.exit 0))) (.seq (.block 1 (.seq (.ai [qm 17 8,qm 9 17]) (.block 2 (.loop (.seq (.seq (.bR [qm 18 9,qm 19 1,qu 20 (.aJ .gtr 18 19),qm 21 20,qg 22 (.aI 3) 21 true,qg 23 (.aI 0) 21 true,qg 24 (.aI 9) 21 true,qg 25 (.cr 2 23 24) 21 true,qg 26 (.load true 2 25) 21 true,qg 27 (.aI 0) 21 true,qg 28 (.aI 9) 21 true,qg 29 (.aJ .sub 28 (qi 1)) 21 true,qg 30 (.cr 2 27 29) 21 true,qg 31 (.load true 2 30) 21 true,qg 32 (.call 22 [26,31]) 21 true,qg 33 (.aJ .lss 32 (qi 0)) 21 true,qu 34 (.pick 21 33 (qb false))] [(eh 14 0 (.cons 14 (some []) (.cons 15 none (.cons 16 none .nil))))]) (.cond 34 .skip (.exit 2))) (.seq (.block 3 (.bR [qm 37 0,qm 38 9,qm 39 0,qm 40 9,qu 41 (.aJ .sub 40 (qi 1)),qm 42 0,qm 43 9,qu 44 (.aJ .sub 43 (qi 1)),qu 45 (.cr 2 42 44),qL 46 2 45,qm 47 0,qm 48 9,qu 49 (.cr 2 47 48),qL 50 2 49,qu 51 (.cr 2 37 38),qw (.store 2 51 46),qu 52 (.cr 2 39 41),qw (.store 2 52 50)] [(eh 15 0 (.cons 15 (some []) (.cons 16 none (.cons 17 (some []) .nil))))])) (.ai [qm 35 9,qu 36 (.aJ .sub 35 (qi 1)),qm 9 36]))))))) (.ai [qm 15 8,qu 16 (.aJ .add 15 (qi 1)),qm 8 16]))))))⟩
def c94:LF:= ⟨25,[.tmp 2],(.seq (.ai [qu 2 (.aI (qi 0))]) (.seq (.seq (.ai [qm 3 0,qu 4 (.aJ .geq 3 (.c (.rv (.one (.ah (.val (.int .u64 (4294967296))))))))]) (.cond 4 (.seq (.ai [qm 5 0,qu 6 (.aJ .shr 5 (.c (.rv (.one (.ah (.val (.int .u64 (32)))))))),qm 0 6]) (.ai [qu 2 (.aI (qi 32))])) .skip)) (.seq (.seq (.ai [qm 7 0,qu 8 (.aJ .geq 7 (.c (.rv (.one (.ah (.val (.int .u64 (65536))))))))]) (.cond 8 (.seq (.ai [qm 9 0,qu 10 (.aJ .shr 9 (.c (.rv (.one (.ah (.val (.int .u64 (16)))))))),qm 0 10]) (.ai [qm 11 2,qu 12 (.aJ .add 11 (qi 16)),qm 2 12])) .skip)) (.seq (.seq (.ai [qm 13 0,qu 14 (.aJ .geq 13 (.c (.rv (.one (.ah (.val (.int .u64 (256))))))))]) (.cond 14 (.seq (.ai [qm 15 0,qu 16 (.aJ .shr 15 (.c (.rv (.one (.ah (.val (.int .u64 (8)))))))),qm 0 16]) (.ai [qm 17 2,qu 18 (.aJ .add 17 (qi 8)),qm 2 18])) .skip)) (.seq (.ai [qm 19 2,qm 20 0,qu 21 (.conv .u8 20),qu 22 (.B8 (.c (.rv (.one (.ah (.val (.string ⟨#[0,1,2,2,3,3,3,3,4,4,4,4,4,4,4,4,5,5,5,5,5,5,5,5,5,5,5,5,5,5,5,5,6,6,6,6,6,6,6,6,6,6,6,6,6,6,6,6,6,6,6,6,6,6,6,6,6,6,6,6,6,6,6,6,7,7,7,7,7,7,7,7,7,7,7,7,7,7,7,7,7,7,7,7,7,7,7,7,7,7,7,7,7,7,7,7,7,7,7,7,7,7,7,7,7,7,7,7,7,7,7,7,7,7,7,7,7,7,7,7,7,7,7,7,7,7,7,7,8,8,8,8,8,8,8,8,8,8,8,8,8,8,8,8,8,8,8,8,8,8,8,8,8,8,8,8,8,8,8,8,8,8,8,8,8,8,8,8,8,8,8,8,8,8,8,8,8,8,8,8,8,8,8,8,8,8,8,8,8,8,8,8,8,8,8,8,8,8,8,8,8,8,8,8,8,8,8,8,8,8,8,8,8,8,8,8,8,8,8,8,8,8,8,8,8,8,8,8,8,8,8,8,8,8,8,8,8,8,8,8,8,8,8,8,8,8,8,8,8,8,8,8,8,8,8,8]⟩)))))) 21),qu 23 (.conv .i64 22),qu 24 (.aJ .add 19 23),qm 2 24]) .ret)))))⟩
theorem l23:bw prog Tryz.f23=some c23:=by kernel_rfl
theorem l24:bw prog Tryz.f24=some c24:=by kernel_rfl
theorem l49:bw prog Tryz.f49=some c49:=by kernel_rfl
theorem l50:bw prog Tryz.f50=some c50:=by kernel_rfl
theorem l85:bw prog f85=some c85:=by kernel_rfl
theorem l94:bw prog f94=some c94:=by kernel_rfl
theorem l17:bw prog f17=some c17:=by kernel_rfl
theorem Q3{m:Mem}{K:CV->Mem->Prop}(h:K (an .i64 0) m):ap prog 94 [an .u64 0] m K:=
 bA (r0:=an .i64 0) func94 l94 rfl (aah rfl) (show body prog c94 [an .u64 0] [] (λr m=>r=an .i64 0)from rfl) rfl rfl h
theorem Uu{m:Mem}{K:CV->Mem->Prop}(h:K (an .i64 0) m):ap prog 50 [an .u64 0] m K:=
 bA (r0:=an .i64 0) func50 l50 rfl (aah rfl) (show body prog c50 [an .u64 0] [] (λr m=>r=an .i64 0)from Q3 rfl) rfl rfl h
theorem X2{m:Mem}{K:CV->Mem->Prop}(h:K (.bz []) m):ap prog 85 [dY [],an .i64 0,an .i64 0,.rv (.one (.fn 25 []))] m K:=by
 refine bA (r0:= .bz []) func85 l85 rfl (aah rfl) ?_ rfl rfl h;refine ba (λ_:Nat=>True) [0,1,2,3,8] (λ_=>[]) (λ_=>[]) (λ_=>0) 0 trivial ?_ (λ_ _=>?_)
 .refine View.o1 0 [] [] (.nil _)
 .rfl
theorem X3{m:Mem}{K:CV->Mem->Prop}(h:K (.bz []) m):ap prog 49 [dY [],an .i64 0,an .i64 0,an .i64 0,.rv (.one (.fn 25 []))] m K:=by
 refine bA (r0:= .bz []) func49 l49 rfl (aah rfl) ?_ rfl rfl h;refine ba (λ_:Nat=>True) [0,1,2,3,4,10,11] (λ_=>[]) (λ_=>[]) (λ_=>0) 0 trivial ?_ (λ_ _=>?_)
 .refine View.o1 0 [] [] (.nil _)
 .refine X2 ?_;rfl
theorem Q4{m:Mem}{K:CV->Mem->Prop}(h:K (.bz []) m):ap prog 24 [dY [],.rv (.one (.fn 25 []))] m K:=by refine bA (r0:= .bz []) func24 l24 rfl (aah rfl) ?_ rfl rfl h;refine Uu ?_;refine X3 ?_;rfl
theorem DY(l:List cR)(hl:l.length<=4194304):body prog c23 [dY l] [] (λr m=>cL m r (dY l)):=by
 have ta:((([]:List (List CC)).length+((l.map cR.enc).map λds=>ds.map CC.ah).length)*32)<=140737488355328:=by simp;omega
 refine aM (λh=>?_) (λh=>?_)
 .have hd:l=[]:=aai (by simpa using aam h)
  subst hd;exact⟨.rv (.one (.aK 2)),ta,.rv (.one (eV.eW rfl 0 none))⟩
 .exact⟨ta,.rv (.one (eV.eW rfl 0 none))⟩
theorem KD(l:List cR)(hl:l.length<=4194304){m:Mem}{K:CV->Mem->Prop}(h:K (dY l) m):ap prog 23 [dY l] m K:=
 be (aZ func23 l23 (DY l hl)) (by simp[dY,CV.dv,CC.dv]) λr m1 hf=>⟨_,hf,h⟩
theorem BI(l:List cR)(du:l≠[])(hl:l.length<=4194304):body prog c23 [dY l] [] (λr m=>∃r' m',View 0 ⟨[r],m⟩ ⟨[r'],m'⟩/\r'= .rv (.one (.row 0 2 0 none))/\m'=[.row 2 (aa (l.map cR.enc))]):=by
 have ta:((([]:List (List CC)).length+((l.map cR.enc).map λds=>ds.map CC.ah).length)*32)<=140737488355328:=by simp;omega
 refine rP ?_ ?_
 .have:(l.map cR.enc).length≠0:=by simp[du]
  cases h:Nat.beq (l.map cR.enc).length 0 with
  |false=>rfl
  |true=>exact absurd (aam h) this
 .refine⟨ta,_,_,View.o 2 [1] [] (.eq rfl .nil) (.pt rfl rfl (.bI (by simp[aa,bV])) (.nil _)),rfl,rfl⟩
theorem GN(l:List cR)(du:l≠[])(hl:l.length<=4194304){m:Mem}{K:CV->Mem->Prop}(h:K (.rv (.one (.row m.length 2 0 none))) (m++ [.row 2 (aa (l.map cR.enc))])):ap prog 23 [dY l] m K:=by
 refine bu [] m.length rfl rfl rfl rfl (args0:=[dY l]) rfl (λi b' hi=>by simp at hi) (K0:=λr m=>r= .rv (.one (.row 0 2 0 none))/\m=[.row 2 (aa (l.map cR.enc))])
  (bH (aZ func23 l23 (BI l du hl)) λr m1 h=>h) (λr m1 hr=>?_)
 obtain⟨rfl,rfl⟩:=hr;refine⟨aan _,?_⟩;show K (.rv (.one (.row (m.length+(0-0)) 2 0 none))) (gn m [Bk.bg _ _]);rw[b7,Bk.js];exact h
theorem OK{m:Mem}{a b:RV}{f:Int×Int}(h:eP m a b):cL m (.bz [a,.agg [.ah (.val (.int .i64 f.1)),.ah (.val (.int .i64 f.2))]]) (.bz [b,.agg [.ah (.val (.int .i64 f.1)),.ah (.val (.int .i64 f.2))]]):=by
 refine .bz rfl λi r r' h1 h2=>?_
 match i,h1,h2 with
 |0,h1,h2=>cases h1;cases h2;exact h
 |1,h1,h2=>cases h1;cases h2;exact eP.self rfl
def Q5(l:List dq)(f:Int×Int):CV:= .bz [.one (.ah (xK l)),.agg [.ah (.val (.int .i64 f.1)),.ah (.val (.int .i64 f.2))]]
theorem KE(l:List cR):body prog c17 [dY l] [] (λr m=>((bT l).1≠0->cL m r (Q5 [] (bT l)))/\((bT l).1=0->∃l',l'.Perm l/\fR l'/\cL m r (Q5 (cS l') (0,0)))):=by
 refine OA l ?_;refine bt (λh=>?_) (λh=>?_)
 .refine⟨trivial,?_⟩;have h:(bT l).1≠0:=h;exact⟨λ_=>OK (.one (.aK 4)),λh0=>absurd h0 h⟩
 have h:(bT l).1=0:=h;obtain⟨YW,hg,hd⟩:=u4 h;have ov:∀l':List cR,l'.Perm l->(1+(((dd l'.length l').map dq.enc).map λds=>ds.map CC.ah).length)*32<=140737488355328:=by
  intro l' hp;have:=re (n:=l'.length) (l:=l') (λp KV=>(hg p (hp.mem_iff.1 KV)).2.2.1) (by rw[hp.length_eq];exact YW) (T5 _)
  simp;omega
 by_cases du:l=[]
 .subst du;refine KD [] (by decide) ?_
  refine Q4 ?_;refine Ih 0 [] (by decide) (by decide) aC ?_
  refine⟨by decide,λh0=>absurd h h0,λ_=>⟨[],.refl _,.nil,OK (f:=(0,0)) (.one (eV.eW (ds:=(cS []).map dq.enc) rfl 0 none))⟩⟩
 .refine GN l du om ?_;refine OI l du om rfl λl' hp hs=>?_
  have hr:=KA hs (yI hp hd);have Ax:l'.length<=30:=by rw[hp.length_eq];exact YW
  refine pC (p4:=[dY l']) (m':=[.var [.ah (.val (.int .i64 0)),.ah (.val (.int .i64 0))],.var [.ah (.val (.int .i64 (bT l).1)),.ah (.val (.int .i64 (bT l).2))],.aR,.row 4 [[.ah (.val (.int .i64 1)),.ah (.val (.int .i64 0)),.ah (.val (.int .i64 0)),.ah (.val (.int .i64 0))]]])
   (View.o 4 [0,1,2,3] [2] (.put (ri.fE 2 (l'.map cR.enc) rfl rfl) .nil) (.pe rfl rfl rfl (.pe rfl rfl rfl (.aR (.pm rfl rfl rfl))))) ?_
  refine Ih l'.length l' (T5 _) Ax (λp KV=>(hg p (hp.mem_iff.1 KV)).2.2.1) ?_
  refine⟨ov l' hp,λh0=>absurd h h0,λ_=>⟨l',hp,hr,OK (f:=(0,0)) (.one (eV.eW (ds:=(cS l').map dq.enc) ?_ 0 none))⟩⟩
  rfl
theorem Ii(l:List cR){m:Mem}{K:CV->Mem->Prop}(h1:(bT l).1≠0->K (Q5 [] (bT l)) m)(h2:(bT l).1=0->∀l':List cR,l'.Perm l->fR l'->K (Q5 (cS l') (0,0)) m):ap prog 17 [dY l] m K:=by
 refine be (aZ func17 l17 (KE l)) (by simp[dY,CV.dv,CC.dv]) λr m1 hf=>?_
 by_cases h:(bT l).1=0
 .obtain⟨l',hp,hr,hz⟩:=hf.2 h;exact⟨_,hz,h2 h l' hp hr⟩
 .exact⟨_,hf.1 h,h1 h⟩
def c18:LF:= ⟨10,[.cell true 3 0],(.seq (.ai [qu 0 (.alloc [.aK,.aK,.aK])]) (.seq (.ai [qu 1 (qc 28 []),qu 2 (.build [qd 0,qd 0] []),qu 3 (.nw 2 [qd 0,qd 0] 1 [(0,2)]),qu 4 (.build [qd 0,qd 0] [(1,1,qi 4095)]),qu 5 (.build [(.ah (.val (.bool false))),qd 0,qd 0] [(0,1,qb true),(1,2,4)]),qu 6 (.nw 3 [(.ah (.val (.bool false))),qd 0,qd 0] 1 [(0,5)]),qu 7 (.build [(.ah (.val (.bool false))),(.ah (.val (.bool false))),qd 0,.aK] [(0,1,qb true),(3,1,6)]),qu 8 (.nw 4 [(.ah (.val (.bool false))),(.ah (.val (.bool false))),qd 0,.aK] 1 [(0,7)]),qu 9 (.build [.aK,.aK,.aK] [(0,1,1),(1,1,3),(2,1,8)]),qw (.store 3 0 9)]) .ret))⟩
theorem l18:bw prog f18=some c18:=by kernel_rfl
def gz:Obj:=⟨2,[],[],⟨#[]⟩,-1,[],-1,1,0⟩
def cy:Kr:=⟨[gz],[⟨0,0⟩],[⟨true,false,0,[⟨true,0,4095⟩]⟩]⟩
theorem Uv{m:Mem}{Z:Nat->Prop}{p:Option Nat}:kh m Z p [.ah (.val (.int .i64 2)),.aK,.aK,.ah (.val (.string ⟨#[]⟩)),.ah (.val (.int .i64 (-1))),.aK,.ah (.val (.int .i64 (-1))),.ah (.val (.int .i64 1)),.ah (.val (.int .i64 0))] gz.enc:=
 .cons (.ah _) (.cons (.aK 1) (.cons (.aK 2) (.cons (.ah _) (.cons (.ah _) (.cons (.aK 4) (.cons (.ah _) (.cons (.ah _) (.cons (.ah _) .nil))))))))
theorem OL:body prog c28 [] [] (λr m=>∃r' m',View 0 ⟨[r],m⟩ ⟨[r'],m'⟩/\r'=cA [gz]/\m'=[]):=
 ⟨_,[],View.o 1 [] [0] (.put (.rv (.one (.fE (gN.fE (Z:=λk=>bx [0] k=true) (.cons Uv .nil) rfl rfl)))) .nil) (.nil _),rfl,rfl⟩
theorem Uw{m:Mem}{K:CV->Mem->Prop}(h:K (cA [gz]) m):ap prog 28 [] m K:=by
 refine be (K0:=λr m=>r=cA [gz]/\m=[]) (bH (aZ func28 l28 OL) λr m1 h=>h) aC λr m1 hr=>?_
 obtain⟨rfl,rfl⟩:=hr;exact⟨_,cL.self rfl,h⟩
theorem KF:body prog c18 [] [] (λr m=>∃r' m',View 0 ⟨[r],m⟩ ⟨[r'],m'⟩/\r'=ez cy.l cy.ops cy.ps/\m'=[]):=by
 refine Uw ?_;refine⟨_,[],View.o 4 [] [1,2,3] (.put (p6.agg (.cons (.bg (.ah _)) (.cons (.fE (gN.fE (Z:=λk=>bx [1,2,3] k=true) (.cons (.cons (.ah _) (.cons (.ah _) .nil)) .nil) rfl rfl))
  (.cons (.fE (gN.fE (Z:=λk=>bx [1,2,3] k=true) (.cons (.cons (.ah _) (.cons (.ah _) (.cons (.ah _) (.cons (gN.fE (.cons (.cons (.ah _) (.cons (.ah _) (.cons (.ah _) .nil))) .nil) rfl rfl) .nil)))) .nil) rfl rfl)) .nil)))) .nil) (.nil _),rfl,rfl⟩
theorem Ij{m:Mem}{K:CV->Mem->Prop}(h:K (ez cy.l cy.ops cy.ps) m):ap prog 18 [] m K:=by
 refine be (K0:=λr m=>r=ez cy.l cy.ops cy.ps/\m=[]) (bH (aZ func18 l18 KF) λr m1 h=>h) aC λr m1 hr=>?_
 obtain⟨rfl,rfl⟩:=hr;exact⟨_,cL.self rfl,h⟩
theorem xW:dI cy.l cy.ops cy.ps:=
 ⟨λo ho=>by simp[cy]at ho;subst ho;exact⟨⟨⟨[],rfl⟩,⟨[],rfl⟩,λq hq=>by simp[gz]at hq⟩,by simp[gz],by simp[gz],by simp[gz],λq hq=>by simp[gz]at hq⟩,by simp[cy],by simp[cy],by simp[cy],λp hp=>by simp[cy]at hp;subst hp;simp,by simp[cy]⟩
def c11:LF:= ⟨52,[.cell true 3 4,.tmp 5,.tmp 6],(.seq (.ai [qu 4 (.alloc [.aK,.aK,.aK]),qu 5 (.aI qe),qu 6 (.aI (qi 0))]) (.seq (.ai [qm 16 0,qu 17 (qc 17 [16]),qm 15 17,qu 18 (.ext 15 0),qu 19 (.ext 15 1),qu 8 (.alloc [qd 0,qd 0]),qm 7 18,qw (.store 2 8 19)]) (.seq (.seq (.ai [qf 20 0 8,ql 21 20,qu 22 (.aJ .neq 21 (qi 0))]) (.cond 22 (.seq (.bR [qu 23 (.build [.aK,.aK,.aK] []),qf 24 0 8,ql 25 24,qw (.store 3 4 23),qu 5 (.aI qe),qm 6 25] [(eh 3 0 (.cons 3 (some [2]) (.cons 4 none (.cons 5 none .nil))))]) .ret) .skip)) (.seq (.seq (.ai [qm 26 1,qu 27 (.len 1 26),qu 28 (.aJ .gtr 27 (qi 80))]) (.cond 28 (.seq (.ai [qu 29 (.build [.aK,.aK,.aK] []),qw (.store 3 4 29),qu 5 (.aI qe),qu 6 (.aI (qi 5))]) .ret) .skip)) (.seq (.ai [qu 30 (qc 18 []),qu 9 (.alloc [.aK,.aK,.aK]),qw (.store 3 9 30)]) (.seq (.ai [qu 10 (.aI qe)]) (.seq (.seq (.ai [qm 31 1,qu 32 (.len 1 31),qu 33 (.aI (qi 0))]) (.block 0 (.loop (.seq (.ai [qu 34 (.aJ .lss 33 32)]) (.seq (.cond 34 .skip (.exit 0)) (.seq (.block 1 (.seq (.ai [qu 35 (.cr 9 31 33),qL 36 9 35,qu 12 (.alloc [qd 0,qd 0,qd 0,qd 0,qd 0,qd 0,qd 0,(.ah (.val (.string ⟨#[]⟩))),.aK]),qw (.store 9 12 36)]) (.seq (.ai [qm 38 7,qL 39 3 9,qL 40 9 12,qu 41 (qc 19 [38,39,40]),qm 37 41,qu 42 (.ext 37 0),qu 43 (.ext 37 1),qu 13 (.alloc [.aK,.aK,.aK]),qu 14 (.alloc [qd 0,qd 0,qd 0,.aK]),qw (.store 3 13 42),qw (.store 4 14 43)]) (.seq (.ai [qL 44 3 13,qw (.store 3 9 44)]) (.ai [qm 45 10,qL 46 4 14,qu 47 (.nw 4 [qd 0,qd 0,qd 0,.aK] 1 [(0,46)]),qu 48 (.ov 4 48 45 47),qm 10 48]))))) (.ai [qu 49 (.aJ .add 33 (qi 1)),qm 33 49]))))))) (.seq (.ai [qL 50 3 9,qm 51 10,qw (.store 3 4 50),qm 5 51,qu 6 (.aI (qi 0))]) .ret))))))))⟩
namespace Kn
def kS(prog:List dq)(k:Kr):List Cl->Kr
 | []=>k
 |c::r=>kS prog (hC prog k c).1 r
def aS(prog:List dq)(k:Kr):List Cl->List An
 | []=>[]
 |c::r=>(hC prog k c).2::aS prog (hC prog k c).1 r
theorem Ik(prog:List dq):∀(k:Kr)(cs:List Cl)(c:Cl),kS prog k (cs++ [c])=(hC prog (kS prog k cs) c).1
 |_,[],_=>rfl
 |k,x::r,c=>Ik prog (hC prog k x).1 r c
theorem Il(prog:List dq):∀(k:Kr)(cs:List Cl)(c:Cl),aS prog k (cs++ [c])=aS prog k cs++ [(hC prog (kS prog k cs) c).2]
 |_,[],_=>rfl
 |k,x::r,c=>by show(hC prog k x).2::aS prog (hC prog k x).1 (r++ [c])=_;rw[Il prog (hC prog k x).1 r c];rfl
theorem KI.kS{prog:List dq}:∀{k:Kr}(cs:List Cl),KI k->KI (Kn.kS prog k cs)
 |_,[],h=>h
 |_,c::r,h=>KI.kS r (h.do_ prog c)
theorem OM(prog:List dq):∀(k:Kr)(cs:List Cl),(aS prog k cs).length=cs.length
 |_,[]=>rfl
 |k,c::r=>by simp[aS,OM prog (hC prog k c).1 r]
theorem Im:KI cy:=by
 have hm:∀o,o∈cy.l->o=gz:=λo ho=>by simpa[cy]using ho
 have hp:∀x,x∈cy.ps->x=⟨true,false,0,[⟨true,0,4095⟩]⟩:=λx hx=>by simpa[cy]using hx
 refine⟨by simp[cy],by simp[cy],by simp[cy],xW.sm,xW.sl,xW.ne,λx hx hl=>?_,λx hx s hs hh=>?_,λo ho q hq=>?_,λo ho h5=>?_,λo ho=>?_,λo ho hk=>?_,λi o ho hk=>?_,λo ho=>?_,λo ho=>?_,?_⟩
 .rw[hp x hx]at hl;cases hl
 .rw[hp x hx]at hs;have:s=⟨true,0,4095⟩:=by simpa using hs
  subst this;exact⟨⟨by decide,by decide⟩,0,⟨0,0⟩,rfl,rfl,0,gz,rfl,rfl,by simp[gz]⟩
 .rw[hm o ho]at hq;cases hq
 .rw[hm o ho]at h5;simp[gz]at h5
 .rw[hm o ho];exact⟨rfl,List.Pairwise.nil,λ_=>rfl,λe he=>by cases he⟩
 .rw[hm o ho]at hk;simp[gz]at hk
 .rw[hm o (Sj ho)]at hk;simp[gz]at hk
 .have:o=⟨0,0⟩:=by simpa[cy]using ho
  subst this;exact⟨acN _,by show(0:Int)<=64;omega⟩
 .rw[hm o ho];simp[gz]
 .have one:∀(i:Nat)d,(cy.l.map vo)[i]? =some d->i=0/\d=vo gz:=λi d hd=>by
   match i,hd with
   |0,hd=>cases hd;exact⟨rfl,rfl⟩
   |n+1,hd=>simp[cy]at hd
  refine⟨λi d hd hz=>?_,⟨vo gz,rfl,rfl,rfl,rfl⟩,λi d e hd he=>?_,λi i' d d' e e' hd yp he=>?_,λi d hd _=>?_,λi d hd hz=>?_,λi d hd=>?_,λi d hd=>?_⟩
  .rw[(one i d hd).2]at hz;simp[vo,gz]at hz
  .rw[(one i d hd).2]at he;cases he
  .rw[(one i d hd).2]at he;cases he
  .rw[(one i d hd).1];exact .aj
  .rw[(one i d hd).2]at hz;simp[vo,gz]at hz
  .rw[(one i d hd).2];exact .inr rfl
  .rw[(one i d hd).2,(one i d hd).1];exact .inl rfl
def nk(cs:List Cl):CV:= .rv (.one (.ah (.sl 9 (cs.map Cl.enc))))
def abK(al:List An):Dt:= .sl 4 (al.map An.enc)
def qp(k:Kr)(al:List An)(e:Int):CV:= .bz [ji k,.one (.ah (abK al)),cG e]
theorem l11:bw prog f11=some c11.er:=by kernel_rfl
theorem GO{cs:List Cl}{i:Nat}(h:i<cs.length):dC (cs.map Cl.enc) (i:Nat)=some (cs[i].enc):=by rw[bD,Sf,vl h];rfl
theorem In{m:Mem}{e:Int}:cL m (.bz [.agg [.aK,.aK,.aK],.one .aK,cG e]) (qp mr [] e):=by
 refine .bz rfl λi r r' h1 h2=>?_
 match i,h1,h2 with
 |0,h1,h2=>cases h1;cases h2;exact gX
 |1,h1,h2=>cases h1;cases h2;exact .one (.aK 4)
 |2,h1,h2=>cases h1;cases h2;exact eP.self rfl
 |n+3,h1,h2=>simp at h1
structure sR(cs:List Cl):Prop where
 l:cs.length<=1048576
 d:∀c,c∈cs->c.data.length<=4194304
theorem KG(l:List cR)(cs:List Cl)(eC:sR cs):body Tryz.prog c11 [dY l,nk cs] []
  (λr m=>((bT l).1≠0->cL m r (qp mr [] (bT l).1))/\((bT l).1=0->cs.length>80->cL m r (qp mr [] 5))/\
   ((bT l).1=0->cs.length<=80->∃l',l'.Perm l/\fR l'/\cL m r (qp (kS (cS l') cy cs) (aS (cS l') cy cs) 0))):=by
 refine Ii l (λhw=>?_) (λhw l' hp hr=>?_)
 .refine bt (λhe=>?_) (λhe=>absurd he hw)
  refine⟨⟨rfl,trivial⟩,?_⟩;exact⟨λ_=>In,λh=>absurd h hw,λh=>absurd h hw⟩
 .generalize hpg:cS l'=prog;refine aN (λyJ=>?_) (λyJ=>?_)
  .have yJ:cs.length>80:=by have yJ:((cs.map Cl.enc).length:Int)>80:=yJ;rw[Nr]at yJ;omega
   exact⟨λh=>absurd hw h,λ_ _=>In,λ_ h=>om⟩
  have yJ:cs.length<=80:=by have yJ:¬((cs.map Cl.enc).length:Int)>80:=yJ;rw[Nr]at yJ;omega
  refine Ij ?_;refine ba (λi=>i<=cs.length) [4,7,9,31,32] (λi=>[(33,an .i64 (i:Nat)),(10,.rv (.one (.row 3 4 0 none)))])
   (λi=>[.var [.aK,.aK,.aK],.var [.ah (.val (.int .i64 0)),.ah (.val (.int .i64 0))],kB (kS prog cy (cs.take i)),.row 4 (aa ((aS prog cy (cs.take i)).map An.enc))]) (λi=>cs.length-i) 0 (aan _) ?_ (λi hi=>?_)
  .refine View.trans (View.aK 10 4 3 rfl rfl rfl) (View.o1 4 [0,1,2,3] [] ?_)
   .exact .au
  have hi:i<=cs.length:=hi;refine aN (λh=>?_) (λh=>?_)
  .have aD:i<cs.length:=by have h:(i:Int)<((cs.map Cl.enc).length:Int):=h;rw[Nr]at h;omega
   have K6:=KI.kS (prog:=prog) (cs.take i) Im;have ht:cs.take (i+1)=cs.take i++ [cs[i]]:=p5 (vl aD);have Hh:=Ik prog cy (cs.take i) cs[i];have has:=Il prog cy (cs.take i) cs[i];rw[<-ht]at Hh has;have S9:(aS prog cy (cs.take i)).length<=80:=by rw[OM,aav];omega
   refine af (GO aD) ?_;refine Oy prog (kS prog cy (cs.take i)) K6 cs[i] (eC.d _ (aar aD)) ?_;generalize hC prog (kS prog cy (cs.take i)) cs[i]=D at Hh has;obtain⟨k2,a2⟩:=D;refine⟨by simp only[bV,aa,Nr,aaj,aa9];omega,?_⟩
   refine⟨i+1,aD,(show cs.length-(i+1)<cs.length-i by omega),View.o2 9 [0,1,2,8] [] ?_⟩
   .rw[Hh,has,aby];exact .pe rfl rfl rfl (.pe rfl rfl rfl (.pt rfl rfl (.eq rfl (XF _)) (.pt rfl rfl (.bI (da (List.map An.enc _) (List.map An.enc [_])).symm) (.nil _))))
  .have lT:i=cs.length:=by have h:¬(i:Int)<((cs.map Cl.enc).length:Int):=h;rw[Nr]at h;omega
   subst lT;rw[aaN];subst hpg;refine⟨λh=>absurd hw h,λ_ h=>om,λ_ _=>⟨l',hp,hr,?_⟩⟩
   refine .bz rfl λi r r' h1 h2=>?_
   match i,h1,h2 with
   |0,h1,h2=>cases h1;cases h2;exact eP.self (A9 (Kn.kS (cS l') cy cs))
   |1,h1,h2=>cases h1;cases h2;exact .one (eV.eW (ds:=(aS (cS l') cy cs).map An.enc) rfl 0 none)
   |2,h1,h2=>cases h1;cases h2;exact eP.self rfl
   |n+3,h1,h2=>simp at h1
theorem Q6(l:List cR)(cs:List Cl)(eC:sR cs){m:Mem}{K:CV->Mem->Prop}(h1:(bT l).1≠0->K (qp mr [] (bT l).1) m)(h2:(bT l).1=0->cs.length>80->K (qp mr [] 5) m)(h3:(bT l).1=0->cs.length<=80->∀l',l'.Perm l->fR l'->K (qp (kS (cS l') cy cs) (aS (cS l') cy cs) 0) m):ap prog 11 [dY l,nk cs] m K:=
 be (b8 func11 l11 (KG l cs eC)) (by simp[dY,nk,CV.dv,CC.dv,RV.dv]) λr m1 hf=>by
  by_cases hw:(bT l).1=0
  .by_cases h8:cs.length<=80
   .obtain⟨l',hp,hr,hf⟩:=hf.2.2 hw h8;exact⟨_,hf,h3 hw h8 l' hp hr⟩
   .exact⟨_,hf.2.1 hw om,h2 hw om⟩
  .exact⟨_,hf.1 hw,h1 hw⟩
end Kn
namespace Kn
def clN:Cl:=⟨0,0,0,0,0,0,0,[],[]⟩
end Kn
namespace Kn
def kE(k:Kr):List Dt:=kC k.l k.ops k.ps
structure X4(cs:List Cl):Prop where
 l:cs.length<=1048576
 d:∀c,c∈cs->c.data.length<=4194304
end Kn
namespace Kn
theorem Io{prog:List dq}{k:Kr}{c:Cl}(h:(hC prog k c).2.fC≠0):∃e,hC prog k c=(k,An.no e):=by
 unfold hC at h|-;split
 .exact⟨_,rfl⟩
 rename_i h1;rw[if_neg h1]at h;split
 .exact⟨_,rfl⟩
 rename_i h2;rw[if_neg h2]at h;split
 .exact⟨_,rfl⟩
 rename_i h3;rw[if_neg h3]at h;unfold Po at h|-;split
 .exact⟨_,rfl⟩
 rename_i h4;rw[if_neg h4]at h;exact absurd h h4
end Kn
namespace Kn
def nE(k v:Int):ME:=⟨.int .i64 k,.one (.ah (.val (.int .i64 v)))⟩
theorem xX{prog:List dq}{k:Kr}{c:Cl}(h:(hC prog k c).2.fC=0):∃p:Nat,c.bb=p/\∃hp:p<k.ps.length,k.ps[p].aP=true/\1<=c.ag/\c.ag<=22/\(fK k p c).2.fC=0/\hC prog k c=(gM (fK k p c).1,(fK k p c).2):=by
 unfold hC at h|-;split at h
 .cases h
 rename_i h1;split at h
 .cases h
 rename_i h2;split at h
 .cases h
 rename_i h3;obtain⟨p,hc,hp,hl⟩:=oY (by simpa using h1)
 unfold Po at h|-;split at h
 .rename_i h4;exact absurd h h4
 rename_i h4;rw[hc,aae]at h h3 h4;rw[hc]at h1;refine⟨p,hc,hp,hl,om,om,h,?_⟩;rw[hc,if_neg h1,if_neg h2,aae,if_neg h3,if_neg h4]
end Kn
namespace Kn
def ON(k:Kr):Prop:=gM k=k
theorem KI.M2{k:Kr}(h:KI k):ON (gM k):=by obtain⟨a,c,h1,h2,h3⟩:=(ir h.kr).ex;obtain⟨b,hb⟩:=h2.left;obtain⟨a2,c2,g1,g2,g3⟩:=(ir h.Sx.kr).ex;exact h3.M2 hb g1 g2 g3
theorem Ip{k:Kr}(h:KI k):∃(y:Kr)(en:Bool),cV k.l k.ops k.ps y.l y.ops y.ps en:=by
 obtain⟨a,c,h1,h2,h3⟩:=(ir h.kr).ex;rcases A5 h1 with rfl|⟨x,hx,_⟩
 .exact⟨c,_,h2⟩
 .exact⟨x,_,hx⟩
theorem ON.left{k:Kr}(hs:ON k)(h:KI k):∃b,Left k b:=by obtain⟨a,c,h1,h2,h3⟩:=(ir h.kr).ex;unfold ON at hs;rw[hs]at h3;obtain⟨b,hb⟩:=h2.left;obtain⟨y,en,hy⟩:=Ip h;obtain⟨e1,e2,e3,rfl⟩:=h3.Jt hb hy;rw[e1,e2,e3]at hy;exact hy.left
theorem KI.X5{x:Kr}(h:KI x)(hm:∀b,gL x.l x.ops x.ps b->(∀(i:Nat)o,x.l[i]? =some o->o.ag≠0->dp b.O i)/\(∀(i:Nat)o,x.ops[i]? =some o->¬dp b.P i->o=⟨-1,0⟩))(he:∀(t:Nat)y,x.ps[t]? =some y->iE x.l t y=false):gM x=Jz x:=by
 obtain⟨y,en,hy⟩:=Ip h;have hid:y.l=x.l/\y.ops=x.ops/\y.ps=x.ps/\en=false:=by
  obtain⟨bd,hbd,hP1,B4⟩:=hy.ex;obtain⟨m1,m2⟩:=hm bd hbd;have je:∀i,eR bd x.l i=false:=λi=>by
   unfold eR;cases hi:x.l[i]? with
   |none=>rfl
   |some o=>
    by_cases hk:o.ag=0
    .simp[hk]
    .have:bd.O[i]? =some true:=m1 i o hi hk;simp[this]
  have hL:y.l=x.l:=hP1.id λt o _=>by
   unfold cC;rw[je t];have:l7 bd x.l x.l.length o.bq=false:=by unfold l7;rw[je];simp
   rw[this];simp
  have vj:=hy.pr;have p7:=hy.en;rw[hL]at vj p7;refine⟨hL,B4.id λt o ho=>?_,vj.id λt o ho=>?_,?_⟩
  .unfold B3;split
   .rename_i hh;have hn:¬dp bd.P t:=by intro M0;have M0:bd.P[t]? =some true:=M0;simp[M0]at hh
    exact(m2 t o ho hn).symm
   .rfl
  .simp[yg,he t o ho]
  .rw[p7];cases ke:jh x.l x.ps x.ps.length with
   |false=>rfl
   |true=>
    unfold jh at ke;rw[aaT]at ke;obtain⟨t,ht,A3⟩:=ke;have Hi:t<x.ps.length:=by simpa using ht
    rw[vl Hi]at A3;have A3:iE x.l t x.ps[t]=true:=A3;rw[he t _ (vl Hi)]at A3;cases A3
 obtain⟨e1,e2,e3,rfl⟩:=hid;rw[e1,e2,e3]at hy;exact Ju.AE (ir h.kr) ⟨x,x,.refl,hy,Fw x⟩
theorem OO{x:Kr}{t:Nat}{y:bm}(hy:x.ps[t]? =some y)(hl:y.aP=true):(Jz x).ps[t]? =some y:=by
 obtain⟨n1,n2,n3,P,t1,t2,hP,t3,e⟩:=(Fw x).ex;rw[e];have zx:P[t]? =some y:=by rw[hP.2 t y hy];unfold tc qZ;simp[hl]
 show(P.take n3)[t]? =some y;rcases aaf t n3 with a|a
 .rw[ab7 a];exact zx
 .have:=t3.t.dr t y a zx;unfold qR at this;simp[hl]at this
theorem xY{l:List ft}{o r:Int}(h:(fY l o r).2.2=0):(⟨true,o,r⟩:ft)∈(fY l o r).1/\∀s,s∈l->s.has=true->s∈(fY l o r).1:=by
 unfold fY at h|-;simp only[]at h|-;unfold Tb.iO at h|-;split at h
 .cases h
 rename_i h1;rw[if_neg h1];split
 .rename_i k hk;obtain⟨a1,a2,a3⟩:=aaO.1 hk;refine⟨aas.2 ⟨⟨true,⟨o,r⟩⟩,List.mem_set a1 _,rfl⟩,λs hs hh=>?_⟩
  refine aas.2 ⟨mw s,?_,rfl⟩;obtain⟨i,hi⟩:=X1 (adb (f:=mw) hs);refine Sj (i:=i) ?_;rw[Xg λe=>?_]
  .exact hi
  .subst e;rw[vl a1]at hi;rw[ada hi]at a2;simp[mw,hh]at a2
 .rename_i hk;rw[hk]at h;simp only[]at h;split at h
  .cases h
  rename_i h2;rw[if_neg h2];refine⟨aas.2 ⟨⟨true,⟨o,r⟩⟩,aC,rfl⟩,λs hs hh=>aas.2 ⟨mw s,?_,rfl⟩⟩
  exact List.mem_append_left _ (adb hs)
structure SD(k:Kr)(p:Nat)(x:bm)(bo cj:Int)(R:Kr)(i:Nat)(S:List ft):Prop where
 l:R.l=k.l
 o:∀m:Nat,R.ops[m]? =if m=i then some ⟨bo,0⟩else k.ops[m]?
 Am:∀o,k.ops[i]? =some o->o.bo<0
 ps:R.ps=dz k.ps p S
 new:(⟨true,i,cj⟩:ft)∈S
 old:∀s,s∈x.aU->s.has=true->s∈S
 all:∀s,s∈S->s∈x.aU\/s=⟨true,i,cj⟩
theorem kM{k:Kr}{p:Nat}{x:bm}(hp:k.ps[p]? =some x){bo cj:Int}(he:(aL k p bo cj).2.2=0):∃i S,SD k p x bo cj (aL k p bo cj).1 i S:=by
 have zE:aA k.ps p=x.aU:=by rw[aA,hp]
 unfold aL at he|-;split at he
 .cases he
 rename_i h1;rw[if_neg h1];split at he
 .rename_i h2;exact absurd he h2
 rename_i h2;rw[if_neg h2];have h2:(fY (aA k.ps p) (cX k.ops) cj).2.2=0:=aaa h2;rw[zE]at h2|-;obtain⟨c1,c2,c3⟩:=nS h2;obtain⟨d1,d2⟩:=xY h2;refine⟨cX k.ops,(fY x.aU (cX k.ops) cj).1,rfl,λn=>?_,λo hx=>?_,rfl,d1,d2,c3⟩
 .show(jj k.ops (cX k.ops) ⟨bo,0⟩)[n]? =_;unfold jj;split
  .rename_i e;rw[e];by_cases hn:n=k.ops.length
   .subst hn;rw[if_pos rfl,Xi (T5 _)];simp
   .rw[if_neg hn];rcases aaf n k.ops.length with a|a
    .exact YN a
    .rw[Xi a,aaz a];cases e2:n-k.ops.length with
     |zero=>omega
     |succ m=>rfl
  .rename_i e;have hi:cX k.ops<k.ops.length\/cX k.ops=k.ops.length:=by
    unfold cX;cases hf:El k.ops with
    |none=>exact .inr rfl
    |some i=>exact .inl (Bc hf)
   have aD:cX k.ops<k.ops.length:=om;by_cases hn:n=cX k.ops
   .subst hn;rw[if_pos rfl,SC aD]
   .rw[if_neg hn,Xg (λa=>hn a.symm)]
 .unfold cX at hx;cases hf:El k.ops with
  |none=>
   rw[hf]at hx;rw[show(none:Option Nat).getD k.ops.length=k.ops.length from rfl,aaz (T5 _)]at hx;cases hx
  |some i=>
   rw[hf]at hx;obtain⟨a1,a2,_⟩:=aaO.1 hf;rw[show(some i).getD k.ops.length=i from rfl,vl a1]at hx;cases hx;simpa using a2
theorem jS{ps:List bm}{p t:Nat}(h:t≠p)(l:List ft):(dz ps p l)[t]? =ps[t]? :=by
 unfold dz;split
 .exact Xg λe=>h e.symm
 .rfl
theorem KI.X6{k:Kr}(h:KI k){b:Mk}(hb:gL k.l k.ops k.ps b){c:Nat}(hc:dp b.P c){o:bF}(ho:k.ops[c]? =some o):0<=o.bo:=by
 have cap:∀(z r:Int),fL k z r->∀c,vP k.ops z c->∀o,k.ops[c]? =some o->0<=o.bo:=λz r hz c hv o ho=>by obtain⟨-,n,o',rfl,h1,j,x,h2,-⟩:=hz;have e:(n:Int)=c:=hv.1;have:n=c:=om;subst this;rw[h1]at ho;cases ho;omega
 have iY:=hb.n8 (λ_=>True) (λc=>∀o,k.ops[c]? =some o->0<=o.bo) ⟨λ_ _ _ _ _ _ _ _=>trivial,λi o _ ho z c hz hv=>?_,λ_ _ _ _ _ _=>trivial⟩ ⟨λ_ _=>trivial,λp pr hp b9 s hs hh c hv=>?_⟩
 .exact iY.2 c hc o ho
 .obtain⟨q,hq,hh,rfl⟩:=hz;exact cap _ _ (h.qu o (Sj ho) q hq hh) c hv
 .exact cap _ _ (h.cap pr (Sj hp) s hs hh) c hv
end Kn
namespace Kn
theorem Q7{prog:List dq}{k:Kr}(h:KI k)(hs:ON k)(c:Cl):ON (hC prog k c).1:=by
 by_cases he:(hC prog k c).2.fC=0
 .obtain⟨p,hc,hp,hl,-,-,ho,e⟩:=xX he;rw[e];exact(h.op (vl hp) hl (c:=c) ho).M2
 .obtain⟨e,h2⟩:=Io he;rw[h2];exact hs
theorem OP:ON cy:=by unfold ON;kernel_rfl
theorem GP{prog:List dq}{k:Kr}{c:Cl}(hl:fj k.ps c.bb=true)(hf:iV k.ps c.bb.toNat=true)(hk:c.ag=2):hC prog k c=(k,An.no 9):=by
 unfold hC;rw[if_neg (by rw[hl];simp),if_neg om,if_pos ⟨hf,.inr hk⟩]
end Kn
namespace Kn
structure Sp where
 c:Int
 p:Int
 s:Int
 h:Int
 f:Int
 g:Int
 r:Int
 o:Int
def Sp.enc(x:Sp):List Dt:=[.val (.int .i64 x.c),.val (.int .i64 x.p),.val (.int .i64 x.s),.val (.int .i64 x.h),.val (.int .i64 x.f),.val (.int .i64 x.g),.val (.int .i64 x.r),.val (.int .i64 x.o)]
abbrev Wt:=List (Int×List (Int×Int))
def wE(e:Int×Int):List Dt:=[.val (.int .i64 e.1),.val (.int .i64 e.2)]
def wM(e:Int×List (Int×Int)):MO:=⟨.int .i64 e.1,.d5 (e.2.map wE)⟩
def pi(W:Wt):List MO:=W.map wM
def gA(x:Int):Wt->Option (List (Int×Int))
 | []=>none
 |e::r=>if x=e.1 then some e.2 else gA x r
def Ep(x:Int):Wt->Nat->Option (Nat×List (Int×Int))
 | [],_=>none
 |e::r,n=>if x=e.1 then some (n,e.2)else Ep x r (n+1)
def jB(x:Int)(v:List (Int×Int)):Wt->Wt
 | []=>[(x,v)]
 |e::r=>if x=e.1 then(x,v)::r else e::jB x v r
def fW(l:List Obj)(x:Int):Bool:=match l[x.toNat]? with|some o=>decide (o.ag=4)|none=>false
def sS(l:List Obj)(W:Wt):Wt:=W.filter λe=>fW l e.1
def eS(k:Kr)(c:Int)(p:Nat)(fd h f g:Int):List Sp:=
 if(fB (aA k.ps p) fd).2≠0 then []else [⟨c,p,fd,h,f,g,(fB (aA k.ps p) fd).1.2,fJ k.ops (fB (aA k.ps p) fd).1.1⟩]
def lB(l:List Obj)(z:Int):Int:=match l[z.toNat]? with|some o=>o.bq|none=>0
def lO(k:Kr)(p:Nat)(fd:Int):Int:=fJ k.ops (fB (aA k.ps p) fd).1.1
def GQ(l:List ft):List Int:=Tb.pS 0 (l.map mw)
def f4(k:Kr)(c:Int)(n:Nat)(f:Int)(L:List Int):List Sp:=L.flatMap λfd=>eS k c n fd 3 f fd
def eB(i:Int)(p:Nat)(c:Cl)(a:An)(b k:Kr)(W:Wt):Wt×List Sp:=
 if c.ag=2 then(W,eS k i p a.n 1 (-1) 0)
 else if c.ag=3\/c.ag=8 then(W,eS k i p a.n 3 c.bb c.fd)
 else if c.ag=9 then(W,eS k i p c.fd 3 c.bb c.fd)
 else if c.ag=15 then(W,eS k i p a.n 2 (-1) 0++eS k i p a.m 2 (-1) 0)
 else if c.ag=16 then(jB (lB b.l (lO b p c.fd)) ((gA (lB b.l (lO b p c.fd)) W).getD []++ [(c.bb,c.fI)]) W,[])
 else if c.ag=17 then
  (match gA (lO b p c.fd) W with
   |some (x::r)=>(jB (lO b p c.fd) r W,if a.m>=0 then eS k i p a.m 3 x.1 x.2 else [])
   |_=>(W,[]))
 else if c.ag=18 then(W,f4 k i a.n.toNat c.bb (GQ (aA b.ps p))++eS k i p a.m 2 (-1) 0)
 else(W,[])
structure Gs where
 k:Kr
 W:Wt
 out:List Sp
def nq(prog:List dq)(i:Nat)(c:Cl)(g:Gs):Gs:=
 let d:=hC prog g.k c;let s:=if d.2.fC=0 then eB i c.bb.toNat c d.2 g.k d.1 g.W else(g.W,[])
 ⟨d.1,sS d.1.l s.1,g.out++s.2⟩
def lC(prog:List dq)(g:Gs):Nat->List Cl->Gs
 |_,[]=>g
 |i,c::r=>lC prog (nq prog i c g) (i+1) r
theorem Ac(prog:List dq):∀(cs:List Cl)(g:Gs)(i:Nat)(c:Cl),lC prog g i (cs++ [c])=nq prog (i+cs.length) c (lC prog g i cs)
 | [],g,i,c=>rfl
 |x::r,g,i,c=>by
  show lC prog (nq prog i x g) (i+1) (r++ [c])=_;rw[Ac prog r];show nq prog (i+1+r.length) c _=nq prog (i+(r.length+1)) c _;rw[show i+1+r.length=i+(r.length+1) by omega]
  rfl
theorem sU(x:Int):∀(W:Wt)(n:Nat),iH (.int .i64 x) (pi W) n=some ((Ep x W n).map λe=>(e.1,.d5 (e.2.map wE)))
 | [],n=>rfl
 |e::r,n=>by
  have hq:gS (.int .i64 x) (wM e).key=some (x==e.1):=rfl;show(match gS (.int .i64 x) (wM e).key with|some true=>some (some (n,(wM e).val))|some false=>iH (.int .i64 x) (pi r) (n+1)|none=>none)=_
  rw[hq];by_cases h:x=e.1
  .rw[show(x==e.1)=true by simpa using h,Ep,if_pos h];rfl
  .rw[show(x==e.1)=false by simpa using h,Ep,if_neg h]
   exact sU x r (n+1)
theorem BJ(x:Int):∀(W:Wt)(n:Nat),(Ep x W n).map (·.2)=gA x W
 | [],_=>rfl
 |e::r,n=>by
  rw[Ep,gA];split
  .rfl
  .exact BJ x r (n+1)
theorem BK(x:Int):∀(W:Wt)(n i:Nat)(v:List (Int×Int)),Ep x W n=some (i,v)->n<=i/\W[i-n]? =some (x,v)
 | [],_,_,_,h=>by cases h
 |e::r,n,i,v,h=>by
  rw[Ep]at h;split at h
  .rename_i hx;cases h;exact⟨T5 _,by obtain⟨a,b⟩:=e;simp at hx|-;exact hx.symm⟩
  .obtain⟨h1,h2⟩:=BK x r (n+1) i v h;exact⟨om,by rw[show i-n=(i-(n+1))+1 by omega];exact h2⟩
theorem Iq(x:Int)(v:List (Int×Int)):∀W:Wt,mE (.int .i64 x) (.d5 (v.map wE)) (pi W)=some (pi (jB x v W))
 | []=>rfl
 |e::r=>by
  have ih:=Iq x v r;rw[pi]at ih;rw[pi,aaJ,jB,mE,show gS (.int .i64 x) (wM e).key=some (x==e.1)from rfl];by_cases h:x=e.1
  .rw[show(x==e.1)=true by simpa using h,if_pos h];rfl
  .rw[show(x==e.1)=false by simpa using h,if_neg h]
   simp only;rw[ih];rfl
theorem BL(x:Int)(v:List (Int×Int))(m:MV):∀(W:Wt)(n i:Nat)(u:List (Int×Int)),Ep x W n=some (i,u)->
  mE (.int .i64 x) (.d5 (v.map wE)) ((pi W).set (i-n) ⟨.int .i64 x,m⟩)=some (pi (jB x v W))
 | [],_,_,_,h=>by cases h
 |e::r,n,i,u,h=>by
  rw[Ep]at h;split at h
  .rename_i hx;cases h;rw[acA,pi,aaJ,adj,jB,if_pos hx,mE,show gS (.int .i64 x) (.int .i64 x)=some (x==x)from rfl,show(x==x)=true by simp]
   rfl
  .rename_i hx;obtain⟨h1,h2⟩:=BK x r (n+1) i u h;have ih:=BL x v m r (n+1) i u h;rw[pi]at ih;rw[pi,aaJ,show i-n=(i-(n+1))+1 by omega,List.set_cons_succ,jB,if_neg hx,mE,show gS (.int .i64 x) (wM e).key=some (x==e.1)from rfl,show(x==e.1)=false by simpa using hx]
   simp only;rw[ih];rfl
theorem DZ(x:Int)(m:MV):∀(W:Wt)(n i:Nat)(u:List (Int×Int)),Ep x W n=some (i,u)->iH (.int .i64 x) ((pi W).set (i-n) ⟨.int .i64 x,m⟩) n=some (some (i,m))
 | [],_,_,_,h=>by cases h
 |e::r,n,i,u,h=>by
  rw[Ep]at h;split at h
  .rename_i hx;cases h;rw[acA,pi,aaJ,adj,iH,show gS (.int .i64 x) (.int .i64 x)=some (x==x)from rfl,show(x==x)=true by simp]
  .rename_i hx;obtain⟨h1,h2⟩:=BK x r (n+1) i u h;have ih:=DZ x m r (n+1) i u h;rw[pi]at ih;rw[pi,aaJ,show i-n=(i-(n+1))+1 by omega,List.set_cons_succ,iH,show gS (.int .i64 x) (wM e).key=some (x==e.1)from rfl,show(x==e.1)=false by simpa using hx]
   exact ih
end Kn
def c42:LF:= ⟨60,[],(.seq (.ai [qm 17 0,qu 18 (.aO 17),qf 19 0 18,qf 20 2 19,ql 21 20,qm 22 2,qu 23 (.cr 4 21 22),qf 24 3 23,ql 25 24,qm 26 3,qu 27 (qc 73 [25,26]),qm 16 27,qu 28 (.ext 16 0),qu 29 (.ext 16 1),qu 14 (.alloc [qd 0,qd 0]),qw (.store 2 14 28),qm 15 29]) (.seq (.seq (.ai [qm 30 15,qu 31 (.aJ .neq 30 (qi 0))]) (.cond 31 .ret .skip)) (.bR [qm 32 0,qm 33 0,qu 34 (.aO 33),qf 35 4 34,ql 36 35,qm 37 1,qm 38 2,qm 39 3,qm 40 4,qm 41 5,qm 42 6,qf 43 1 14,ql 44 43,qm 45 0,qu 46 (.aO 45),qf 47 0 46,qf 48 1 47,ql 49 48,qf 50 0 14,ql 51 50,qu 52 (.cr 2 49 51),qf 53 0 52,ql 54 53,qu 55 (.build [qd 0,qd 0,qd 0,qd 0,qd 0,qd 0,qd 0,qd 0] [(0,1,37),(1,1,38),(2,1,39),(3,1,40),(4,1,41),(5,1,42),(6,1,44),(7,1,54)]),qu 56 (.nw 8 [qd 0,qd 0,qd 0,qd 0,qd 0,qd 0,qd 0,qd 0] 1 [(0,55)]),qu 57 (.ov 8 64 36 56),qu 58 (.aO 32),qf 59 4 58,qw (.store 1 59 57)] [(eh 24 0 (.cons 24 (some [4]) (.cons 25 (some []) (.cons 26 none (.cons 27 none (.cons 28 (some []) .nil))))))])))⟩
def c43:LF:= ⟨42,[.tmp 6,.tmp 7],(.seq (.ai [qu 6 (.aI (qi 0)),qu 7 (.aI (qi 0))]) (.seq (.ai [qm 12 0,qu 13 (.aO 12),qf 14 2 13,ql 15 14,qm 16 1,qu 17 (.cr 4 15 16),qf 18 3 17,ql 19 18,qm 20 2,qu 21 (qc 73 [19,20]),qm 11 21,qu 22 (.ext 11 0),qu 23 (.ext 11 1),qu 8 (.alloc [qd 0,qd 0]),qw (.store 2 8 22),qm 9 23]) (.seq (.bR [qm 24 0,qu 25 (.aO 24),qf 26 1 25,ql 27 26,qf 28 0 8,ql 29 28,qu 30 (.cr 2 27 29),qf 31 0 30,ql 32 31,qm 10 32] [eh 10 0 .nil]) (.seq (.bR [qm 33 10,qm 34 0,qu 35 (.aO 34),qf 36 0 35,ql 37 36,qm 38 10,qu 39 (.cr 9 37 38),qf 40 4 39,ql 41 40,qm 6 33,qm 7 41] [eh 11 0 .nil]) .ret))))⟩
namespace Kn
def gB(k:Kr)(i j:Nat):Bk:= .var [.ah (dk k.l),.ah (eX k.ops),.ah (gl k.ps),.map i,.row j 8 0 none]
def eT(l:List Sp):Bk:= .row 8 (aa (l.map Sp.enc))
theorem jm(k:Kr)(i j:Nat):gB k i j≠.aR:=by intro h;cases h
theorem KI.fB{k:Kr}(hk:KI k){p:Nat}(hp:p<k.ps.length){fd:Int}(h:(fB (aA k.ps p) fd).2=0):∃(n j:Nat),(Kn.fB (aA k.ps p) fd).1.1=n/\n<k.ops.length/\fJ k.ops n=j/\j<k.l.length:=by
 obtain⟨i,s,_,hs,hh,he,_⟩:=ng h;have hs:=Sj hs;rw[ef hp]at hs;obtain⟨_,n,o,h1,h2,h3⟩:=hk.cap _ (aar hp) s hs hh;obtain⟨j,h4,h5⟩:∃j:Nat,o.bo=j/\j<k.l.length:=by obtain⟨j,x,h4,h5,_⟩:=h3;exact⟨j,h4,(JJ.1 h5).1⟩
 refine⟨n,j,by rw[he];exact h1,(JJ.1 h2).1,?_,h5⟩
 rw[fJ,aae,h2];exact h4
def lD(W:Wt):Bk:= .mo 2 (pi W) none
theorem Ir(Y:Nat->Nat)(W:Wt):(pi W).map (MO.bg Y)=pi W:=by rw[pi,abZ];rfl
theorem fv(Y:Nat->Nat)(W:Wt):(lD W).bg Y=lD W:=by show Bk.mo 2 ((pi W).map (MO.bg Y)) none=_;rw[Ir];rfl
theorem jC(W:Wt):lD W≠.aR:=by intro h;cases h
def CQ(k:Kr)(W:Wt)(l:List Sp)(T:List Sp)(r:CV)(m:Mem):Prop:=
 ∃r' m',View 3 ⟨[r],m⟩ ⟨[r'],m'⟩/\r'= .bz []/\((T=[]/\m'=[gB k 1 2,lD W,eT l])\/(∃x,T=[x]/\m'=[gB k 1 3,lD W,.aR,eT (l++ [x])]))
theorem l42:bw prog f42=some c42.er:=by kernel_rfl
theorem KH(k:Kr)(hk:KI k)(W:Wt)(l:List Sp)(hl:l.length<=100000)(c:Int)(p:Nat)(hp:p<k.ps.length)(fd h f g:Int):
  body prog c42 [.rv (.one (.ptr 0 0)),an .i64 c,an .i64 (p:Nat),an .i64 fd,an .i64 h,an .i64 f,an .i64 g] [gB k 1 2,lD W,eT l] (CQ k W l (eS k c p fd h f g)):=by
 have hg:=dy hp;rw[<-ef hp]at hg;have hc:eS k c p fd h f g=if(fB (aA k.ps p) fd).2≠0 then []else [⟨c,p,fd,h,f,g,(fB (aA k.ps p) fd).1.2,fJ k.ops (fB (aA k.ps p) fd).1.1⟩]:=rfl
 rw[hc];clear hc;have hh:= @KI.fB k hk p hp fd;refine af hg ?_;refine Bv _ fd ?_;generalize fB (aA k.ps p) fd=w at hh|-;obtain⟨⟨o,r⟩,e⟩:=w;refine bt (λhe=>?_) (λhe=>?_)
 .have he:e≠0:=he;rw[if_pos he];exact⟨_,_,View.o 4 [0,1,2] [] (.eq rfl .nil) (.pt rfl rfl (.eq rfl (jm _ _ _)) (.pt rfl rfl (.eq (fv _ _) (jC _)) (.pn rfl rfl rfl))),rfl,.inl ⟨rfl,rfl⟩⟩
 .have he:e=0:=he;subst he;rw[if_neg aC];obtain⟨n,j,h1,h2,h3,h4⟩:=hh rfl;have h1:o=n:=h1;subst h1;have ho:fJ k.ops (n:Int)=k.ops[n].bo:=by rw[fJ,aae,vl h2]
  refine af (pF h2) ?_;refine⟨⟨rfl,trivial⟩,?_⟩;refine⟨by simp only[bV,aa,Nr,aaj,aa9];omega,trivial,trivial,?_⟩
  rw[show fJ k.ops ((n:Int),r).1=k.ops[n].bo from ho];refine⟨_,[gB k 1 3,lD W,.aR,eT (l++ [⟨c,p,fd,h,f,g,r,k.ops[n].bo⟩])],View.o 6 [0,1,2,5] [] (.eq rfl .nil) (.pt rfl rfl (.eq rfl (jm _ _ _)) (.pt rfl rfl (.eq (fv _ _) (jC _)) (.aR (.pt rfl rfl ?_ (.nil _))))),rfl,.inr ⟨_,rfl,rfl⟩⟩;rw[eT,aby];exact .bI (da (List.map Sp.enc l) (List.map Sp.enc [⟨c,p,fd,h,f,g,r,k.ops[n].bo⟩])).symm
theorem l43:bw prog f43=some c43.er:=by kernel_rfl
theorem OQ(b:Kr)(hk:KI b)(p:Nat)(hp:p<b.ps.length)(fd:Int)(he:(fB (aA b.ps p) fd).2=0):
  body prog c43 [.rv (.one (.ptr 0 0)),an .i64 (p:Nat),an .i64 fd] [kB b] (λr m=>r= .bz [cG (lO b p fd),cG (lB b.l (lO b p fd))]/\∃ex,m=kB b::ex):=by
 have hg:=dy hp;rw[<-ef hp]at hg;rw[lO];have hh:= @KI.fB b hk p hp fd he;refine af hg ?_;refine Bv _ fd ?_;generalize fB (aA b.ps p) fd=w at hh he|-;obtain⟨⟨o,r⟩,e⟩:=w;have he:e=0:=he;subst he;obtain⟨n,j,h1,h2,h3,h4⟩:=hh;have h1:o=n:=h1;subst h1;have ho:fJ b.ops (n:Int)=b.ops[n].bo:=by rw[fJ,aae,vl h2]
 have YH:b.ops[n].bo=(j:Int):=by rw[<-ho];exact h3
 have yn:lB b.l (j:Nat)=b.l[j].bq:=by rw[lB,aae,vl h4]
 refine af (pF h2) ?_;have hj:=AV h4;rw[<-YH]at hj;refine af hj ?_;show _=CV.bz [cG (fJ b.ops (n:Int)),cG (lB b.l (fJ b.ops (n:Int)))]/\_;rw[h3,yn,YH];exact⟨rfl,_,rfl⟩
end Kn
def c20:LF:= ⟨200,[],(.seq (.ai [qm 18 2,qu 19 (.aO 18),qf 20 0 19,ql 21 20,qm 10 21]) (.seq (.ai [qm 22 2,qu 23 (.aO 22),qf 24 1 23,ql 25 24]) (.block 0 (.seq (.ai [qu 27 (.aJ .eql 25 (qi 2)),qm 26 27]) (.cond 26 (.ai [qm 28 0,qm 29 1,qm 30 10,qm 31 3,qu 32 (.aO 31),qf 33 1 32,ql 34 33,qu 35 (qc 42 [28,29,30,34,qi 1,(qi (-1)),qi 0])]) (.seq (.seq (.ai [qu 37 (.aJ .eql 25 (qi 3)),qm 36 37]) (.cond 36 .skip (.ai [qu 38 (.aJ .eql 25 (qi 8)),qm 36 38]))) (.cond 36 (.bR [qm 39 0,qm 40 1,qm 41 10,qm 42 3,qu 43 (.aO 42),qf 44 1 43,ql 45 44,qm 46 10,qm 47 2,qu 48 (.aO 47),qf 49 2 48,ql 50 49,qu 51 (qc 42 [39,40,41,45,qi 3,46,50])] [(eh 12 0 (.cons 12 (some []) .nil))]) (.seq (.ai [qu 53 (.aJ .eql 25 (qi 9)),qm 52 53]) (.cond 52 (.bR [qm 54 0,qm 55 1,qm 56 10,qm 57 2,qu 58 (.aO 57),qf 59 2 58,ql 60 59,qm 61 10,qm 62 2,qu 63 (.aO 62),qf 64 2 63,ql 65 64,qu 66 (qc 42 [54,55,56,60,qi 3,61,65])] [(eh 12 0 (.cons 12 (some []) .nil))]) (.seq (.ai [qu 68 (.aJ .eql 25 (qi 15)),qm 67 68]) (.cond 67 (.seq (.ai [qm 69 0,qm 70 1,qm 71 10,qm 72 3,qu 73 (.aO 72),qf 74 1 73,ql 75 74,qu 76 (qc 42 [69,70,71,75,qi 2,(qi (-1)),qi 0])]) (.ai [qm 77 0,qm 78 1,qm 79 10,qm 80 3,qu 81 (.aO 80),qf 82 2 81,ql 83 82,qu 84 (qc 42 [77,78,79,83,qi 2,(qi (-1)),qi 0])])) (.seq (.ai [qu 86 (.aJ .eql 25 (qi 16)),qm 85 86]) (.cond 85 (.seq (.ai [qm 88 4,qm 89 10,qm 90 2,qu 91 (.aO 90),qf 92 2 91,ql 93 92,qu 94 (qc 43 [88,89,93]),qm 87 94,qu 95 (.ext 87 0),qu 96 (.ext 87 1),qm 11 95,qm 12 96]) (.bR [qm 97 0,qu 98 (.aO 97),qf 99 3 98,ql 100 99,qm 101 12,qm 102 0,qu 103 (.aO 102),qf 104 3 103,ql 105 104,qm 106 12,qu 107 (.Ah (.one .aK) (.i .i64) 105 106 false),qm 108 10,qm 109 2,qu 110 (.aO 109),qf 111 3 110,ql 112 111,qu 113 (.build [qd 0,qd 0] [(0,1,108),(1,1,112)]),qu 114 (.nw 2 [qd 0,qd 0] 1 [(0,113)]),qu 115 (.ov 2 16 107 114),qw (.vI (.i .i64) 100 101 115)] [(eh 10 0 (eh 6 11 (.vJ (.cons 10 (some [15,3]) (.cons 17 (some [8,3]) (.cons 18 (some [3]) (.cons 19 (some []) .nil)))) (.cons 17 (some [8,3]) (.cons 10 (some [15,3]) (.cons 18 (some [3]) (.cons 19 (some []) .nil)))))))])) (.seq (.ai [qu 117 (.aJ .eql 25 (qi 17)),qm 116 117]) (.cond 116 (.seq (.ai [qm 119 4,qm 120 10,qm 121 2,qu 122 (.aO 121),qf 123 2 122,ql 124 123,qu 125 (qc 43 [119,120,124]),qm 118 125,qu 126 (.ext 118 0),qu 127 (.ext 118 1),qm 13 126,qm 14 127]) (.seq (.ai [qm 128 0,qu 129 (.aO 128),qf 130 3 129,ql 131 130,qm 132 13,qu 133 (.Ah (.one .aK) (.i .i64) 131 132 false),qu 134 (.cr 2 133 (qi 0)),qL 135 2 134,qu 15 (.alloc [qd 0,qd 0]),qw (.store 2 15 135)]) (.seq (.bR [qm 136 0,qu 137 (.aO 136),qf 138 3 137,ql 139 138,qm 140 13,qm 141 0,qu 142 (.aO 141),qf 143 3 142,ql 144 143,qm 145 13,qu 146 (.Ah (.one .aK) (.i .i64) 144 145 false),qu 147 (.nT 2 146 (some (qi 1)) none none),qw (.vI (.i .i64) 139 140 147)] [(eh 10 0 (.cons 10 (some [3]) (.cons 11 none (.cons 12 (some []) .nil))))]) (.seq (.ai [qm 148 3,qu 149 (.aO 148),qf 150 2 149,ql 151 150,qu 152 (.aJ .geq 151 (qi 0))]) (.cond 152 (.bR [qm 153 0,qm 154 1,qm 155 10,qm 156 3,qu 157 (.aO 156),qf 158 2 157,ql 159 158,qf 160 0 15,ql 161 160,qf 162 1 15,ql 163 162,qu 164 (qc 42 [153,154,155,159,qi 3,161,163])] [(eh 11 0 (.cons 11 (some []) .nil))]) .skip))))) (.seq (.ai [qu 166 (.aJ .eql 25 (qi 18)),qm 165 166]) (.cond 165 (.seq (.seq (.ai [qm 167 4,qu 168 (.aO 167),qf 169 2 168,ql 170 169,qm 171 10,qu 172 (.cr 4 170 171),qf 173 3 172,ql 174 173,qu 175 (qc 44 [174]),qu 176 (.len 1 175),qu 177 (.aI (qi 0))]) (.block 1 (.loop (.seq (.ai [qu 178 (.aJ .lss 177 176)]) (.seq (.cond 178 .skip (.exit 1)) (.seq (.block 2 (.seq (.ai [qu 179 (.cr 1 175 177),ql 180 179,qm 17 180]) (.ai [qm 181 0,qm 182 1,qm 183 3,qu 184 (.aO 183),qf 185 1 184,ql 186 185,qm 187 17,qm 188 10,qm 189 17,qu 190 (qc 42 [181,182,186,187,qi 3,188,189])]))) (.ai [qu 191 (.aJ .add 177 (qi 1)),qm 177 191]))))))) (.ai [qm 192 0,qm 193 1,qm 194 10,qm 195 3,qu 196 (.aO 195),qf 197 2 196,ql 198 197,qu 199 (qc 42 [192,193,194,198,qi 2,(qi (-1)),qi 0])])) .skip)))))))))))))))))⟩
namespace Kn
def aB(a:An):Bk:= .var (a.enc.map .ah)
theorem xZ(a:An):aB a≠.aR:=by intro h;cases h
theorem iX(k:Kr):kB k≠.aR:=by intro h;cases h
theorem x4(Y:Nat->Nat)(l:List Sp):(eT l).bg Y=eT l:=Bk.js _ _
theorem jH(k:Kr)(hk:KI k)(W:Wt)(l:List Sp)(hl:l.length<=100000)(c:Int)(z:Int)(p:Nat)(hz:z=p)(hp:p<k.ps.length)(fd h f g:Int){m:Mem}(R n:Nat)(hn:m.length=n)(hd:fy [0,1,R]=true)(ha:eI n [0,1,R]=true)(h0:cD m 0=some (gB k 1 R))(h1:cD m 1=some (lD W))(h2:cD m R=some (eT l)){K:CV->Mem->Prop}(Tm:eS k c p fd h f g=[]->K (.bz []) (cW m [0,1,R] [gB k 1 R,lD W,eT l]))(hK2:∀x,eS k c p fd h f g=[x]->K (.bz []) (cW m [0,1,R] [gB k 1 n,lD W,.aR,eT (l++ [x])])):
  ap prog 42 [.rv (.one (.ptr 0 0)),an .i64 c,an .i64 z,an .i64 fd,an .i64 h,an .i64 f,an .i64 g] m K:=by
 subst hz;refine bu [0,1,R] n hn rfl hd ha (args0:=[.rv (.one (.ptr 0 0)),an .i64 c,an .i64 (p:Nat),an .i64 fd,an .i64 h,an .i64 f,an .i64 g]) rfl (λi b' hi=>?_)
  (bH (b8 func42 l42 (KH k hk W l hl c p hp fd h f g)) λr m1⟨r',m',hv,hq⟩=>⟨r',m',hv,hq⟩) (λr1 m1 rS=>?_)
 .rw[aT]at h0 h1 h2
  match i,hi with
  |0,hi=>cases hi;exact .inr ⟨λh=>h,_,h0,.eq rfl (jm _ _ _)⟩
  |1,hi=>cases hi;exact .inr ⟨λh=>h,_,h1,.eq (fv _ _) (jC _)⟩
  |2,hi=>cases hi;exact .inr ⟨λh=>h,_,h2,.bI rfl⟩
  |i+3,hi=>simp at hi
 .obtain⟨rfl,⟨he,rfl⟩|⟨x,he,rfl⟩⟩:=rS
  .refine⟨T5 _,?_⟩;have:mU (sg [0,1,R] n) [gB k 1 2,lD W,eT l]=[gB k 1 R,lD W,eT l]:=by simp only[mU,fv,x4];rfl
   rw[this];exact Tm he
  .refine⟨aC,?_⟩;have:mU (sg [0,1,R] n) [gB k 1 3,lD W,.aR,eT (l++ [x])]=[gB k 1 n,lD W,.aR,eT (l++ [x])]:=by simp only[mU,fv,x4];rfl
   rw[this];exact hK2 x he
theorem OR(b:Kr)(hk:KI b)(z:Int)(p:Nat)(hz:z=p)(hp:p<b.ps.length)(fd:Int)(he:(fB (aA b.ps p) fd).2=0){m:Mem}(id:Nat)(hb:cD m id=some (kB b)){K:CV->Mem->Prop}(hK:K (.bz [cG (lO b p fd),cG (lB b.l (lO b p fd))]) m):
  ap prog 43 [.rv (.one (.ptr id 0)),an .i64 z,an .i64 fd] m K:=by
 subst hz;exact fo (args0:=[.rv (.one (.ptr 0 0)),an .i64 (p:Nat),an .i64 fd]) (cs:=kC b.l b.ops b.ps) id hb rfl rfl
  (λ_ hK=>eQ rfl (b8 func43 l43 (OQ b hk p hp fd he)) hK) hK
theorem Q8(l:List ft)(hl:l.length<=2097152){m:Mem}{K:CV->Mem->Prop}(h:K (Tb.Nf (GQ l)) m):ap prog 44 [m5 l] m K:=by
 rw[t7];exact Tb.TK _ (by simpa using hl) h
def D0(x:Int):Prop:=x=2\/x=3\/x=8\/x=9\/x=15\/x=17\/x=18
structure BM(c:Cl)(a:An)(b k:Kr)(W:Wt)(p:Nat):Prop where
 kb:KI b
 kk:KI k
 pc:c.bb=p
 pb:p<b.ps.length
 pk:D0 c.ag->p<k.ps.length
 X7:c.ag=16\/c.ag=17->(fB (aA b.ps p) c.fd).2=0
 ws:∀e,e∈W->e.2.length<=100000
 got:c.ag=17->∃x r,gA (lO b p c.fd) W=some (x::r)
 X8:c.ag=18->∃n:Nat,a.n=n/\n<k.ps.length
def SQ(c:Cl)(a:An)(b k:Kr)(out:List Sp)(x:Wt×List Sp)(r:CV)(m:Mem):Prop:=
 ∃r' m',View 6 ⟨[r],m⟩ ⟨[r'],m'⟩/\r'= .bz []/\m'=[gB k 1 6,lD x.1,.aR,cB c,aB a,kB b,eT (out++x.2)]
theorem hU{c:Cl}{a:An}{b k:Kr}{W:Wt}{out:List Sp}{ex:Mem}(hx:eI (6+ex.length) [0,1,2,3,4,5]=true):SQ c a b k out (W,[]) (.bz []) ([gB k 1 2,lD W,eT out,cB c,aB a,kB b]++ex):=by
 refine⟨_,[gB k 1 6,lD W,.aR,cB c,aB a,kB b,eT out],View.of2 (6+ex.length) 2 [0,1,2,3,4,5] (by simp;omega) rfl rfl rfl rfl hx rfl rfl (.eq rfl .nil)
  (.pt rfl rfl (.eq rfl (jm _ _ _)) (.pt rfl rfl (.eq (fv _ _) (jC _)) (.aR (.pt rfl rfl (.eq rfl (jk _)) (.pt rfl rfl (.eq rfl (xZ _)) (.pt rfl rfl (.eq rfl (iX _)) (.pn rfl rfl rfl))))))),rfl,?_⟩
 rw[ab3]
theorem mC{c:Cl}{a:An}{b k:Kr}{W:Wt}{out T:List Sp}{m:Mem}(N M:Nat)(hm:m.length=M)(hd:fy [0,1,2,3,4,5,N]=true)(ha:eI M [0,1,2,3,4,5,N]=true)(h0:cD m 0=some (gB k 1 N))(h1:cD m 1=some (lD W))(h3:cD m 3=some (cB c))(h4:cD m 4=some (aB a))(h5:cD m 5=some (kB b))(h6:cD m N=some (eT (out++T))):SQ c a b k out (W,T) (.bz []) m:=
 ⟨_,[gB k 1 6,lD W,.aR,cB c,aB a,kB b,eT (out++T)],View.of M [0,1,2,3,4,5,N] [] hm rfl rfl rfl hd ha (.eq rfl .nil)
  (.put (dD rfl) h0 (.eq rfl (jm _ _ _)) (.put (dD rfl) h1 (.eq (fv _ _) (jC _)) (.aR (.put (dD rfl) h3 (.eq rfl (jk _)) (.put (dD rfl) h4 (.eq rfl (xZ _)) (.put (dD rfl) h5 (.eq rfl (iX _)) (.put (dD rfl) h6 (.bI rfl) (.nil _)))))))),rfl,rfl⟩
theorem l20:bw prog Tryz.f20=some c20.er:=by kernel_rfl
theorem t6(i:Int)(c:Cl)(a:An)(b k:Kr)(W:Wt)(out:List Sp)(ho:out.length<=90000)(p:Nat)(h:BM c a b k W p):
  body prog c20 [.rv (.one (.ptr 0 0)),an .i64 i,.rv (.one (.ptr 3 0)),.rv (.one (.ptr 4 0)),.rv (.one (.ptr 5 0))] [gB k 1 2,lD W,eT out,cB c,aB a,kB b] (SQ c a b k out (eB i p c a b k W)):=by
 have Lg:=h.pc;refine bs (λh2=>?_) (λh2=>?_)
 .have h2:c.ag=2:=h2;have GR:=h.pk (.inl h2);rw[eB,if_pos h2];refine jH (m:=[gB k 1 2,lD W,eT out,cB c,aB a,kB b]) k h.kk W out om i c.bb p Lg GR a.n 1 (-1) 0 2 6 rfl rfl rfl rfl rfl rfl (λhe=>?_) (λx he=>?_)
  .rw[he];exact hU (ex:=[]) rfl
  .rw[he];exact mC 6 7 rfl rfl rfl rfl rfl rfl rfl rfl rfl
 have h2:¬c.ag=2:=h2;have s38:∀(hk:c.ag=3\/c.ag=8),eB i p c a b k W=(W,eS k i p a.n 3 c.bb c.fd):=λhk=>by rw[eB,if_neg h2,if_pos hk]
 refine bs (λh3=>?_) (λh3=>?_)
 .have GR:=h.pk (.inr (.inl h3));rw[s38 (.inl h3)];refine jH (m:=[gB k 1 2,lD W,eT out,cB c,aB a,kB b]) k h.kk W out om i c.bb p Lg GR a.n 3 c.bb c.fd 2 6 rfl rfl rfl rfl rfl rfl (λhe=>⟨trivial,?_⟩) (λx he=>⟨trivial,?_⟩)
  .rw[he];exact hU (ex:=[]) rfl
  .rw[he];exact mC 6 7 rfl rfl rfl rfl rfl rfl rfl rfl rfl
 have h3:¬c.ag=3:=h3;refine bs (λh8=>?_) (λh8=>?_)
 .have GR:=h.pk (.inr (.inr (.inl h8)));rw[s38 (.inr h8)];refine jH (m:=[gB k 1 2,lD W,eT out,cB c,aB a,kB b]) k h.kk W out om i c.bb p Lg GR a.n 3 c.bb c.fd 2 6 rfl rfl rfl rfl rfl rfl (λhe=>⟨trivial,?_⟩) (λx he=>⟨trivial,?_⟩)
  .rw[he];exact hU (ex:=[]) rfl
  .rw[he];exact mC 6 7 rfl rfl rfl rfl rfl rfl rfl rfl rfl
 have h8:¬c.ag=8:=h8;clear s38;have Vf:¬(c.ag=3\/c.ag=8):=λh=>h.elim h3 h8
 refine bs (λh9=>?_) (λh9=>?_)
 .have GR:=h.pk (.inr (.inr (.inr (.inl h9))));rw[eB,if_neg h2,if_neg Vf,if_pos h9];refine jH (m:=[gB k 1 2,lD W,eT out,cB c,aB a,kB b]) k h.kk W out om i c.bb p Lg GR c.fd 3 c.bb c.fd 2 6 rfl rfl rfl rfl rfl rfl (λhe=>⟨trivial,?_⟩) (λx he=>⟨trivial,?_⟩)
  .rw[he];exact hU (ex:=[]) rfl
  .rw[he];exact mC 6 7 rfl rfl rfl rfl rfl rfl rfl rfl rfl
 have h9:¬c.ag=9:=h9;refine bs (λQ9=>?_) (λQ9=>?_)
 .have GR:=h.pk (.inr (.inr (.inr (.inr (.inl Q9)))));rw[eB,if_neg h2,if_neg Vf,if_neg h9,if_pos Q9];refine jH (m:=[gB k 1 2,lD W,eT out,cB c,aB a,kB b]) k h.kk W out om i c.bb p Lg GR a.n 2 (-1) 0 2 6 rfl rfl rfl rfl rfl rfl (λhe=>?_) (λx he=>?_)
  .refine jH (m:=[gB k 1 2,lD W,eT out,cB c,aB a,kB b]) k h.kk W out om i c.bb p Lg GR a.m 2 (-1) 0 2 6 rfl rfl rfl rfl rfl rfl (λke=>?_) (λy ke=>?_)
   .rw[he,ke];exact hU (ex:=[]) rfl
   .rw[he,ke];exact mC 6 7 rfl rfl rfl rfl rfl rfl rfl rfl rfl
  .refine jH (m:=[gB k 1 6,lD W,.aR,cB c,aB a,kB b,eT (out++ [x])]) k h.kk W (out++ [x]) (by simp;omega) i c.bb p Lg GR a.m 2 (-1) 0 6 7 rfl rfl rfl rfl rfl rfl (λke=>?_) (λy ke=>?_)
   .rw[he,ke];exact mC 6 7 rfl rfl rfl rfl rfl rfl rfl rfl rfl
   .rw[he,ke];have e:out++([x]++ [y])=out++ [x]++ [y]:=aC;refine mC 7 8 rfl rfl rfl rfl rfl rfl rfl rfl ?_;rw[e];rfl
 have Q9:¬c.ag=15:=Q9;refine bs (λGS=>?_) (λGS=>?_)
 .rw[eB,if_neg h2,if_neg Vf,if_neg h9,if_neg Q9,if_pos GS];refine OR b h.kb c.bb p Lg h.pb c.fd (h.X7 (.inl GS)) 5 rfl ?_;generalize lB b.l (lO b p c.fd)=q;have hF:=sU q W 0;have hG:=BJ q W 0;cases hx:Ep q W 0 with
  |none=>
   rw[hx]at hF hG;have hG:none=gA q W:=hG;rw[<-hG];have hS:=Iq q [(c.bb,c.fI)] W;refine⟨?_,?_⟩
   .refine af hF ?_;refine⟨⟨rfl,rfl,trivial⟩,⟨rfl,rfl,trivial⟩,(show(0+1)*16<=140737488355328 by decide),⟨rfl,trivial⟩,?_⟩
    exact⟨[wE (c.bb,c.fI)],_,rfl,hS,trivial,hU (ex:=[.aR,.aR]) rfl⟩
   .refine⟨⟨rfl,rfl,trivial⟩,?_⟩;refine af hF ?_;refine⟨⟨rfl,rfl,trivial⟩,(show(0+1)*16<=140737488355328 by decide),⟨rfl,trivial⟩,?_⟩
    exact⟨[wE (c.bb,c.fI)],_,rfl,hS,trivial,hU (ex:=[.aR,.aR]) rfl⟩
  |some r=>
   obtain⟨j,v⟩:=r;rw[hx]at hF hG;have hG:some v=gA q W:=hG;rw[<-hG];obtain⟨_,E8⟩:=BK q W 0 j v hx;have hv:v.length<=100000:=h.ws _ (Sj E8);have hS:∀n,mE (.int .i64 q) (.d5 ((v++ [(c.bb,c.fI)]).map wE)) (aW (pi W) j ⟨.int .i64 q,.row n⟩)=some (pi (jB q (v++ [(c.bb,c.fI)]) W)):=λn=>by rw[aY];exact BL q _ (.row n) W 0 j v hx
   have hR:bV ((v.map wE).map λds=>ds.map CC.ah) 0 none++bV [[CC.ah (.val (.int .i64 c.bb)),CC.ah (.val (.int .i64 c.fI))]] 0 none=((v++ [(c.bb,c.fI)]).map wE).map λd=>d.map CC.ah:=by rw[aby,aby];rfl
   have dj:((bV ((v.map wE).map λds=>ds.map CC.ah) 0 none).length+(bV [[CC.ah (.val (.int .i64 c.bb)),CC.ah (.val (.int .i64 c.fI))]] 0 none).length)*16<=140737488355328:=by simp only[bV,Nr,aaj,aa9];omega
   refine⟨?_,?_⟩
   .refine af hF ?_;refine⟨⟨rfl,rfl,trivial⟩,⟨rfl,rfl,trivial⟩,dj,⟨rfl,trivial⟩,?_⟩;exact⟨(v++ [(c.bb,c.fI)]).map wE,_,hR,hS 6,trivial,hU (ex:=[.aR,.aR,.aR]) rfl⟩
   .refine⟨⟨rfl,rfl,trivial⟩,?_⟩;refine af hF ?_;refine⟨⟨rfl,rfl,trivial⟩,dj,⟨rfl,trivial⟩,?_⟩;exact⟨(v++ [(c.bb,c.fI)]).map wE,_,hR,hS 7,trivial,hU (ex:=[.aR,.aR,.aR]) rfl⟩
 have GS:¬c.ag=16:=GS;refine bs (λD1=>?_) (λD1=>?_)
 .have GR:=h.pk (.inr (.inr (.inr (.inr (.inr (.inl D1))))));obtain⟨x,r,hw⟩:=h.got D1;obtain⟨T,hT⟩:∃T,T=if a.m>=0 then eS k i p a.m 3 x.1 x.2 else []:=⟨_,rfl⟩
  rw[show eB i p c a b k W=(jB (lO b p c.fd) r W,T) by rw[eB,if_neg h2,if_neg Vf,if_neg h9,if_neg Q9,if_neg GS,if_pos D1,hw,hT]]
  refine OR b h.kb c.bb p Lg h.pb c.fd (h.X7 (.inr D1)) 5 rfl ?_;generalize lB b.l (lO b p c.fd)=q0;generalize lO b p c.fd=q at hw|-;have hF:=sU q W 0;have hG:=BJ q W 0;rw[hw]at hG;obtain⟨⟨j,v⟩,hx,hv⟩:=aau.1 hG;have hv:v=x::r:=hv;subst hv;rw[hx]at hF;have hFT:iH (.int .i64 q) (aW (pi W) j ⟨.int .i64 q,.row 6⟩) 0=some (some (j,.row 6)):=by rw[aY];exact DZ q (.row 6) W 0 j _ hx
  have hS:mE (.int .i64 q) (.d5 (bV ((x::r).map wE) 1 (some (List.length (((x::r).map wE).map λds=>ds.map CC.ah))))) (aW (pi W) j ⟨.int .i64 q,.row 6⟩)=some (pi (jB q r W)):=by
   rw[aY,show bV ((x::r).map wE) 1 (some (List.length (((x::r).map wE).map λds=>ds.map CC.ah)))=r.map wE by simp[bV];rw[ab1 aC]]
   exact BL q r (.row 6) W 0 j _ hx
  refine af hF ?_;refine af hFT ?_;refine⟨⟨rfl,trivial⟩,?_⟩;refine cE (by simp[lenOf]) ?_
  refine⟨(x::r).map wE,_,rfl,hS,trivial,?_⟩;refine aN (λhm=>?_) (λhm=>?_)
  .have hm:a.m>=0:=hm;rw[if_pos hm]at hT;subst hT;refine jH (m:=[gB k 1 2,lD (jB q r W),eT out,cB c,aB a,kB b,.aR,.var [.ah (.val (.int .i64 x.1)),.ah (.val (.int .i64 x.2))]]) k h.kk (jB q r W) out om i c.bb p Lg GR a.m 3 x.1 x.2 2 8 rfl rfl rfl rfl rfl rfl (λhe=>⟨trivial,?_⟩) (λy he=>⟨trivial,?_⟩)
   .rw[he];exact hU (ex:=[.aR,.var _]) rfl
   .rw[he];exact mC 8 9 rfl rfl rfl rfl rfl rfl rfl rfl rfl
  .have hm:¬a.m>=0:=hm;rw[if_neg hm]at hT;subst hT;exact hU (ex:=[.aR,.var _]) rfl
 have D1:¬c.ag=17:=D1;refine bs (λPq=>?_) (λPq=>?_)
 .have GR:=h.pk (.inr (.inr (.inr (.inr (.inr (.inr Pq))))));obtain⟨n,hn,hnk⟩:=h.X8 Pq;rw[eB,if_neg h2,if_neg Vf,if_neg h9,if_neg Q9,if_neg GS,if_neg D1,if_pos Pq,show a.n.toNat=n by rw[hn];rfl]
  have hg:=dy h.pb;rw[<-ef h.pb,<-Lg]at hg;have y8:(aA b.ps p).length<=10:=by rw[ef h.pb];exact h.kb.sl _ (aar h.pb)
  have hL:(GQ (aA b.ps p)).length<=10:=by have:=Tb.sn ((aA b.ps p).map mw) 0;rw[Nr]at this;exact abP this y8
  refine af hg ?_;refine Q8 _ om ?_;generalize GQ (aA b.ps p)=L at hL|-;have PD:∀(m:List Int),(f4 k i n c.bb m).length<=m.length:=λm=>by
   induction m with
   |nil=>simp[f4]
   |cons y r ih=>
    have h1:f4 k i n c.bb (y::r)=eS k i n y 3 c.bb y++f4 k i n c.bb r:=by simp[f4]
    have h2:(eS k i n y 3 c.bb y).length<=1:=by unfold eS;split<;>simp
    rw[h1,aaL,aaj];omega
  refine ba (λj=>j<=L.length) [0,1,3,10,175,176] (λj=>[(177,an .i64 (j:Nat))])
   (λj=>[gB k 1 6,lD W,.aR,cB c,aB a,kB b,eT (out++f4 k i n c.bb (L.take j))]) (λj=>L.length-j) 0 (aan _) ?_ (λj hj=>?_)
  .refine View.of2 6 2 [0,1,2,3,4,5] rfl rfl rfl rfl rfl rfl rfl rfl ?_ (.pt rfl rfl (.eq rfl (jm _ _ _)) (.pt rfl rfl (.eq (fv _ _) (jC _)) (.aR (.pt rfl rfl (.eq rfl (jk _)) (.pt rfl rfl (.eq rfl (xZ _)) (.pt rfl rfl (.eq rfl (iX _)) (.pt rfl rfl (.bI ?_) (.nil _))))))))
   .repeat(first|exact .nil|refine .aF ?_|refine .eq rfl ?_)
   .simp[f4]
  have hj:j<=L.length:=hj;refine aN (λaD=>?_) (λaD=>?_)
  .have aD:j<L.length:=by have aD:(j:Int)<((Tb.oW L).length:Int):=aD;rw[Tb.oW,Nr]at aD;omega
   have lJ:dC (Tb.oW L) ((j:Nat):Int)=some [.val (.int .i64 L[j])]:=by rw[bD,Tb.oW,Sf,vl aD];rfl
   have ht:f4 k i n c.bb (L.take (j+1))=f4 k i n c.bb (L.take j)++eS k i n L[j] 3 c.bb L[j]:=by rw[f4,f4,p5 (vl aD),List.flatMap_append,List.flatMap_cons,List.flatMap_nil,ab3]
   have yW:=PD (L.take j);rw[aav]at yW;refine af lJ ?_;refine jH (m:=[gB k 1 6,lD W,.aR,cB c,aB a,kB b,eT (out++f4 k i n c.bb (L.take j))]) k h.kk W (out++f4 k i n c.bb (L.take j)) (by rw[aaL];omega) i a.n n hn hnk L[j] 3 c.bb L[j] 6 7 rfl rfl rfl rfl rfl rfl (λhe=>?_) (λx he=>?_)
   .refine⟨j+1,aD,(show L.length-(j+1)<L.length-j by omega),View.o2 7 [0,1,2,3,4,5,6] [] (.pt rfl rfl (.eq rfl (jm _ _ _)) (.pt rfl rfl (.eq (fv _ _) (jC _)) (.aR (.pt rfl rfl (.eq rfl (jk _)) (.pt rfl rfl (.eq rfl (xZ _)) (.pt rfl rfl (.eq rfl (iX _)) (.pt rfl rfl (.bI ?_) (.nil _))))))))⟩
    .rw[ht,he,ab3]
   .refine⟨j+1,aD,(show L.length-(j+1)<L.length-j by omega),View.o2 8 [0,1,2,3,4,5,7] [] (.pt rfl rfl (.eq rfl (jm _ _ _)) (.pt rfl rfl (.eq (fv _ _) (jC _)) (.aR (.pt rfl rfl (.eq rfl (jk _)) (.pt rfl rfl (.eq rfl (xZ _)) (.pt rfl rfl (.eq rfl (iX _)) (.pt rfl rfl (.bI ?_) (.nil _))))))))⟩
    .rw[ht,he,acy]
  .have Ei:j=L.length:=by have aD:¬(j:Int)<((Tb.oW L).length:Int):=aD;rw[Tb.oW,Nr]at aD;omega
   subst Ei;rw[aaN];have yW:=PD L;refine jH (m:=[gB k 1 6,lD W,.aR,cB c,aB a,kB b,eT (out++f4 k i n c.bb L)]) k h.kk W (out++f4 k i n c.bb L) (by rw[aaL];omega) i c.bb p Lg GR a.m 2 (-1) 0 6 7 rfl rfl rfl rfl rfl rfl (λhe=>?_) (λx he=>?_)
   .rw[he,ab3];exact mC 6 7 rfl rfl rfl rfl rfl rfl rfl rfl rfl
   .rw[he];refine mC 7 8 rfl rfl rfl rfl rfl rfl rfl rfl ?_;rw[<-acy];rfl
 have Pq:¬c.ag=18:=Pq;rw[eB,if_neg h2,if_neg Vf,if_neg h9,if_neg Q9,if_neg GS,if_neg D1,if_neg Pq];exact hU (ex:=[]) rfl
theorem Br(i:Int)(c:Cl)(a:An)(b k:Kr)(W:Wt)(out:List Sp)(ho:out.length<=90000)(p:Nat)(h:BM c a b k W p)(X:Bk)(x:Wt×List Sp)(hx:x=eB i p c a b k W){K:CV->Mem->Prop}(hK:K (.bz []) [gB k 1 7,lD x.1,.aR,cB c,aB a,kB b,X,eT (out++x.2)]):
  ap prog 20 [.rv (.one (.ptr 0 0)),an .i64 i,.rv (.one (.ptr 3 0)),.rv (.one (.ptr 4 0)),.rv (.one (.ptr 5 0))] [gB k 1 2,lD W,eT out,cB c,aB a,kB b,X] K:=by
 refine bu [0,1,2,3,4,5] 7 rfl rfl rfl rfl (args0:=[.rv (.one (.ptr 0 0)),an .i64 i,.rv (.one (.ptr 3 0)),.rv (.one (.ptr 4 0)),.rv (.one (.ptr 5 0))]) rfl (λj b' hi=>?_)
  (bH (b8 func20 l20 (t6 i c a b k W out ho p h)) λr m1⟨r',m',hv,hq⟩=>⟨r',m',hv,hq⟩) (λr1 m1 rS=>?_)
 .match j,hi with
  |0,hi=>cases hi;exact .inr ⟨λh=>h,_,rfl,.eq rfl (jm _ _ _)⟩
  |1,hi=>cases hi;exact .inr ⟨λh=>h,_,rfl,.eq (fv _ _) (jC _)⟩
  |2,hi=>cases hi;exact .inr ⟨λh=>h,_,rfl,.bI rfl⟩
  |3,hi=>cases hi;exact .inr ⟨λh=>h,_,rfl,.eq rfl (jk _)⟩
  |4,hi=>cases hi;exact .inr ⟨λh=>h,_,rfl,.eq rfl (xZ _)⟩
  |5,hi=>cases hi;exact .inr ⟨λh=>h,_,rfl,.eq rfl (iX _)⟩
  |j+6,hi=>simp at hi
 .obtain⟨rfl,rfl⟩:=rS;refine⟨aC,?_⟩;rw[<-hx];have:mU (sg [0,1,2,3,4,5] 7) [gB k 1 6,lD x.1,.aR,cB c,aB a,kB b,eT (out++x.2)]=[gB k 1 7,lD x.1,.aR,cB c,aB a,kB b,eT (out++x.2)]:=by simp only[mU,fv,x4];rfl
  rw[this];exact hK
end Kn
namespace Kn
def wL(L:List ((Int×List (Int×Int))×Nat)):Wt:=L.map (·.1)
theorem OS(x:Int):∀(W:Wt)(n i:Nat)(e:Int×List (Int×Int)),(W.map (·.1)).Nodup->W[i]? =some e->e.1=x->Ep x W n=some (n+i,e.2)
 | [],_,_,_,_,h,_=>by simp at h
 |y::r,n,0,e,_,h,he=>by simp only[ack,aat]at h;subst h;rw[Ep,if_pos he.symm];rfl
 |y::r,n,i+1,e,hn,h,he=>by
  rw[aaJ,abS]at hn;have h:r[i]? =some e:=by simpa using h
  have du:¬x=y.1:=λh2=>hn.1 (by rw[<-h2,<-he];exact aas.2 ⟨e,Sj h,rfl⟩)
  rw[Ep,if_neg du,OS x r (n+1) i e hn.2 h he,show n+1+i=n+(i+1) by omega]
abbrev Pr:=List ((Int×List (Int×Int))×Nat)
def vp(l:List Obj)(L0:Pr)(seen:List Nat):Pr:=L0.filter λx=>fW l x.1.1|| !seen.contains x.2
theorem Ra(l:List Obj)(L0:Pr):vp l L0 []=L0:=acF.2 aC
theorem BN:∀{L:Pr}{x y:(Int×List (Int×Int))×Nat},(L.map (·.2)).Nodup->x∈L->y∈L->x.2=y.2->x=y
 | [],_,_,_,h,_,_=>by cases h
 |z::r,x,y,hn,hx,hy,he=>by
  rw[aaJ,abS]at hn;rcases aaB.1 hx with h1|h1<;>rcases aaB.1 hy with h2|h2
  .rw[h1,h2]
  .rw[h1]at he;exact absurd (he▸aas.2 ⟨y,h2,rfl⟩) hn.1
  .rw[h2]at he;exact absurd (he▸aas.2 ⟨x,h1,rfl⟩) hn.1
  .exact BN hn.2 h1 h2 he
theorem Is{α:Type}{p q:α->Bool}(h:∀z,p z=true->q z=true):∀r:List α,(r.filter p).length<=(r.filter q).length
 | []=>T5 _
 |z::r=>by
  have ih:=Is h r;rw[aca,aca];by_cases hp:p z=true
  .rw[if_pos hp,if_pos (h z hp),aaj,aaj];omega
  .rw[if_neg hp];split
   .rw[aaj];omega
   .exact ih
theorem Rb{l:List Obj}{L0:Pr}{seen:List Nat}{s:Nat}{x:(Int×List (Int×Int))×Nat}(hx:x∈L0)(hs:x.2=s)(hn:(L0.map (·.2)).Nodup)(hk:fW l x.1.1=true):vp l L0 (s::seen)=vp l L0 seen:=by
 refine adq λy hy=>?_
 by_cases h:y.2=s
 .have:=BN hn hy hx (h.trans hs.symm);subst this;rw[hk];simp
 .congr 1;simp[h]
theorem D2:∀{L:Pr}{i:Nat}{x:(Int×List (Int×Int))×Nat},L[i]? =some x->(L.map (·.2)).Nodup->L.filter (λy=>!(y.2==x.2))=L.eraseIdx i
 | [],i,e,h,_=>by simp at h
 |x::r,0,e,h,hn=>by
  simp only[ack,aat]at h;subst h;rw[aaJ,abS]at hn;rw[aca,if_neg aC,List.eraseIdx_zero,List.tail_cons];refine acF.2 λy hy=>?_
  have:y.2≠x.2:=λhe=>hn.1 (he▸aas.2 ⟨y,hy,rfl⟩)
  simpa using this
 |x::r,i+1,e,h,hn=>by
  simp only[abC]at h;rw[aaJ,abS]at hn;have:x.2≠e.2:=λhe=>hn.1 (he▸aas.2 ⟨e,Sj h,rfl⟩)
  rw[aca,if_pos (by simpa using this),List.eraseIdx_cons_succ,D2 h hn.2]
theorem Rc{l:List Obj}{L0:Pr}{seen:List Nat}{i:Nat}{x:(Int×List (Int×Int))×Nat}(hx:(vp l L0 seen)[i]? =some x)(hn:(L0.map (·.2)).Nodup)(hk:fW l x.1.1=false):vp l L0 (x.2::seen)=(vp l L0 seen).eraseIdx i:=by
 have PT:((vp l L0 seen).map (·.2)).Nodup:=(List.filter_sublist.map _).nodup hn
 rw[<-D2 hx PT,vp,vp,List.filter_filter];have Ur:x∈L0:=(acm.1 (Sj hx)).1;refine adq λy hy=>?_
 by_cases h:y.2=x.2
 .have:=BN hn hy Ur h;subst this;rw[hk];simp
 .simp[h]
theorem Ux{l:List Obj}{L0:Pr}{seen:List Nat}(h:∀s,s∈(vp l L0 seen).map (·.2)->s∈seen):wL (vp l L0 seen)=sS l (wL L0):=by
 have:vp l L0 seen=L0.filter λx=>fW l x.1.1:=by
  refine adq λy hy=>?_
  cases hk:fW l y.1.1 with
  |true=>rfl
  |false=>
   simp only[acw];cases hc:seen.contains y.2 with
   |true=>rfl
   |false=>
    have:=h y.2 (aas.2 ⟨y,acm.2 ⟨hy,by rw[hc];simp⟩,rfl⟩)
    rw[List.contains_eq_mem]at hc;simp at hc;exact absurd this hc
 rw[this,wL,wL,sS,List.filter_map];rfl
def left(L0:Pr)(seen:List Nat):Nat:=(L0.filter λx=>!seen.contains x.2).length
theorem Rd{L0:Pr}{seen:List Nat}{x:(Int×List (Int×Int))×Nat}(hx:x∈L0)(hs:¬x.2∈seen):left L0 (x.2::seen)<left L0 seen:=by
 unfold left
 induction L0 with
 |nil=>cases hx
 |cons y r ih=>
  have mono:(r.filter λz=>!(x.2::seen).contains z.2).length<=(r.filter λz=>!seen.contains z.2).length:=by exact Is (λz hz=>by simp at hz|-;exact hz.2) r
  rw[aca,aca];rcases aaB.1 hx with rfl|hx
  .rw[if_neg aC,if_pos (by simpa using hs),aaj]
   omega
  .have:=ih hx;by_cases h1:(!(x.2::seen).contains y.2)=true
   .have h2:(!seen.contains y.2)=true:=by simp at h1|-;exact h1.2
    rw[if_pos h1,if_pos h2,aaj,aaj];omega
   .rw[if_neg h1];split
    .rw[aaj];omega
    .exact this
end Kn
namespace Kn
structure oq(k x:Kr):Prop where
 o:∀(i:Nat)o,k.l[i]? =some o->o.ag≠0->∃o':Obj,x.l[i]? =some o'/\o'.ag=o.ag/\o'.bb=o.bb/\(∀z,sE o z->sE o' z)/\
  (∀z,sQ o z->sQ o' z\/∃(t:Nat)(y:bm)(s:ft),x.ps[t]? =some y/\y.aP=true/\s∈y.aU/\s.has=true/\s.dS=z)
 p:∀(c:Nat)o,k.ops[c]? =some o->0<=o.bo->∃o':bF,x.ops[c]? =some o'/\o'.bo=o.bo
 s:∀(t:Nat)y,k.ps[t]? =some y->y.aP=true->∃y':bm,x.ps[t]? =some y'/\y'.aP=true/\∀s,s∈y.aU->s.has=true->∃s',s'∈y'.aU/\s'.has=true/\s'.dS=s.dS
 nl:∀(i:Nat)o,x.l[i]? =some o->o.ag≠0->(∃o0,k.l[i]? =some o0/\o0.ag≠0)\/∃(t:Nat)(y:bm)(s:ft)(c:Nat)(o1:bF),x.ps[t]? =some y/\y.aP=true/\s∈y.aU/\s.has=true/\s.dS=c/\x.ops[c]? =some o1/\o1.bo=i
 no:∀(c:Nat)o,x.ops[c]? =some o->k.ops[c]? =some o\/∃(t:Nat)(y:bm)(s:ft),x.ps[t]? =some y/\y.aP=true/\s∈y.aU/\s.has=true/\s.dS=c
 np:∀(t:Nat)y,x.ps[t]? =some y->y.aP=true->(∃y0,k.ps[t]? =some y0/\y0.aP=true)\/∃o,o∈x.l/\dF (t:Int) o=true
theorem oq.vO{k x:Kr}(e:oq k x){z:Int}{n:Nat}(h:_root_.Go.Proofs.YtodckkkbiidffaaGreatDoor.vO k.l z n):_root_.Go.Proofs.YtodckkkbiidffaaGreatDoor.vO x.l z n:=by
 obtain⟨rfl,o,ho,hk⟩:=h;obtain⟨o',h1,h2,-⟩:=e.o n o ho hk;exact⟨rfl,o',h1,by rw[h2];exact hk⟩
theorem oq.M1{k x:Kr}(e:oq k x)(hk:KI k){b b2:Mk}(hb:gL k.l k.ops k.ps b)(hx:gL x.l x.ops x.ps b2):
  (∀i,dp b.O i->dp b2.O i)/\∀(c:Nat),dp b.P c->∀o,k.ops[c]? =some o->0<=o.bo->dp b2.P c:=by
 have hvP:∀(c:Nat)o,k.ops[c]? =some o->0<=o.bo->∀z:Int,z=c->vP x.ops z c:=λc o ho h0 z hz=>by obtain⟨o',h1,_⟩:=e.p c o ho h0;exact⟨hz,(JJ.1 h1).1⟩
 have iY:=hb.n8 (λi=>dp b2.O i) (λc=>∀o,k.ops[c]? =some o->0<=o.bo->dp b2.P c) ⟨λi o hi ho z n hz hv=>?_,λi o hi ho z c hz hv o1 SR h0=>?_,λc o hc ho n hv=>?_⟩
  ⟨λn hv=>hx.m7.1 n (e.vO hv),λp pr hp b9 s hs hh c hv o1 SR h0=>?_⟩
 .exact⟨iY.1,iY.2⟩
 .have h0:o.ag≠0:=λh0=>by rw[hk.z o (Sj ho) h0]at hz;obtain⟨nm,L7⟩:=hz;simp[gV]at L7
  obtain⟨o',h1,-,-,h4,-⟩:=e.o i o ho h0;exact hx.cl.e i o' hi h1 z n (h4 z hz) (e.vO hv)
 .have Hs:o.ag≠0:=λh0=>by rw[hk.z o (Sj ho) h0]at hz;obtain⟨q,hq,-⟩:=hz;simp[gV]at hq
  obtain⟨o',h1,-,-,-,h5⟩:=e.o i o ho Hs;rcases h5 z hz with h6|⟨t,y,s,g1,g2,g3,g4,g5⟩
  .exact hx.cl.q i o' hi h1 z c h6 (hvP c o1 SR h0 z hv.1)
  .exact hx.m7.2 t y g1 g2 s g3 g4 c (hvP c o1 SR h0 _ (by rw[g5];exact hv.1))
 .have h0:0<=o.bo:=by have:=hv.1;omega
  obtain⟨o',h1,h2⟩:=e.p c o ho h0;exact hx.cl.p c o' (hc o ho h0) h1 n (by rw[h2];exact e.vO hv)
 .obtain⟨y',h1,h2,h3⟩:=e.s p pr hp b9;obtain⟨s',h4,h5,h6⟩:=h3 s hs hh;exact hx.m7.2 p y' h1 h2 s' h4 h5 c (hvP c o1 SR h0 _ (by rw[h6];exact hv.1))
theorem KI.X9{k x:Kr}(h:KI k)(hs:ON k)(hx:KI x)(e:oq k x):gM x=Jz x:=by
 obtain⟨b,hb⟩:=hs.left h;refine hx.X5 (λb2 fx=>?_) (λt y hy=>?_)
 .obtain⟨m1,m2⟩:=e.M1 h hb.ok fx;have SE:∀(t:Nat)(y:bm)(s:ft)(c:Nat),x.ps[t]? =some y->y.aP=true->s∈y.aU->s.has=true->s.dS=c->c<x.ops.length->dp b2.P c:=λt y s c g1 g2 g3 g4 g5 g6=>
   fx.m7.2 t y g1 g2 s g3 g4 c ⟨g5,g6⟩
  refine⟨λn o ho hk=>?_,λn o ho hn=>?_⟩
  .rcases e.nl n o ho hk with⟨o0,h1,h2⟩|⟨t,y,s,c,o1,g1,g2,g3,g4,g5,g6,g7⟩
   .exact m1 n (hb.all n o0 h1 h2)
   .exact fx.cl.p c o1 (SE t y s c g1 g2 g3 g4 g5 (JJ.1 g6).1) g6 n ⟨g7,o,ho,hk⟩
  .rcases e.no n o ho with h1|⟨t,y,s,g1,g2,g3,g4,g5⟩
   .by_cases pY:dp b.P n
    .exact absurd (m2 n pY o h1 (h.X6 hb.ok pY h1)) hn
    .exact hb.ops n o h1 pY
   .exact absurd (SE t y s n g1 g2 g3 g4 g5 (JJ.1 ho).1) hn
 .cases YG:y.aP with
  |false=>simp[iE,YG]
  |true=>
   by_cases h0:t=0
   .subst h0;simp[iE]
   have held:∃o,o∈x.l/\dF (t:Int) o=true:=by
    rcases e.np t y hy YG with⟨y',Um,Ax⟩|h1
    .have:=hb.prs t y' Um;unfold iE at this;simp only[Ax,adl,acI,decide_eq_false_iff_not,Bool.not_eq_false',aaT]at this;rcases this with h3|⟨o,ho,hh⟩
     .omega
     .obtain⟨n,hn⟩:=X1 ho;obtain⟨o',g1,g2,g3,-⟩:=e.o n o hn (wX hh);refine⟨o',Sj g1,?_⟩;unfold dF at hh|-;rw[g2,g3];exact hh
    .exact h1
   have ha:(x.l.any (dF (t:Int)))=true:=by rw[aaT];exact held
   unfold iE;rw[ha];simp
end Kn
namespace Kn
structure OX(N:Nat->Prop)(l l':List Obj):Prop where
 m:∀(i:Nat)o,l[i]? =some o->o.ag≠0->∃o':Obj,l'[i]? =some o'/\o'.ag=o.ag/\o'.bb=o.bb/\o'.aq=o.aq
 n:∀(i:Nat)o',l'[i]? =some o'->o'.ag≠0->(∃o,l[i]? =some o/\o.ag≠0)\/(N i/\o'.aq=[])
def OE(l l':List Obj):Prop:=∀(i:Nat)o o',l[i]? =some o->o.ag≠0->l'[i]? =some o'->∀z,sE o z->sE o' z
theorem OX.refl(N:Nat->Prop)(l:List Obj):OX N l l:=⟨λi o h _=>⟨o,h,rfl,rfl,rfl⟩,λi o h hk=>.inl ⟨o,h,hk⟩⟩
theorem OE.refl(l:List Obj):OE l l:=λi o o' h _ h' z hz=>by rw[h]at h';cases h';exact hz
theorem OX.trans{N:Nat->Prop}{a b c:List Obj}(h:OX N a b)(g:OX N b c):OX N a c:=by
 refine⟨λi o ho hk=>?_,λi o ho hk=>?_⟩
 .obtain⟨o1,h1,h2,h3,h4⟩:=h.m i o ho hk;obtain⟨o2,g1,g2,g3,g4⟩:=g.m i o1 h1 (by rw[h2];exact hk)
  exact⟨o2,g1,g2.trans h2,g3.trans h3,g4.trans h4⟩
 .rcases g.n i o ho hk with⟨o1,g1,g2⟩|g1
  .rcases h.n i o1 g1 g2 with h1|⟨h1,h2⟩
   .exact .inl h1
   .obtain⟨o2,q1,_,_,q4⟩:=g.m i o1 g1 g2;rw[ho]at q1;cases q1;exact .inr ⟨h1,q4.trans h2⟩
  .exact .inr g1
theorem OE.trans{N:Nat->Prop}{a b c:List Obj}(hx:OX N a b)(h:OE a b)(g:OE b c):OE a c:=λi o o2 ho hk gQ z hz=>by
 obtain⟨o1,h1,h2,_⟩:=hx.m i o ho hk;exact g i o1 o2 h1 (by rw[h2];exact hk) gQ z (h i o o1 ho hk h1 z hz)
theorem OX.set(N:Nat->Prop){l:List Obj}{n:Nat}{o o':Obj}(ho:l[n]? =some o)(h:o'.ag=o.ag/\o'.bb=o.bb/\o'.aq=o.aq):OX N l (l.set n o'):=by
 have hn:=(JJ.1 ho).1;refine⟨λi a ha hk=>?_,λi a ha hk=>?_⟩
 .by_cases e:n=i
  .subst e;rw[ho]at ha;cases ha;exact⟨o',SC hn,h.1,h.2.1,h.2.2⟩
  .exact⟨a,by rw[Xg e];exact ha,rfl,rfl,rfl⟩
 .by_cases e:n=i
  .subst e;rw[SC hn]at ha;cases ha;exact .inl ⟨o,ho,by rw[<-h.1];exact hk⟩
  .rw[Xg e]at ha;exact .inl ⟨a,ha,hk⟩
theorem OE.set{l:List Obj}{n:Nat}{o o':Obj}(ho:l[n]? =some o)(h:o'.ak=o.ak):OE l (l.set n o'):=λi a b ha _ hb z hz=>by
 have hn:=(JJ.1 ho).1;by_cases e:n=i
 .subst e;rw[ho]at ha;cases ha;rw[SC hn]at hb;cases hb;unfold sE;rw[h];exact hz
 .rw[Xg e,ha]at hb;cases hb;exact hz
theorem OX.make{l:List Obj}{o:Obj}(h:(aG l o).2.2=0)(hl:l.length<=40)(hq:o.aq=[]):∃j:Nat,(aG l o).2.1=j/\OX (λi=>i=j) l (aG l o).1/\OE l (aG l o).1/\(aG l o).1[j]? =some o:=by
 obtain⟨j,h1,h2,h3,h4,_,_⟩:=fQ h hl;have du:∀i a,l[i]? =some a->a.ag≠0->i≠j:=λi a ha hk e=>hk (h4 a (e▸ha))
 refine⟨j,h1,⟨λi a ha hk=>⟨a,by rw[h3 i (du i a ha hk)];exact ha,rfl,rfl,rfl⟩,λi a ha hk=>?_⟩,λi a b ha hk hb z hz=>?_,h2⟩
 .by_cases e:i=j
  .subst e;rw[h2]at ha;cases ha;exact .inr ⟨rfl,hq⟩
  .rw[h3 i e]at ha;exact .inl ⟨a,ha,hk⟩
 .rw[h3 i (du i a ha hk),ha]at hb;cases hb;exact hz
theorem OX.two(N:Nat->Prop){l l':List Obj}{n p:Nat}{o q o' q':Obj}(hn:l[n]? =some o)(hp:l[p]? =some q)(h1:l'[n]? =some o')(h2:l'[p]? =some q')(h3:∀j,j≠n->j≠p->l'[j]? =l[j]?)(ho:o'.ag=o.ag/\o'.bb=o.bb/\o'.aq=o.aq)(hq:q'.ag=q.ag/\q'.bb=q.bb/\q'.aq=q.aq):OX N l l':=by
 refine⟨λi a ha hk=>?_,λi a ha hk=>?_⟩
 .by_cases e:i=n
  .subst e;rw[hn]at ha;cases ha;exact⟨o',h1,ho.1,ho.2.1,ho.2.2⟩
  by_cases e2:i=p
  .subst e2;rw[hp]at ha;cases ha;exact⟨q',h2,hq.1,hq.2.1,hq.2.2⟩
  .exact⟨a,by rw[h3 i e e2];exact ha,rfl,rfl,rfl⟩
 .by_cases e:i=n
  .subst e;rw[h1]at ha;cases ha;exact .inl ⟨o,hn,by rw[<-ho.1];exact hk⟩
  by_cases e2:i=p
  .subst e2;rw[h2]at ha;cases ha;exact .inl ⟨q,hp,by rw[<-hq.1];exact hk⟩
  .rw[h3 i e e2]at ha;exact .inl ⟨a,ha,hk⟩
theorem OX.enter(N:Nat->Prop){b:Bool}{l:List Obj}{cK bo:Int}{name:ByteArray}(du:∀(p:Nat)q,bo=p->l[p]? =some q->q.am=0)(h:(cO b l cK name bo).2=0):OX N l (cO b l cK name bo).1/\OE l (cO b l cK name bo).1:=by
 obtain⟨n,p,o,q,rfl,rfl,hn,hp,hq,ho,AJ,_,_,_,e⟩:=ph h;rw[e];have BF:n≠p:=λe=>by subst e;rw[hn]at hp;cases hp;exact AJ (du n o rfl hn)
 obtain⟨g1,g2,g3,_⟩:=uh hn hp BF name;refine⟨OX.two N hn hp g1 g2 g3 ⟨rfl,rfl,rfl⟩ ⟨rfl,rfl,rfl⟩,λi a a' ha hk Si z hz=>?_⟩
 by_cases e1:i=n
 .subst e1;rw[hn]at ha;cases ha;rw[g1]at Si;cases Si;obtain⟨nm,hm⟩:=hz;refine⟨nm,?_⟩;show fX (nm,z)∈(iL (name,((p:Nat):Int)) (dJ o)).map fX;refine aas.2 ⟨(nm,z),xO ?_,rfl⟩;refine aas.2 ⟨fX (nm,z),hm,rfl⟩
 by_cases e2:i=p
 .subst e2;rw[hp]at ha;cases ha;rw[g2]at Si;cases Si;exact hz
 .rw[g3 i e1 e2,ha]at Si;cases Si;exact hz
theorem uq{k:Kr}(h:KI k){f:R4}{o:Obj}(ho:GC o)(he:(cw k f o).2.2=0):∃j:Nat,(cw k f o).2.1=j/\OX (λi=>i=j) k.l (cw k f o).1.l/\OE k.l (cw k f o).1.l/\(cw k f o).1.ops=k.ops/\(cw k f o).1.ps=k.ps:=by
 obtain⟨j,C⟩:=sP h.ll he;obtain⟨j',e1,g1,g2,g3⟩:=OX.make C.em h.ll (show(gE o).aq=[]from(ho.QX k).q);have:j'=j:=by have:=C.ej;omega
 subst this;obtain⟨q1,q2⟩:=OX.enter (λi=>i=j') (λp q hp hq=>by have:p=j':=om;subst this;rw[g3]at hq;cases hq;exact(ho.QX k).l) C.ee
 rw[C.R];exact⟨j',rfl,g1.trans q1,OE.trans g1 g2 q2,rfl,rfl⟩
end Kn
namespace Kn
theorem KJ{k:Kr}(h:KI k)(N:Nat->Prop){cK:Int}{name:ByteArray}(he:(cQ k.l cK name).2.2=0):OX N k.l (cQ k.l cK name).1:=by
 obtain⟨n,p,o,q,rfl,hn,fl,hf,hp,Oi,hR,_⟩:=sO he;obtain⟨e0,zV,L7,YT⟩:∃e0,e0∈dJ o/\e0.1.toList=name.toList/\e0.2=(p:Int):=by
  rcases iM (dJ o) name with⟨e,a1,a2,a3⟩|⟨a3,_⟩
  .exact⟨e,a1,a2,om⟩
  .omega
 have BF:n≠p:=λe=>by
  subst e;rw[hn]at hp;cases hp;have:o.ak=[]:=aai (by have:=λh=>Oi ⟨fl,h⟩;omega)
  rw[dJ,this]at zV;cases zV
 rw[hR];obtain⟨g1,g2,g3,_⟩:=zZ hn hp BF name;exact OX.two N hn hp g1 g2 g3 ⟨rfl,rfl,rfl⟩ ⟨rfl,rfl,rfl⟩
theorem OT(N:Nat->Prop)(l:List Obj)(z:Int):OX N l (lj l z)/\OE l (lj l z):=by
 unfold lj;split
 .rename_i o ho;exact⟨OX.set N ho ⟨rfl,rfl,rfl⟩,OE.set ho rfl⟩
 .exact⟨.refl _ _,.refl _⟩
theorem KK{k:Kr}(h:KI k){c:Cl}{f:R4}(hf:f.fC=0->f.bo= -1\/fZ k.l f.bo)(he:(cq k c f).2.2=0):
  ∃j:Nat,(cq k c f).2.1=j/\OX (λi=>i=j) k.l (cq k c f).1.l/\OE k.l (cq k c f).1.l/\(cq k c f).1.ops=k.ops/\(cq k c f).1.ps=k.ps:=by
 unfold Kn.cq at he|-;split at he
 .rename_i h1;exact absurd he h1
 rename_i h1;rw[if_neg h1];have hf:=hf (aaa h1);split at he
 .rename_i h2;rw[if_pos h2];split at he
  .cases he
  .rename_i h3;rw[if_neg h3];exact uq h Ib he
 .rename_i h2;rw[if_neg h2];split at he
  .cases he
  .rename_i h3;rw[if_neg h3];rcases hf with hf|⟨j,x,hj,_,_⟩
   .exact absurd (by show f.bo<0;omega) h2
   .exact⟨j,hj,.refl _ _,.refl _,rfl,rfl⟩
theorem nr{ps:List bm}{p:Nat}{y:bm}(hp:ps[p]? =some y)(S:List ft)(t:Nat):(dz ps p S)[t]? =if t=p then some {y with aU:=S}else ps[t]? :=by
 by_cases e:t=p
 .subst e;rw[if_pos rfl];exact gy hp S
 .rw[if_neg e];exact jS e S
theorem x5{k:Kr}{p:Nat}{y:bm}(hp:k.ps[p]? =some y)(b9:y.aP=true){l1 l2:List Obj}{bo:Nat}(hox:OX (λi=>i=bo) k.l l2)(hoe:OE k.l l2){cj:Int}{R:Kr}{i:Nat}{S:List ft}(O:SD ⟨l1,k.ops,k.ps⟩ p y bo cj R i S):oq k ⟨l2,R.ops,R.ps⟩:=by
 have eo:∀m:Nat,R.ops[m]? =if m=i then some ⟨(bo:Int),0⟩else k.ops[m]? :=O.o
 have ep:R.ps=dz k.ps p S:=O.ps;have SF:R.ps[p]? =some {y with aU:=S}:=by rw[ep];exact gy hp S
 refine⟨λj o ho hk=>?_,λm o ho h0=>?_,λt z hz hl=>?_,λj o ho hk=>?_,λm o ho=>?_,λt z hz hl=>?_⟩
 .obtain⟨o',h1,h2,h3,h4⟩:=hox.m j o ho hk;exact⟨o',h1,h2,h3,hoe j o o' ho hk h1,λz hz=>.inl (by unfold sQ;rw[h4];exact hz)⟩
 .refine⟨o,?_,rfl⟩;show R.ops[m]? =_;rw[eo,if_neg λe=>?_]
  .exact ho
  .subst e;have:=O.Am o ho;omega
 .by_cases e:t=p
  .subst e;rw[hp]at hz;cases hz;exact⟨_,SF,hl,λs hs hh=>⟨s,O.old s hs hh,hh,rfl⟩⟩
  .exact⟨z,by show R.ps[t]? =_;rw[ep,jS e];exact hz,hl,λs hs hh=>⟨s,hs,hh,rfl⟩⟩
 .rcases hox.n j o ho hk with h1|⟨rfl,_⟩
  .exact .inl h1
  .exact .inr ⟨p,_,⟨true,i,cj⟩,i,⟨(j:Int),0⟩,SF,b9,O.new,rfl,rfl,by show R.ops[i]? =_;rw[eo,if_pos rfl],rfl⟩
 .have ho:R.ops[m]? =some o:=ho;rw[eo]at ho;split at ho
  .rename_i e;subst e;exact .inr ⟨p,_,⟨true,m,cj⟩,SF,b9,O.new,rfl,rfl⟩
  .exact .inl ho
 .have hz:R.ps[t]? =some z:=hz;rw[ep,nr hp]at hz;split at hz
  .rename_i e;subst e;exact .inl ⟨y,hp,b9⟩
  .exact .inl ⟨z,hz,hl⟩
theorem KL{k:Kr}{p:Nat}{y:bm}(hp:k.ps[p]? =some y)(b9:y.aP=true){S:List ft}(hS:∀s,s∈y.aU->s.has=true->∃s',s'∈S/\s'.has=true/\s'.dS=s.dS):oq k ⟨k.l,k.ops,dz k.ps p S⟩:=by
 refine⟨λj o ho hk=>⟨o,ho,rfl,rfl,λ_ h=>h,λ_ h=>.inl h⟩,λm o ho h0=>⟨o,ho,rfl⟩,λt z hz hl=>?_,λj o ho hk=>.inl ⟨o,ho,hk⟩,λm o ho=>.inl ho,λt z hz hl=>?_⟩
 .by_cases e:t=p
  .subst e;rw[hp]at hz;cases hz;exact⟨_,gy hp S,hl,hS⟩
  .exact⟨z,by show(dz k.ps p S)[t]? =_;rw[jS e];exact hz,hl,λs hs hh=>⟨s,hs,hh,rfl⟩⟩
 .have hz:(dz k.ps p S)[t]? =some z:=hz;rw[nr hp]at hz;split at hz
  .rename_i e;subst e;exact .inl ⟨y,hp,b9⟩
  .exact .inl ⟨z,hz,hl⟩
theorem Ad{k:Kr}(h:KI k){p:Nat}{y:bm}(hp:k.ps[p]? =some y)(b9:y.aP=true){c:Cl}{ar:Int}{ay:Bool}(he:(gi k p c ar ay).2.fC=0):
  (∃N,OX N k.l (gi k p c ar ay).1.l)/\oq k (gi k p c ar ay).1/\∃z,(gi k p c ar ay).1.ps[p]? =some z/\z.aP=true:=by
 unfold gi jz at he|-;split at he
 .rename_i h1;exact absurd he h1
 rename_i h1;rw[if_neg h1];obtain⟨j,g1,g2,g3,g4,g5⟩:=KK h (h.QT ar c.cJ ay true) (aaa h1);generalize cq k c (iS k ar c.cJ ay true)=X at*
 obtain⟨K1,z,e1⟩:=X;obtain⟨l1,o1,p1⟩:=K1;have g4:o1=k.ops:=g4;have g5:p1=k.ps:=g5;have g1:z=j:=g1;subst g4 g5 g1;simp only at he h1 g2 g3|-;split at he
 .rename_i h2;exact absurd he h2
 rename_i h2;rw[if_neg h2];obtain⟨i,S,O⟩:=kM (k:=⟨l1,k.ops,k.ps⟩) hp (aaa h2);generalize aL ⟨l1,k.ops,k.ps⟩ p (j:Nat) c.a8=RR at*
 obtain⟨⟨rl,ro,rp⟩,fd,e2⟩:=RR;have hl:rl=l1:=O.l;subst hl;have pQ:∃z,rp[p]? =some z/\z.aP=true:=⟨{y with aU:=S},by rw[show rp=dz k.ps p S from O.ps];exact gy hp S,b9⟩
 split
 .obtain⟨t1,t2⟩:=OT (λi=>i=j) rl (j:Nat)
  exact⟨⟨_,g2.trans t1⟩,x5 hp b9 (g2.trans t1) (OE.trans g2 g3 t2) O,pQ⟩
 .exact⟨⟨_,g2⟩,x5 hp b9 g2 g3 O,pQ⟩
theorem pj{k:Kr}(h:KI k){p:Nat}{y:bm}(hp:k.ps[p]? =some y)(b9:y.aP=true){c:Cl}(he:(gw k p c).2.fC=0):
  (∃N,OX N k.l (gw k p c).1.l)/\oq k (gw k p c).1/\∃z,(gw k p c).1.ps[p]? =some z/\z.aP=true:=by
 unfold gw at he|-;split at he
 .cases he
 rename_i h1;rw[if_neg h1];split at he
 .rename_i h2;rw[if_pos h2];exact Ad h hp b9 he
 rename_i h2;rw[if_neg h2];split at he
 .rename_i h3;exact absurd he h3
 rename_i h3;rw[if_neg h3];exact Ad h hp b9 he
end Kn
end Go.Proofs.YtodckkkbiidffaaGreatDoor
