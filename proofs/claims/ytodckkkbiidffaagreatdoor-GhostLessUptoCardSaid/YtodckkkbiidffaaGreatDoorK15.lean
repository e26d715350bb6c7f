/- Part 15 of 16. -/
import Derived.Test.YtodckkkbiidffaaGreatDoorK11
import Derived.Test.YtodckkkbiidffaaGreatDoorK12
import Derived.Test.YtodckkkbiidffaaGreatDoorK13
import Derived.Test.YtodckkkbiidffaaGreatDoorK14
import Derived.Shelf.SlSortCmp.WholeK
import Derived.Shelf.SlicesG.Cmp
import Derived.WalkKit
import Derived.OwnWalkIn
set_option linter.unusedVariables false
set_option linter.unusedSimpArgs false
set_option maxRecDepth 100000
set_option maxHeartbeats 0
namespace Go.Proofs.YtodckkkbiidffaaGreatDoor
open Proofs.Tryz
open Go.AM Go.ChangeShapes Go.WideShapes Go.ChangeAt Go.RowKit
namespace Kn
def dO(o:Obj):List NE:=o.ak.map oo
structure Sk where
 ag:Int
 up:Int
 al:Int
 es:List NE
def vY(o:Obj):Sk:=⟨o.ag,o.up,o.al,dO o⟩
def skZ:Sk:=⟨0,0,0,[]⟩
inductive Lk(t:List Sk):Nat->Prop
 |aj:Lk t 0
 |step {i j:Nat} {d:Sk} {e:NE} (h:Lk t i) (hd:t[i]? =some d) (he:e∈d.es) (hj:e.2=(j:Nat)):Lk t j
structure Tree(t:List Sk):Prop where
 z:∀(i:Nat)d,t[i]? =some d->d.ag=0->d=skZ
 r0:∃d,t[0]? =some d/\d.ag=2/\d.al=1/\d.up=0
 tr:∀(i:Nat)d e,t[i]? =some d->e∈d.es->∃(j:Nat)(x:Sk),e.2=j/\j≠0/\t[j]? =some x/\x.ag≠0/\x.al=1/\(x.ag=2->x.up=i)
 un:∀(i i':Nat)d d' e e',t[i]? =some d->t[i']? =some d'->e∈d.es->e'∈d'.es->e.2=e'.2->i=i'/\e=e'
 lk:∀(i:Nat)d,t[i]? =some d->d.al≠0->Lk t i
 em:∀(i:Nat)d,t[i]? =some d->d.al=0->d.es=[]
 lr:∀(i:Nat)d,t[i]? =some d->d.al=0\/d.al=1
 ux:∀(i:Nat)d,t[i]? =some d->d.up=i\/d.up=0\/d.ag=2/\∃(u:Nat)(x:Sk)(e:NE),d.up=u/\t[u]? =some x/\e∈x.es/\e.2=i
theorem Tree.YS{t:List Sk}(h:Tree t){i:Nat}{d:Sk}(hd:t[i]? =some d):0<=d.up/\d.up<t.length:=by
 have hi:=(Km.1 hd).1;rcases h.ux i d hd with h1|h1|⟨_,u,x,e,h1,h2,_⟩
 .omega
 .omega
 .have:=(Km.1 h2).1;omega
theorem Lk.mono{t t':List Sk}(h:∀(i:Nat)d,t[i]? =some d->d.es≠[]->∃d',t'[i]? =some d'/\∀e,e∈d.es->e∈d'.es){i:Nat}(hl:Lk t i):Lk t' i:=by
 induction hl with
 |aj=>exact .aj
 |step _ hd he hj ih=>
  obtain⟨d',h1,h2⟩:=h _ _ hd (λe=>by rw[e]at he;cases he)
  exact .step ih h1 (h2 _ he) hj
theorem Tree.new{t t':List Sk}(h:Tree t){k:Nat}{s:Sk}(hs:s.ag≠0/\s.al=0/\s.es=[]/\(s.up=0\/s.up=k))(h1:t'[k]? =some s)(h2:∀j,j≠k->t'[j]? =t[j]?)(h3:∀d,t[k]? =some d->d.ag=0):Tree t':=by
 obtain⟨hk,hl,he,hu⟩:=hs;have old:∀(i:Nat)d,t[i]? =some d->d.ag≠0->t'[i]? =some d:=λi d hd hn=>by rw[h2 i λe=>hn (h3 d (e▸hd))];exact hd
 have YT:∀(i:Nat)d e,t[i]? =some d->e∈d.es->t'[i]? =some d:=λi d e hd he=>old i d hd λhz=>by rw[h.z i d hd hz]at he;cases he
 have qq:∀(i:Nat)d,t'[i]? =some d->(i=k/\d=s)\/t[i]? =some d:=λi d hd=>by
  by_cases e:i=k
  .subst e;rw[h1]at hd;cases hd;exact .inl ⟨rfl,rfl⟩
  .rw[h2 i e]at hd;exact .inr hd
 have hE:∀(i:Nat)d e,t'[i]? =some d->e∈d.es->t[i]? =some d:=λi d e hd hx=>by
  rcases qq i d hd with⟨_,rfl⟩|h
  .rw[he]at hx;cases hx
  .exact h
 have P9:∀i,Lk t i->Lk t' i:=λi hi=>hi.mono λi d hd hn=>by obtain⟨e,hx⟩:=adv _ hn;exact⟨d,YT i d e hd hx,λ_ h=>h⟩
 refine⟨λi d hd hz=>?_,?_,λi d e hd hx=>?_,λi i' d d' e e' hd yX hx tL nT=>h.un i i' d d' e e' (hE i d e hd hx) (hE i' d' e' yX tL) hx tL nT,λi d hd hn=>?_,λi d hd hn=>?_,λi d hd=>?_,λi d hd=>?_⟩
 .rcases qq i d hd with⟨_,rfl⟩|h'
  .exact absurd hz hk
  .exact h.z i d h' hz
 .obtain⟨d,a1,a2,a3⟩:=h.r0;exact⟨d,old 0 d a1 om,a2,a3⟩
 .obtain⟨j,x,a1,a2,a3,a4,a5⟩:=h.tr i d e (hE i d e hd hx) hx;exact⟨j,x,a1,a2,old j x a3 a4,a4,a5⟩
 .rcases qq i d hd with⟨_,rfl⟩|h'
  .exact absurd hl hn
  .exact P9 i (h.lk i d h' hn)
 .rcases qq i d hd with⟨_,rfl⟩|h'
  .exact he
  .exact h.em i d h' hn
 .rcases qq i d hd with⟨_,rfl⟩|h'
  .exact .inl hl
  .exact h.lr i d h'
 .rcases qq i d hd with⟨rfl,rfl⟩|h'
  .exact hu.elim (λe=>.inr (.inl e)) .inl
  .rcases h.ux i d h' with a|a|⟨a0,u,x,e,a1,a2,a3,a4⟩
   .exact .inl a
   .exact .inr (.inl a)
   .exact .inr (.inr ⟨a0,u,x,e,a1,YT u x e a2 a3,a3,a4⟩)
theorem Tree.enter{t t':List Sk}(h:Tree t){n p:Nat}{d q d' q':Sk}(hn:t[n]? =some d)(hp:t[p]? =some q)(mw:d.al≠0)(Ic:q.al=0)(K4:q.ag≠0){nm:ByteArray}(h1:t'[n]? =some d')(h2:t'[p]? =some q')(h3:∀j,j≠n->j≠p->t'[j]? =t[j]?)(hd:d'.ag=d.ag/\d'.up=d.up/\d'.al=d.al)(TD:∀e,e∈d'.es↔e∈d.es\/e=(nm,(p:Int)))(hq:q'.ag=q.ag/\q'.al=1/\q'.es=q.es/\q'.up=if q.ag=2 then(n:Int)else q.up):Tree t':=by
 have Ca:n≠p:=λe=>by subst e;rw[hn]at hp;cases hp;exact mw Ic
 have OY:q.es=[]:=h.em p q hp Ic;have y4:d.ag≠0:=λe=>by rw[h.z n d hn e]at mw;exact mw rfl
 have zh:p≠0:=λe=>by obtain⟨r,a1,a2,a3,a4⟩:=h.r0;rw[e,a1]at hp;cases hp;omega
 have nop:∀(i:Nat)x e,t[i]? =some x->e∈x.es->e.2≠(p:Int):=λi x e hx he hc=>by obtain⟨j,y,a1,_,a3,_,a5,_⟩:=h.tr i x e hx he;have:j=p:=om;subst this;rw[hp]at a3;cases a3;omega
 have qq:∀(i:Nat)x,t'[i]? =some x->(i=n/\x=d')\/(i=p/\x=q')\/(i≠n/\i≠p/\t[i]? =some x):=λi x hx=>by
  by_cases e:i=n
  .subst e;rw[h1]at hx;cases hx;exact .inl ⟨rfl,rfl⟩
  .by_cases e2:i=p
   .subst e2;rw[h2]at hx;cases hx;exact .inr (.inl ⟨rfl,rfl⟩)
   .rw[h3 i e e2]at hx;exact .inr (.inr ⟨e,e2,hx⟩)
 have back:∀(i:Nat)x e,t'[i]? =some x->e∈x.es->(∃y,t[i]? =some y/\e∈y.es)\/(i=n/\e=(nm,(p:Int))):=λi x e hx he=>by
  rcases qq i x hx with⟨rfl,rfl⟩|⟨rfl,rfl⟩|⟨_,_,hx⟩
  .rcases(TD e).1 he with he|he
   .exact .inl ⟨d,hn,he⟩
   .exact .inr ⟨rfl,he⟩
  .rw[hq.2.2.1,OY]at he;cases he
  .exact .inl ⟨x,hx,he⟩
 have fwd:∀(i:Nat)x,t[i]? =some x->∃x',t'[i]? =some x'/\x'.ag=x.ag/\∀e,e∈x.es->e∈x'.es:=λi x hx=>by
  by_cases e:i=n
  .subst e;rw[hn]at hx;cases hx;exact⟨d',h1,hd.1,λe he=>(TD e).2 (.inl he)⟩
  .by_cases e2:i=p
   .subst e2;rw[hp]at hx;cases hx;exact⟨q',h2,hq.1,λe he=>by rw[OY]at he;cases he⟩
   .exact⟨x,by rw[h3 i e e2];exact hx,rfl,λ_ h=>h⟩
 have P9:∀i,Lk t i->Lk t' i:=λi hi=>hi.mono λi x hx _=>by obtain⟨x',a1,_,a2⟩:=fwd i x hx;exact⟨x',a1,a2⟩
 refine⟨λi x hx hz=>?_,?_,λi x e hx he=>?_,λi i' x x' e e' hx tL he mT nT=>?_,λi x hx PT=>?_,λi x hx hz=>?_,λi x hx=>?_,λi x hx=>?_⟩
 .rcases qq i x hx with⟨rfl,rfl⟩|⟨rfl,rfl⟩|⟨_,_,hx⟩
  .exact absurd (hd.1▸hz) y4
  .exact absurd (hq.1▸hz) K4
  .exact h.z i x hx hz
 .obtain⟨r,a1,a2,a3,a4⟩:=h.r0;by_cases e:(0:Nat)=n
  .subst e;rw[a1]at hn;cases hn;exact⟨d',h1,by rw[hd.1];exact a2,by rw[hd.2.2];exact a3,by rw[hd.2.1];exact a4⟩
  .exact⟨r,by rw[h3 0 e (λe=>zh e.symm)];exact a1,a2,a3,a4⟩
 .rcases back i x e hx he with⟨y,hy,Rx⟩|⟨rfl,rfl⟩
  .obtain⟨j,z,a1,a2,a3,a4,a5,a6⟩:=h.tr i y e hy Rx;by_cases ej:j=n
   .subst ej;rw[hn]at a3;cases a3;exact⟨j,d',a1,a2,h1,by rw[hd.1];exact a4,by rw[hd.2.2];exact a5,by rw[hd.1,hd.2.1];exact a6⟩
   .have ejp:j≠p:=λe=>by subst e;rw[hp]at a3;cases a3;omega
    exact⟨j,z,a1,a2,by rw[h3 j ej ejp];exact a3,a4,a5,a6⟩
  .refine⟨p,q',rfl,zh,h2,by rw[hq.1];exact K4,hq.2.1,λhk=>?_⟩
   rw[hq.2.2.2,if_pos (by rw[<-hq.1];exact hk)]
 .rcases back i x e hx he with⟨y,hy,Rx⟩|⟨rfl,rfl⟩
  .rcases back i' x' e' tL mT with⟨y',Vr,OZ⟩|⟨rfl,rfl⟩
   .exact h.un i i' y y' e e' hy Vr Rx OZ nT
   .exact absurd nT (nop i y e hy Rx)
  .rcases back i' x' e' tL mT with⟨y',Vr,OZ⟩|⟨rfl,rfl⟩
   .exact absurd nT.symm (nop i' y' e' Vr OZ)
   .exact⟨rfl,rfl⟩
 .rcases qq i x hx with⟨rfl,rfl⟩|⟨rfl,rfl⟩|⟨_,_,hx⟩
  .exact P9 _ (h.lk _ d hn mw)
  .exact .step (P9 _ (h.lk _ d hn mw)) h1 ((TD _).2 (.inr rfl)) rfl
  .exact P9 _ (h.lk i x hx PT)
 .rcases qq i x hx with⟨rfl,rfl⟩|⟨rfl,rfl⟩|⟨_,_,hx⟩
  .exact absurd (hd.2.2▸hz) mw
  .rw[hq.2.1]at hz;omega
  .exact h.em i x hx hz
 .rcases qq i x hx with⟨rfl,rfl⟩|⟨rfl,rfl⟩|⟨_,_,hx⟩
  .rw[hd.2.2];exact h.lr i d hn
  .exact .inr hq.2.1
  .exact h.lr i x hx
 .have key:∀(i:Nat)(y:Sk),t[i]? =some y->(y.up=i\/y.up=0\/y.ag=2/\∃(u:Nat)(x:Sk)(e:NE),y.up=u/\t'[u]? =some x/\e∈x.es/\e.2=i):=λi y hy=>by
   rcases h.ux i y hy with a|a|⟨a0,u,z,e,a1,a2,a3,a4⟩
   .exact .inl a
   .exact .inr (.inl a)
   .obtain⟨z',b1,_,b2⟩:=fwd u z a2;exact .inr (.inr ⟨a0,u,z',e,a1,b1,b2 e a3,a4⟩)
  rcases qq i x hx with⟨rfl,rfl⟩|⟨rfl,rfl⟩|⟨_,_,hx⟩
  .rw[hd.2.1,hd.1];exact key i d hn
  .rw[hq.2.2.2,hq.1];by_cases e2:q.ag=2
   .rw[if_pos e2];exact .inr (.inr ⟨e2,n,d',_,rfl,h1,(TD _).2 (.inr rfl),rfl⟩)
   .rw[if_neg e2];exact key i q hp
  .exact key i x hx
theorem Tree.Hb{t t':List Sk}(h:Tree t){n p:Nat}{d q d' q':Sk}{e0:NE}(hn:t[n]? =some d)(Ax:e0∈d.es)(Z5:e0.2=(p:Int))(hp:t[p]? =some q)(OY:q.es=[])(h1:t'[n]? =some d')(h2:t'[p]? =some q')(h3:∀j,j≠n->j≠p->t'[j]? =t[j]?)(hd:d'.ag=d.ag/\d'.up=d.up/\d'.al=d.al)(TD:∀e,e∈d'.es↔e∈d.es/\e≠e0)(hq:q'.ag=q.ag/\q'.al=0/\q'.es=[]/\q'.up=if q.ag=2 then(p:Int)else q.up):Tree t':=by
 have Ca:n≠p:=λe=>by subst e;rw[hn]at hp;cases hp;rw[OY]at Ax;cases Ax
 obtain⟨p',q2,b1,zh,b3,K4,Ic,_⟩:=h.tr n d e0 hn Ax;have:p'=p:=om;subst this;rw[hp]at b3;cases b3;have y4:d.ag≠0:=λe=>by rw[h.z n d hn e]at Ax;cases Ax
 have qq:∀(i:Nat)x,t'[i]? =some x->(i=n/\x=d')\/(i=p'/\x=q')\/(i≠n/\i≠p'/\t[i]? =some x):=λi x hx=>by
  by_cases e:i=n
  .subst e;rw[h1]at hx;cases hx;exact .inl ⟨rfl,rfl⟩
  .by_cases e2:i=p'
   .subst e2;rw[h2]at hx;cases hx;exact .inr (.inl ⟨rfl,rfl⟩)
   .rw[h3 i e e2]at hx;exact .inr (.inr ⟨e,e2,hx⟩)
 have back:∀(i:Nat)x e,t'[i]? =some x->e∈x.es->∃y,t[i]? =some y/\e∈y.es/\e≠e0:=λi x e hx he=>by
  rcases qq i x hx with⟨rfl,rfl⟩|⟨rfl,rfl⟩|⟨c1,_,hx⟩
  .exact⟨d,hn,((TD e).1 he).1,((TD e).1 he).2⟩
  .rw[hq.2.2.1]at he;cases he
  .exact⟨x,hx,he,λe1=>by subst e1;exact c1 (h.un i n x d e e hx hn he Ax rfl).1⟩
 have fwd:∀(i:Nat)x,t[i]? =some x->∃x',t'[i]? =some x'/\x'.ag=x.ag/\∀e,e∈x.es->e≠e0->e∈x'.es:=λi x hx=>by
  by_cases e:i=n
  .subst e;rw[hn]at hx;cases hx;exact⟨d',h1,hd.1,λe he dh=>(TD e).2 ⟨he,dh⟩⟩
  .by_cases e2:i=p'
   .subst e2;rw[hp]at hx;cases hx;exact⟨q',h2,hq.1,λe he=>by rw[OY]at he;cases he⟩
   .exact⟨x,by rw[h3 i e e2];exact hx,rfl,λ_ h _=>h⟩
 have P9:∀i,Lk t i->i≠p'->Lk t' i:=λi hi=>by
  induction hi with
  |aj=>exact λ_=>.aj
  | @step i j x e hl hx he hj ih=>
   intro hjp;have V8:i≠p':=λe1=>by subst e1;rw[hp]at hx;cases hx;rw[OY]at he;cases he
   obtain⟨x',a1,_,a2⟩:=fwd i x hx;exact .step (ih V8) a1 (a2 e he λe1=>hjp (by subst e1;omega)) hj
 refine⟨λi x hx hz=>?_,?_,λi x e hx he=>?_,λi i' x x' e e' hx tL he mT nT=>?_,λi x hx PT=>?_,λi x hx hz=>?_,λi x hx=>?_,λi x hx=>?_⟩
 .rcases qq i x hx with⟨rfl,rfl⟩|⟨rfl,rfl⟩|⟨_,_,hx⟩
  .exact absurd (hd.1▸hz) y4
  .exact absurd (hq.1▸hz) K4
  .exact h.z i x hx hz
 .obtain⟨r,a1,a2,a3,a4⟩:=h.r0;by_cases e:(0:Nat)=n
  .subst e;rw[a1]at hn;cases hn;exact⟨d',h1,by rw[hd.1];exact a2,by rw[hd.2.2];exact a3,by rw[hd.2.1];exact a4⟩
  .exact⟨r,by rw[h3 0 e (λe=>zh e.symm)];exact a1,a2,a3,a4⟩
 .obtain⟨y,hy,Rx,dh⟩:=back i x e hx he;obtain⟨j,z,a1,a2,a3,a4,a5,a6⟩:=h.tr i y e hy Rx;by_cases ej:j=n
  .subst ej;rw[hn]at a3;cases a3;exact⟨j,d',a1,a2,h1,by rw[hd.1];exact a4,by rw[hd.2.2];exact a5,by rw[hd.1,hd.2.1];exact a6⟩
  .have ejp:j≠p':=λe1=>by subst e1;exact dh (h.un i n y d e e0 hy hn Rx Ax (a1.trans Z5.symm)).2
   exact⟨j,z,a1,a2,by rw[h3 j ej ejp];exact a3,a4,a5,a6⟩
 .obtain⟨y,hy,Rx,_⟩:=back i x e hx he;obtain⟨y',Vr,OZ,_⟩:=back i' x' e' tL mT;exact h.un i i' y y' e e' hy Vr Rx OZ nT
 .rcases qq i x hx with⟨rfl,rfl⟩|⟨rfl,rfl⟩|⟨_,c2,hx⟩
  .exact P9 _ (h.lk _ d hn λe=>by rw[h.em i d hn e]at Ax;cases Ax) Ca
  .exact absurd hq.2.1 PT
  .exact P9 _ (h.lk i x hx PT) c2
 .rcases qq i x hx with⟨rfl,rfl⟩|⟨rfl,rfl⟩|⟨_,_,hx⟩
  .rw[h.em i d hn (hd.2.2▸hz)]at Ax;cases Ax
  .exact hq.2.2.1
  .exact h.em i x hx hz
 .rcases qq i x hx with⟨rfl,rfl⟩|⟨rfl,rfl⟩|⟨_,_,hx⟩
  .rw[hd.2.2];exact h.lr i d hn
  .exact .inl hq.2.1
  .exact h.lr i x hx
 .have key:∀(i:Nat)(y:Sk),t[i]? =some y->i≠p'->(y.up=i\/y.up=0\/y.ag=2/\∃(u:Nat)(x:Sk)(e:NE),y.up=u/\t'[u]? =some x/\e∈x.es/\e.2=i):=λi y hy V8=>by
   rcases h.ux i y hy with a|a|⟨a0,u,z,e,a1,a2,a3,a4⟩
   .exact .inl a
   .exact .inr (.inl a)
   .obtain⟨z',b1,_,b2⟩:=fwd u z a2;exact .inr (.inr ⟨a0,u,z',e,a1,b1,b2 e a3 λe1=>V8 (by subst e1;omega),a4⟩)
  rcases qq i x hx with⟨rfl,rfl⟩|⟨rfl,rfl⟩|⟨_,c2,hx⟩
  .rw[hd.2.1,hd.1];exact key i d hn Ca
  .rw[hq.2.2.2,hq.1];by_cases e2:q.ag=2
   .rw[if_pos e2];exact .inl rfl
   .rw[if_neg e2];rcases h.ux i q hp with a|a|⟨a0,_⟩
    .exact .inl a
    .exact .inr (.inl a)
    .exact absurd a0 e2
  .exact key i x hx c2
theorem Tree.sub{t t':List Sk}(h:Tree t){M:Nat->Prop}(h0:M 0)(iB:∀(i:Nat)d e(j:Nat),M i->t[i]? =some d->e∈d.es->e.2=(j:Nat)->M j)(h1:∀(i:Nat)d,M i->t[i]? =some d->d.ag≠0->t'[i]? =some d)(h2:∀(i:Nat)d',t'[i]? =some d'->d'=skZ\/t[i]? =some d'/\M i):Tree t':=by
 have hM:∀i,Lk t i->M i:=λi hi=>by
  induction hi with
  |aj=>exact h0
  |step _ hd he hj ih=>exact iB _ _ _ _ ih hd he hj
 have kE:∀(i:Nat)d e,t[i]? =some d->e∈d.es->d.ag≠0:=λi d e hd he hz=>by rw[h.z i d hd hz]at he;cases he
 have oE:∀(i:Nat)d e,t[i]? =some d->e∈d.es->M i:=λi d e hd he=>hM i (h.lk i d hd λhz=>by rw[h.em i d hd hz]at he;cases he)
 have P9:∀i,Lk t i->Lk t' i:=λi hi=>hi.mono λi d hd hn=>by obtain⟨e,hx⟩:=adv _ hn;exact⟨d,h1 i d (oE i d e hd hx) hd (kE i d e hd hx),λ_ h=>h⟩
 have bk:∀(i:Nat)d e,t'[i]? =some d->e∈d.es->t[i]? =some d/\M i:=λi d e hd he=>by
  rcases h2 i d hd with rfl|h
  .cases he
  .exact h
 refine⟨λi d hd hz=>?_,?_,λi d e hd hx=>?_,λi i' d d' e e' hd yX hx tL nT=>h.un i i' d d' e e' (bk i d e hd hx).1 (bk i' d' e' yX tL).1 hx tL nT,λi d hd hn=>?_,λi d hd hn=>?_,λi d hd=>?_,λi d hd=>?_⟩
 .rcases h2 i d hd with h'|⟨h',_⟩
  .exact h'
  .exact h.z i d h' hz
 .obtain⟨d,a1,a2,a3⟩:=h.r0;exact⟨d,h1 0 d h0 a1 om,a2,a3⟩
 .obtain⟨yX,hm⟩:=bk i d e hd hx;obtain⟨j,x,a1,a2,a3,a4,a5⟩:=h.tr i d e yX hx;exact⟨j,x,a1,a2,h1 j x (iB i d e j hm yX hx a1) a3 a4,a4,a5⟩
 .rcases h2 i d hd with rfl|⟨h',_⟩
  .exact absurd rfl hn
  .exact P9 i (h.lk i d h' hn)
 .rcases h2 i d hd with rfl|⟨h',_⟩
  .rfl
  .exact h.em i d h' hn
 .rcases h2 i d hd with rfl|⟨h',_⟩
  .exact .inl rfl
  .exact h.lr i d h'
 .rcases h2 i d hd with rfl|⟨h',_⟩
  .exact .inr (.inl rfl)
  .rcases h.ux i d h' with a|a|⟨a0,u,x,e,a1,a2,a3,a4⟩
   .exact .inl a
   .exact .inr (.inl a)
   .exact .inr (.inr ⟨a0,u,x,e,a1,h1 u x (oE u x e a2 a3) a2 (kE u x e a2 a3),a3,a4⟩)
theorem Tree.take{t:List Sk}(h:Tree t){n:Nat}(hn:1<=n)(hz:∀(i:Nat)d,n<=i->t[i]? =some d->d.ag=0):Tree (t.take n):=by
 have get:∀(i:Nat)d,(t.take n)[i]? =some d->t[i]? =some d:=λi d hd=>by
  rw[aaM]at hd;split at hd
  .exact hd
  .cases hd
 have put:∀(i:Nat)d,t[i]? =some d->d.ag≠0->(t.take n)[i]? =some d:=λi d hd hk=>by
  rw[aaM,if_pos (adF λhle=>hk (hz i d hle hd))]
  exact hd
 have kE:∀(i:Nat)d e,t[i]? =some d->e∈d.es->d.ag≠0:=λi d e hd he hz=>by rw[h.z i d hd hz]at he;cases he
 refine⟨λi d hd hz=>h.z i d (get i d hd) hz,?_,λi d e hd hx=>?_,λi i' d d' e e' hd yX hx tL nT=>h.un i i' d d' e e' (get i d hd) (get i' d' yX) hx tL nT,λi d hd hn=>?_,λi d hd hn=>h.em i d (get i d hd) hn,λi d hd=>h.lr i d (get i d hd),λi d hd=>?_⟩
 .obtain⟨d,a1,a2,a3⟩:=h.r0;exact⟨d,put 0 d a1 om,a2,a3⟩
 .obtain⟨j,x,a1,a2,a3,a4,a5⟩:=h.tr i d e (get i d hd) hx;exact⟨j,x,a1,a2,put j x a3 a4,a4,a5⟩
 .refine(h.lk i d (get i d hd) hn).mono λi d hd dh=>?_
  obtain⟨e,hx⟩:=adv _ dh;exact⟨d,put i d hd (kE i d e hd hx),λ_ h=>h⟩
 .rcases h.ux i d (get i d hd)with a|a|⟨a0,u,x,e,a1,a2,a3,a4⟩
  .exact .inl a
  .exact .inr (.inl a)
  .exact .inr (.inr ⟨a0,u,x,e,a1,put u x a2 (kE u x e a2 a3),a3,a4⟩)
end Kn
namespace Kn
structure Hc(l:List Obj)(o:Obj):Prop where
 eq:o.ak=(dO o).map gl
 EY:FT (dO o)
 cL:o.ag≠2->o.ak=[]
 to:∀e,e∈dO o->e.1.size<=12/\∃(j:Nat)(x:Obj),e.2=j/\l[j]? =some x/\x.ag≠0
def gn(l:List Obj)(z:Int):Prop:=∃(j:Nat)(x:Obj),z=j/\l[j]? =some x/\x.ag≠0
def fO(k:Kr)(z r:Int):Prop:=(0<=r/\r<=4095)/\∃(n:Nat)(o:bH),z=n/\k.ops[n]? =some o/\gn k.l o.bm
structure KI(k:Kr):Prop where
 ll:k.l.length<=40
 lo:k.ops.length<=60
 lp:k.ps.length<=8
 sm:∀o,o∈k.l->o.sm
 sl:∀x,x∈k.ps->x.aQ.length<=10
 ne:k.ps≠[]
 aS:∀x,x∈k.ps->x.aL=false->x.aQ=[]
 cap:∀x,x∈k.ps->∀s,s∈x.aQ->s.has=true->fO k s.dF s.bU
 qu:∀o,o∈k.l->∀q,q∈o.ar->q.has=true->fO k q.dF q.bU
 pr:∀o,o∈k.l->o.ag=5->∃n:Nat,o.ba=n/\n<k.ps.length
 en:∀o,o∈k.l->Hc k.l o
 z:∀o,o∈k.l->o.ag=0->o=ij
 pe:∀(i:Nat)o,k.l[i]? =some o->o.ag=4->o.bp= -1\/∃(j:Nat)(x:Obj),o.bp=j/\k.l[j]? =some x/\x.ag=4/\x.bp=i
 dj:∀o,o∈k.ops->0<=o.dj/\o.dj<=64
 Ry:∀o,o∈k.l->o.data.length<=60
 te:Tree (k.l.map vY)
theorem KI.kr{k:Kr}(h:KI k):dN k.l k.ops k.ps:=⟨h.sm,by have:=h.ll;omega,by have:=h.lo;omega,by have:=h.lp;omega,h.sl,h.ne⟩
theorem gO{l:List Obj}{i:Nat}{o:Obj}(h:l[i]? =some o):(l.map vY)[i]? =some (vY o):=by rw[Tm,h];rfl
theorem pB{l:List Obj}{i:Nat}{d:Sk}(h:(l.map vY)[i]? =some d):∃o,l[i]? =some o/\d=vY o:=by
 rw[Tm]at h;cases ho:l[i]? with
 |none=>rw[ho]at h;cases h
 |some o=>rw[ho]at h;cases h;exact⟨o,rfl,rfl⟩
theorem KI.up{k:Kr}(h:KI k){o:Obj}(ho:o∈k.l):0<=o.up/\o.up<k.l.length:=by obtain⟨i,hi⟩:=aaa ho;have:=h.te.YS (gO hi);rwa [Pj]at this
theorem KI.aj{k:Kr}(h:KI k):∃o,k.l[0]? =some o/\o.ag=2:=by obtain⟨d,h1,h2,_⟩:=h.te.r0;obtain⟨o,h3,rfl⟩:=pB h1;exact⟨o,h3,h2⟩
theorem KI.pos{k:Kr}(h:KI k):0<k.l.length:=by obtain⟨o,h1,_⟩:=h.aj;exact(Km.1 h1).1
theorem Hc.len{l:List Obj}{o:Obj}(h:Hc l o):(dO o).length=o.ak.length:=by have:=congrArg List.length h.eq;rw[Pj]at this;exact this.symm
theorem KI.EY{k:Kr}(h:KI k):x9 k.l:=by
 refine⟨⟨by have:=h.ll;omega,λo ho=>(h.sm o ho).oB⟩,λo ho=>?_⟩
 have he:=h.en o ho;refine⟨dO o,he.eq,he.EY,by rw[he.len];have:=(h.sm o ho).e;omega,λe hx=>?_⟩
 obtain⟨_,j,x,h1,h2,_⟩:=he.to e hx;have:=(Km.1 h2).1;omega
theorem KI.lk{k:Kr}(h:KI k):nX (k.l.map Obj.ob):=by
 refine⟨by rw[Pj];have:=h.ll;omega,by rw[Pj];exact h.pos,λo ho=>?_,λo ho=>?_,λo ho=>?_⟩
 .obtain⟨x,hx,rfl⟩:=aal.1 ho;have he:=h.en x hx;refine⟨dO x,he.eq,he.EY,λe hxe=>?_,λhk=>?_⟩
  .obtain⟨_,j,y,h1,h2,_⟩:=he.to e hxe;have:=(Km.1 h2).1;rw[Pj];omega
  .have:=he.cL hk;show x.ak.map oo=[];rw[this];rfl
 .obtain⟨x,hx,rfl⟩:=aal.1 ho;have:=(h.sm x hx).e;show x.ak.length<=64;omega
 .obtain⟨x,hx,rfl⟩:=aal.1 ho;have:=h.up hx;rw[Pj];exact this
def Ay(x o:Obj):Prop:=x=o\/x={o with bp:= -1}
theorem Ay.all{x o:Obj}(h:Ay x o):x.ag=o.ag/\x.data=o.data/\x.ak=o.ak/\x.target=o.target/\x.ar=o.ar/\x.ba=o.ba/\x.al=o.al/\x.up=o.up:=by
 rcases h with rfl|rfl<;>exact⟨rfl,rfl,rfl,rfl,rfl,rfl,rfl,rfl⟩
theorem Ay.sk{x o:Obj}(h:Ay x o):vY x=vY o:=by obtain⟨h1,_,h2,_,_,_,h3,h4⟩:=h.all;unfold vY dO;rw[h1,h2,h3,h4]
theorem k7{l:List Obj}(hz:∀o,o∈l->o.ag=0->o=ij)(b:Mk){i:Nat}{o:Obj}(ho:l[i]? =some o):
  (cD b l l.length i o=ij/\(o.ag=0\/¬dp b.O i))\/(dp b.O i/\o.ag≠0/\((cD b l l.length i o=o/\(o.ag=4->∀(j:Nat)x,o.bp=j->l[j]? =some x->x.ag≠0->dp b.O j))\/
   (cD b l l.length i o={o with bp:= -1}/\o.ag=4/\∃(j:Nat)(x:Obj),o.bp=j/\l[j]? =some x/\¬dp b.O j))):=by
 have hi:=(Km.1 ho).1;have NH:∀j,(b.O[j]? ==some true)=true↔dp b.O j:=λj=>by unfold dp;simp
 have jv:∀(j:Nat)x,l[j]? =some x->(e7 b l j=true↔¬dp b.O j/\x.ag≠0):=λj x hx=>by unfold e7;rw[hx];simp only[aab,abN,bne_iff_ne,ne_eq];rw[<-NH j];simp
 unfold cD;by_cases h1:(e7 b l i&&decide (i<l.length))=true
 .rw[if_pos h1];rw[aab]at h1;exact .inl ⟨rfl,.inr ((jv i o ho).1 h1.1).1⟩
 .rw[if_neg h1];have lX:¬e7 b l i=true:=λh=>h1 (by rw[h];simpa using hi)
  by_cases hk:o.ag=0
  .have:=hz o (Tp ho) hk;subst this;exact .inl ⟨rfl,.inl rfl⟩
  .have hM:dp b.O i:=Yk λhn=>lX ((jv i o ho).2 ⟨hn,hk⟩)
   refine .inr ⟨hM,hk,?_⟩;by_cases h2:(o.ag==4&&mz b l l.length o.bp)=true
   .rw[if_pos h2];rw[aab]at h2;refine .inr ⟨rfl,by simpa using h2.1,?_⟩
    have h3:=h2.2;unfold mz at h3;rw[aab,decide_eq_true_eq]at h3;obtain⟨⟨h4,h5⟩,h6⟩:=h3;refine⟨o.bp.toNat,l[o.bp.toNat],om,vU h5,((jv _ _ (vU h5)).1 h6).1⟩
   .rw[if_neg h2];refine .inl ⟨rfl,λh4 j x hp hx hxk=>?_⟩
    refine Yk λhn=>h2 ?_
    have hj:=(Km.1 hx).1;rw[h4,aab];refine⟨rfl,?_⟩;unfold mz;rw[hp,Y6,(jv j x hx).2 ⟨hn,hxk⟩,Bool.and_true,decide_eq_true_eq];omega
theorem K5(L:List Obj)(k t:Nat)(x:bi):yL L k t x=gD\/yL L k t x=x:=by
 unfold yL;split
 .exact .inl rfl
 .exact .inr rfl
theorem Rz:ij.data.length<=60:=by simp[ij]
theorem KI.J7{k c:Kr}{en:Bool}(h:KI k)(ho:cW k.l k.ops k.ps c.l c.ops c.ps en):KI c:=by
 obtain⟨b,hb,hL,hP⟩:=ho.ex;have hR:=ho.pr;have qq:∀(i:Nat)x,c.l[i]? =some x->x=ij\/∃o,k.l[i]? =some o/\dp b.O i/\o.ag≠0/\Ay x o:=λi x hx=>by
  obtain⟨o,h1,h2⟩:=hL.get hx;rcases k7 h.z b h1 with⟨h3,_⟩|⟨h3,h4,h5⟩
  .exact .inl (h2.trans h3)
  .refine .inr ⟨o,h1,h3,h4,?_⟩;rcases h5 with⟨h5,_⟩|⟨h5,_⟩
   .exact .inl (h2.trans h5)
   .exact .inr (h2.trans h5)
 have eW:∀(i:Nat)o,k.l[i]? =some o->dp b.O i->o.ag≠0->∃x,c.l[i]? =some x/\Ay x o:=λi o h1 hM hk=>by
  refine⟨_,hL.2 i o h1,?_⟩;rcases k7 h.z b h1 with⟨_,h4|h4⟩|⟨_,_,⟨h5,_⟩|⟨h5,_⟩⟩
  .exact absurd h4 hk
  .exact absurd hM h4
  .exact .inl h5
  .exact .inr h5
 have Cb:∀z,gn k.l z->(∀n:Nat,vO k.l z n->dp b.O n)->gn c.l z:=λz⟨j,x,h1,h2,h3⟩hm=>by
  obtain⟨y,h4,h5⟩:=eW j x h2 (hm j ⟨h1,x,h2,h3⟩) h3;exact⟨j,y,h1,h4,by rw[h5.all.1];exact h3⟩
 have eE:∀z r,fO k z r->(∀n:Nat,vP k.ops z n->dp b.P n)->fO c z r:=λz r⟨hr,n,o,h1,h2,h3⟩hm=>by
  have hn:=(Km.1 h2).1;have hM:=hm n ⟨h1,hn⟩;refine⟨hr,n,o,h1,?_,Cb _ h3 λj hv=>hb.cl.p n o hM h2 j hv⟩
  rw[hP.2 n o h2,Bw,if_neg];have:(b.P[n]? ==some true)=true:=by unfold dp at hM;rw[hM];rfl
  rw[this];simp
 have hlen:c.l.length=k.l.length:=hL.1;have mem:∀x,x∈c.l->∃i:Nat,c.l[i]? =some x:=λx hx=>aaa hx
 have O0:∀x,x∈c.ps->x=gD\/x∈k.ps:=λx hx=>by
  obtain⟨t,ht⟩:=aaa hx;obtain⟨o,h1,h2⟩:=hR.get ht;rcases K5 c.l k.ps.length t o with h3|h3
  .exact .inl (h2.trans h3)
  .exact .inr (by rw[h2,h3];exact Tp h1)
 refine⟨by rw[hlen];exact h.ll,by rw[hP.1];exact h.lo,by rw[hR.1];exact h.lp,(ho.kr h.kr).sm,(ho.kr h.kr).sl,(ho.kr h.kr).ne,λx hx hl=>?_,λx hx s hs hh=>?_,λo fa q hq hh=>?_,λo fa h5=>?_,λo fa=>?_,λo fa hk=>?_,λi o hi h4=>?_,λo fa=>?_,λo fa=>?_,?_⟩
 .rcases O0 x hx with rfl|hx
  .rfl
  .exact h.aS x hx hl
 .rcases O0 x hx with rfl|tL
  .cases hs
  .cases hl:x.aL with
   |false=>rw[h.aS x tL hl]at hs;cases hs
   |true=>
    obtain⟨p,hp⟩:=aaa tL;exact eE _ _ (h.cap x tL s hs hh) λn hv=>hb.nw.2 p x hp hl s hs hh n hv
 .obtain⟨i,hi⟩:=mem o fa;rcases qq i o hi with rfl|⟨y,h1,hM,hk,hs⟩
  .cases hq
  .rw[hs.all.2.2.2.2.1]at hq;exact eE _ _ (h.qu y (Tp h1) q hq hh) λn hv=>hb.cl.q i y hM h1 q.dF n ⟨q,hq,hh,rfl⟩ hv
 .obtain⟨i,hi⟩:=mem o fa;rcases qq i o hi with rfl|⟨y,h1,hM,hk,hs⟩
  .cases h5
  .rw[hs.all.1]at h5;rw[hs.all.2.2.2.2.2.1,hR.1];exact h.pr y (Tp h1) h5
 .obtain⟨i,hi⟩:=mem o fa;rcases qq i o hi with rfl|⟨y,h1,hM,hk,hs⟩
  .exact⟨rfl,List.Pairwise.nil,λ_=>rfl,λe he=>by cases he⟩
  .have he:=h.en y (Tp h1);have nT:dO o=dO y:=by unfold dO;rw[hs.all.2.2.1]
   refine⟨by rw[hs.all.2.2.1,nT];exact he.eq,by rw[nT];exact he.EY,λhn=>by rw[hs.all.2.2.1];exact he.cL (by rw[<-hs.all.1];exact hn),λe hx=>?_⟩
   rw[nT]at hx;obtain⟨h2,j,x,h3,h4,h5⟩:=he.to e hx;have vI:sE y e.2:=⟨e.1,by rw[he.eq];exact aal.2 ⟨e,hx,rfl⟩⟩
   obtain⟨x',h6,h7⟩:=eW j x h4 (hb.cl.e i y hM h1 e.2 j vI ⟨h3,x,h4,h5⟩) h5;exact⟨h2,j,x',h3,h6,by rw[h7.all.1];exact h5⟩
 .obtain⟨i,hi⟩:=mem o fa;rcases qq i o hi with rfl|⟨y,h1,hM,oW,hs⟩
  .rfl
  .exact absurd (hs.all.1▸hk) oW
 .obtain⟨y,h1,h2⟩:=hL.get hi;rcases k7 h.z b h1 with⟨h3,_⟩|⟨hM,hk,h5⟩
  .rw[h2,h3]at h4;cases h4
  .rcases h5 with⟨h5,h6⟩|⟨h5,_⟩
   .rw[h2,h5]at h4|-;rcases h.pe i y h1 h4 with h7|⟨j,x,h7,h8,h9,Vc⟩
    .exact .inl h7
    .refine .inr ⟨j,cD b k.l k.l.length j x,h7,hL.2 j x h8,?_⟩;have V9:=h6 h4 j x h7 h8 om;rcases k7 h.z b h8 with⟨_,LV|LV⟩|⟨_,_,⟨LV,_⟩|⟨_,_,j',x',HH,EZ,ON⟩⟩
     .omega
     .exact absurd V9 LV
     .rw[LV];exact⟨h9,Vc⟩
     .have:j'=i:=om;subst this;exact absurd hM ON
   .rw[h2,h5];exact .inl rfl
 .obtain⟨t,ht⟩:=aaa fa;obtain⟨x,h1,h2⟩:=hP.get ht;rw[h2,Bw];split
  .exact⟨adC _,by show(0:Int)<=64;omega⟩
  .exact h.dj x (Tp h1)
 .obtain⟨i,hi⟩:=mem o fa;rcases qq i o hi with rfl|⟨y,h1,hM,hk,hs⟩
  .exact Rz
  .rw[hs.all.2.1];exact h.Ry y (Tp h1)
 .obtain⟨r,xm,wo⟩:=h.aj;refine h.te.sub (M:=dp b.O) (hb.nw.1 0 ⟨rfl,r,xm,om⟩) (λi d e j hM hd he hj=>?_) (λi d hM hd hk=>?_) (λi d' yX=>?_)
  .obtain⟨o,h1,rfl⟩:=pB hd;have qD:=h.en o (Tp h1);obtain⟨_,j',x,h3,h4,h5⟩:=qD.to e he;have:j'=j:=om;subst this;exact hb.cl.e i o hM h1 e.2 j' ⟨e.1,by rw[qD.eq];exact aal.2 ⟨e,he,rfl⟩⟩ ⟨h3,x,h4,h5⟩
  .obtain⟨o,h1,rfl⟩:=pB hd;obtain⟨x,h2,h3⟩:=eW i o h1 hM hk;rw[<-h3.sk];exact gO h2
  .obtain⟨x,h1,rfl⟩:=pB yX;rcases qq i x h1 with rfl|⟨y,h2,hM,hk,hs⟩
   .exact .inl rfl
   .exact .inr ⟨by rw[hs.sk];exact gO h2,hM⟩
theorem yn{α:Type}{l:List α}{n i:Nat}{x:α}(h:(l.take n)[i]? =some x):l[i]? =some x/\i<n:=by
 rw[aaM]at h;split at h
 .exact⟨h,by assumption⟩
 .cases h
theorem Ep{α:Type}{l:List α}{n i:Nat}{x:α}(h:l[i]? =some x)(hi:i<n):(l.take n)[i]? =some x:=by rw[aaM,if_pos hi];exact h
theorem K6(O:List Obj)(k t:Nat)(x:bi):tx O k t x=gD\/tx O k t x=x:=by
 unfold tx;split
 .exact .inl rfl
 .exact .inr rfl
theorem KI.gQ{c d:Kr}(h:KI c)(hf:gT c d):KI d:=by
 obtain⟨n1,n2,n3,P,h1,h2,h3,h4,rfl⟩:=hf.ex;have eW:∀(i:Nat)o,c.l[i]? =some o->o.ag≠0->(c.l.take n1)[i]? =some o:=λi o ho hk=>Ep ho (adF λhle=>hk (by simpa[qO]using h1.t.dr i o hle ho))
 have Cb:∀z,gn c.l z->gn (c.l.take n1) z:=λz⟨j,x,a1,a2,a3⟩=>⟨j,x,a1,eW j x a2 a3,a3⟩
 have eE:∀z r,fO c z r->fO ⟨c.l.take n1,c.ops.take n2,P.take n3⟩ z r:=λz r⟨hr,n,o,a1,a2,a3⟩=>by
  refine⟨hr,n,o,a1,Ep a2 (adF λhle=>?_),Cb _ a3⟩
  have hq:=h2.t.dr n o hle a2;obtain⟨j,_,e,_⟩:=a3;simp only[qP,decide_eq_true_eq]at hq;omega
 have cI:=h.pos;have q8:1<=n1:=by have:=h1.t.mn;omega
 have ZO:P.length=c.ps.length:=h3.1;have qk:0<c.ps.length:=adQ.2 h.ne;have Yq:1<=n3:=by have:=h4.t.mn;omega
 have ag4:=h4.t.le;have O0:∀x,x∈P.take n3->x=gD\/x∈c.ps:=λx hx=>by
  obtain⟨t,ht⟩:=aaa (abo hx);obtain⟨o,a1,a2⟩:=h3.get ht;rcases K6 (c.l.take n1) c.ps.length t o with a3|a3
  .exact .inl (a2.trans a3)
  .exact .inr (by rw[a2,a3];exact Tp a1)
 have kr:=hf.kr h.kr;refine⟨?_,?_,?_,kr.sm,kr.sl,kr.ne,λx hx hl=>?_,λx hx s hs hh=>?_,λo ho q hq hh=>eE _ _ (h.qu o (abo ho) q hq hh),λo ho h5=>?_,λo ho=>?_,λo ho hk=>h.z o (abo ho) hk,λi o hi hk=>?_,λo ho=>h.dj o (abo ho),λo ho=>h.Ry o (abo ho),?_⟩
 .show(c.l.take n1).length<=40;rw[aaA];have:=h.ll;omega
 .show(c.ops.take n2).length<=60;rw[aaA];have:=h.lo;omega
 .show(P.take n3).length<=8;rw[aaA];have:=h.lp;omega
 .rcases O0 x hx with rfl|hx
  .rfl
  .exact h.aS x hx hl
 .rcases O0 x hx with rfl|hx
  .cases hs
  .exact eE _ _ (h.cap x hx s hs hh)
 .obtain⟨n,a1,a2⟩:=h.pr o (abo ho) h5;refine⟨n,a1,?_⟩;show n<(P.take n3).length;rw[aaA];refine Nat.lt_min.2 ⟨adF λhle=>?_,om⟩
  have hq:=h4.t.dr n P[n] hle (vU om);simp only[qR,aab,abN]at hq;have:(c.l.take n1).any (dJ (n:Int))=true:=abc.2 ⟨o,ho,by simp[dJ,h5,a1]⟩
  rw[this]at hq;cases hq.2
 .have he:=h.en o (abo ho);refine⟨he.eq,he.EY,he.cL,λe hx=>?_⟩
  obtain⟨a0,j,x,a1,a2,a3⟩:=he.to e hx;exact⟨a0,j,x,a1,eW j x a2 a3,a3⟩
 .obtain⟨a1,a2⟩:=yn hi;rcases h.pe i o a1 hk with a3|⟨j,x,a3,a4,a5,a6⟩
  .exact .inl a3
  .exact .inr ⟨j,x,a3,eW j x a4 om,a5,a6⟩
 .show Tree ((c.l.take n1).map vY);rw[adh];refine h.te.take q8 λi d hle hd=>?_
  obtain⟨o,a1,rfl⟩:=pB hd;have:=h1.t.dr i o hle a1;show o.ag=0;simpa[qO]using this
theorem KI.to{k a:Kr}(h:KI k)(h1:iQ k a):KI a:=by
 induction h1 with
 |refl=>exact h
 |step _ ho ih=>exact ih.J7 ho
theorem KI.O3{k:Kr}(h:KI k):KI (eB k):=by obtain⟨a,c,h1,h2,h3⟩:=(gq h.kr).ex;exact((h.to h1).J7 h2).gQ h3
end Kn
namespace Kn
theorem wq{l:List Ob}{aq:Nat}{ax follow:Bool}{rec:Nat->List bM.dQ->Nat->R4}{A:Nat->Prop}{Q:R4->Prop}(h0:∀e,e≠0->Q (R4.no e))(h1:∀a,A a->Q ⟨a,BN l a,[],0⟩)(h2:∀a w,A a->(lY l a).ag=2->mN l a w<0->Q ⟨-1,a,w,0⟩)(h3:∀a w,A a->(lY l a).ag=2->¬mN l a w<0->Q ⟨mN l a w,a,w,0⟩)(LB:∀a,A a->(lY l a).ag=2->¬(ax=true/\a=aq)->A (BN l a))(RA:∀a w,A a->(lY l a).ag=2->¬mN l a w<0->A (mN l a w).toNat)(Bc:∀a rest k,A a->Q (rec a rest k)):∀(parts:List bM.dQ)(a:Nat),A a->Q (Iy l aq ax follow rec parts a)
 | [],a,ha=>h1 a ha
 |w::rest,a,ha=>by
  rw[Iy];split
  .exact h0 11 (by decide)
  .rename_i hk;have hk:(lY l a).ag=2:=by simpa using hk
   split
   .split
    .exact h0 14 (by decide)
    .rename_i hf;exact wq h0 h1 h2 h3 LB RA Bc rest _ (LB a ha hk hf)
   .split
    .rename_i hn;split
     .exact h0 6 (by decide)
     .exact h2 a w ha hk hn
    .rename_i hn;split
     .exact Bc a rest _ ha
     .split
      .exact h3 a w ha hk hn
      .exact wq h0 h1 h2 h3 LB RA Bc rest _ (RA a w ha hk hn)
theorem IK{l:List Ob}{aq:Nat}{ax follow:Bool}{A:Nat->Prop}{Q:R4->Prop}(h0:∀e,e≠0->Q (R4.no e))(h1:∀a,A a->Q ⟨a,BN l a,[],0⟩)(h2:∀a w,A a->(lY l a).ag=2->mN l a w<0->Q ⟨-1,a,w,0⟩)(h3:∀a w,A a->(lY l a).ag=2->¬mN l a w<0->Q ⟨mN l a w,a,w,0⟩)(LB:∀a,A a->(lY l a).ag=2->¬(ax=true/\a=aq)->A (BN l a))(RA:∀a w,A a->(lY l a).ag=2->¬mN l a w<0->A (mN l a w).toNat)(hr:ax=false->A 0):
  ∀(n:Nat)(parts:List bM.dQ)(a:Nat),A a->Q (CH l aq ax follow n parts a)
 |0,parts,a,ha=>wq h0 h1 h2 h3 LB RA (λ_ _ _ _=>h0 13 (by decide)) parts a ha
 |n+1,parts,a,ha=>by
  refine wq h0 h1 h2 h3 LB RA (λa rest k ha=>?_) parts a ha
  rw[Q9];split
  .rename_i h;exact h0 _ h
  .split
   .exact h0 14 (by decide)
   .rename_i hf;refine IK h0 h1 h2 h3 LB RA hr n _ _ ?_;split
    .rename_i dI;exact hr (by cases ax with|false=>rfl|true=>exact absurd ⟨dI,rfl⟩ hf)
    .exact ha
theorem K7{l:List Ob}{aq:Int}{s:bM.dQ}{ax follow:Bool}{A:Nat->Prop}{Q:R4->Prop}(h0:∀e,e≠0->Q (R4.no e))(h1:∀a,A a->Q ⟨a,BN l a,[],0⟩)(h2:∀a w,A a->(lY l a).ag=2->mN l a w<0->Q ⟨-1,a,w,0⟩)(h3:∀a w,A a->(lY l a).ag=2->¬mN l a w<0->Q ⟨mN l a w,a,w,0⟩)(LB:∀a,A a->(lY l a).ag=2->¬(ax=true/\a=aq.toNat)->A (BN l a))(RA:∀a w,A a->(lY l a).ag=2->¬mN l a w<0->A (mN l a w).toNat)(hr:ax=false->A 0)(hb:∀n:Nat,aq=n->n<l.length->(lY l n).ag=2->A n):Q (qG l aq s ax follow):=by
 rw[qG];split
 .rename_i hi;obtain⟨n,rfl,hn⟩:=Nw hi;split
  .exact h0 11 (by decide)
  .rename_i hk;have hk:(lY l n).ag=2:=by simpa using hk
   split
   .rename_i h;exact h0 _ h
   .split
    .exact h0 14 (by decide)
    .rename_i hf;refine IK h0 h1 h2 h3 LB RA hr 6 _ _ ?_;split
     .rename_i dI;exact hr (by cases ax with|false=>rfl|true=>exact absurd ⟨dI,rfl⟩ hf)
     .exact hb n rfl hn hk
 .exact h0 6 (by decide)
theorem O4{l:List Obj}{n:Nat}{o:Obj}(h:l[n]? =some o):lY (l.map Obj.ob) n=o.ob:=by rw[lY,Tm,h];rfl
theorem YU{l:List Obj}{n:Nat}(h:(lY (l.map Obj.ob) n).ag≠0):∃o,l[n]? =some o/\lY (l.map Obj.ob) n=o.ob:=by
 cases ho:l[n]? with
 |none=>exfalso;apply h;rw[lY,Tm,ho];rfl
 |some o=>exact⟨o,rfl,O4 ho⟩
theorem Vs{l:List Obj}{n:Nat}{o:Obj}(h:l[n]? =some o):BN (l.map Obj.ob) n=o.up.toNat:=by rw[BN,O4 h];rfl
theorem Vt{l:List Obj}{n:Nat}{o:Obj}(h:l[n]? =some o)(w:bM.dQ):mN (l.map Obj.ob) n w=fT (dO o) (bM.cG w):=by rw[mN,O4 h];rfl
theorem RB{l:List Obj}{n:Nat}{o:Obj}(h:l[n]? =some o){w:bM.dQ}(hf:¬mN (l.map Obj.ob) n w<0):∃e,e∈dO o/\e.1.toList=(bM.cG w).toList/\mN (l.map Obj.ob) n w=e.2:=by
 rw[Vt h]at hf|-;rcases i3 (dO o) (bM.cG w)with⟨e,h1,h2,h3⟩|⟨h3,_⟩
 .exact⟨e,h1,h2,h3⟩
 .omega
def Er(l:List Obj)(a:Nat):Prop:=∃o,l[a]? =some o/\o.ag≠0
theorem KI.O5{k:Kr}(h:KI k){a:Nat}(ha:Er k.l a):Er k.l (BN (k.l.map Obj.ob) a):=by
 obtain⟨o,h1,h2⟩:=ha;rw[Vs h1];rcases h.te.ux a (vY o) (gO h1)with h3|h3|⟨_,u,x,e,h3,h4,h5,_⟩
 .have h3:o.up=a:=h3;rw[h3];exact⟨o,h1,h2⟩
 .have h3:o.up=0:=h3;rw[h3];obtain⟨r,h4,h5⟩:=h.aj;exact⟨r,h4,om⟩
 .have h3:o.up=u:=h3;rw[h3];obtain⟨y,h6,rfl⟩:=pB h4;refine⟨y,h6,λhz=>?_⟩
  have:=h.z y (Tp h6) hz;subst this;cases h5
theorem KI.Az{k:Kr}(h:KI k){a:Nat}{w:bM.dQ}(ha:Er k.l a)(hf:¬mN (k.l.map Obj.ob) a w<0):Er k.l (mN (k.l.map Obj.ob) a w).toNat/\0<=mN (k.l.map Obj.ob) a w:=by obtain⟨o,h1,_⟩:=ha;obtain⟨e,h3,_,h4⟩:=RB h1 hf;obtain⟨_,j,x,h5,h6,h7⟩:=(h.en o (Tp h1)).to e h3;rw[h4,h5];exact⟨⟨x,h6,h7⟩,om⟩
theorem KI.RC{k:Kr}(h:KI k)(aq:Int)(s:bM.dQ)(ax follow:Bool):(gV k aq s ax follow).eS=0->(gV k aq s ax follow).bm= -1\/gn k.l (gV k aq s ax follow).bm:=by
 refine K7 (A:=Er k.l) (Q:=λr=>r.eS=0->r.bm= -1\/gn k.l r.bm) (λe he h0=>absurd h0 he) (λa⟨o,h1,h2⟩ _=>.inr ⟨a,o,rfl,h1,h2⟩) (λ_ _ _ _ _ _=>.inl rfl) (λa w ha _ hf _=>?_)
  (λa ha _ _=>h.O5 ha) (λa w ha _ hf=>(h.Az ha hf).1) (λ_=>?_) (λn _ hn hk=>?_)
 .obtain⟨⟨o,h1,h2⟩,h3⟩:=h.Az ha hf;exact .inr ⟨_,o,by show mN _ _ _=_;omega,h1,h2⟩
 .obtain⟨r,h4,h5⟩:=h.aj;exact⟨r,h4,om⟩
 .obtain⟨o,h1,h2⟩:=YU (l:=k.l) (n:=n) (by rw[hk];decide)
  rw[h2]at hk;have hk:o.ag=2:=hk;exact⟨o,h1,om⟩
theorem fO.at{k:Kr}{z r:Int}(h:fO k z r):∃n j:Nat,z=n/\n<k.ops.length/\dR k.ops n=j/\j<k.l.length:=by obtain⟨_,n,o,h1,h2,j,x,h3,h4,_⟩:=h;refine⟨n,j,h1,(Km.1 h2).1,?_,(Km.1 h4).1⟩;rw[dR,Y6,h2];exact h3
theorem KI.eE{k:Kr}(h:KI k){p:Nat}{s:eh}(hs:s∈an k.ps p)(hh:s.has=true):fO k s.dF s.bU:=by
 unfold an at hs;cases hp:k.ps[p]? with
 |none=>rw[hp]at hs;cases hs
 |some x=>rw[hp]at hs;exact h.cap x (Tp hp) s hs hh
theorem KI.kw{k:Kr}(h:KI k){p:Nat}(hp:p<k.ps.length):KW k p:=
 ⟨h.kr,h.ll,h.EY,h.lk,λo ho e he=>((h.en o ho).to e he).1,hp,λs hs hh=>(h.eE hs hh).at⟩
end Kn
namespace Kn
theorem Hc.mono{l l':List Obj}{o:Obj}(h:Hc l o)(hm:∀(j:Nat)x,l[j]? =some x->x.ag≠0->∃y,l'[j]? =some y/\y.ag≠0):Hc l' o:=
 ⟨h.eq,h.EY,h.cL,λe he=>by obtain⟨h1,j,x,h2,h3,h4⟩:=h.to e he;obtain⟨y,h5,h6⟩:=hm j x h3 h4;exact⟨h1,j,y,h2,h5,h6⟩⟩
structure Vu(k:Kr)(l':List Obj)(x:Obj):Prop where
 sm:x.sm
 d:x.data.length<=60
 q:∀q,q∈x.ar->q.has=true->fO k q.dF q.bU
 p:x.ag=5->∃n:Nat,x.ba=n/\n<k.ps.length
 e:Hc l' x
 z:x.ag=0->x=ij
theorem KI.bm{k:Kr}(h:KI k){l':List Obj}(hm:∀(j:Nat)x,k.l[j]? =some x->x.ag≠0->∃y,l'[j]? =some y/\y.ag≠0){x:Obj}(hx:x∈k.l):Vu k l' x:=
 ⟨h.sm x hx,h.Ry x hx,h.qu x hx,h.pr x hx,(h.en x hx).mono hm,h.z x hx⟩
theorem fO.mono{k k':Kr}{z r:Int}(h:fO k z r)(ho:∀(n:Nat)o,k.ops[n]? =some o->gn k.l o.bm->∃o',k'.ops[n]? =some o'/\gn k'.l o'.bm):fO k' z r:=by obtain⟨h0,n,o,h1,h2,h3⟩:=h;obtain⟨o',h4,h5⟩:=ho n o h2 h3;exact⟨h0,n,o',h1,h4,h5⟩
theorem gn.mono{l l':List Obj}{z:Int}(h:gn l z)(hm:∀(j:Nat)x,l[j]? =some x->x.ag≠0->∃y,l'[j]? =some y/\y.ag≠0):gn l' z:=by obtain⟨j,x,h1,h2,h3⟩:=h;obtain⟨y,h4,h5⟩:=hm j x h2 h3;exact⟨j,y,h1,h4,h5⟩
theorem KI.Cb{k:Kr}(h:KI k){l':List Obj}(YL:l'.length<=40)(hm:∀(j:Nat)x,k.l[j]? =some x->x.ag≠0->∃y,l'[j]? =some y/\y.ag≠0)(hx:∀x,x∈l'->Vu k l' x)(yV:∀(i:Nat)o,l'[i]? =some o->o.ag=4->o.bp= -1\/∃(j:Nat)(x:Obj),o.bp=j/\l'[j]? =some x/\x.ag=4/\x.bp=i)(ht:Tree (l'.map vY)):KI ⟨l',k.ops,k.ps⟩:=by
 have eE:∀z r,fO k z r->fO ⟨l',k.ops,k.ps⟩ z r:=λz r hc=>hc.mono λn o ho hi=>⟨o,ho,hi.mono hm⟩
 exact⟨YL,h.lo,h.lp,λo ho=>(hx o ho).sm,h.sl,h.ne,h.aS,λx hx s hs hh=>eE _ _ (h.cap x hx s hs hh),λo ho q hq hh=>eE _ _ ((hx o ho).q q hq hh),λo ho=>(hx o ho).p,λo ho=>(hx o ho).e,λo ho=>(hx o ho).z,yV,h.dj,λo ho=>(hx o ho).d,ht⟩
theorem KI.KO{k:Kr}(h:KI k){n:Nat}{o o':Obj}(ho:k.l[n]? =some o)(hs:o'.ag=o.ag/\o'.ak=o.ak/\o'.up=o.up/\o'.al=o.al/\o'.bp=o.bp/\o'.ba=o.ba)(hk:o.ag≠0)(Fk:o'.sm)(hd:o'.data.length<=60)(hq:∀q,q∈o'.ar->q.has=true->fO k q.dF q.bU):KI ⟨k.l.set n o',k.ops,k.ps⟩:=by
 obtain⟨s1,s2,s3,s4,s5,s6⟩:=hs;have hn:=(Km.1 ho).1;have get:∀i:Nat,(k.l.set n o')[i]? =if i=n then some o' else k.l[i]? :=λi=>by
  by_cases e:i=n
  .subst e;rw[if_pos rfl,TH hn]
  .rw[if_neg e,U7 (λx=>e x.symm)]
 have hm:∀(j:Nat)x,k.l[j]? =some x->x.ag≠0->∃y,(k.l.set n o')[j]? =some y/\y.ag≠0:=λj x hx hxk=>by
  rw[get];by_cases e:j=n
  .rw[if_pos e];exact⟨o',rfl,by rw[s1];exact hk⟩
  .rw[if_neg e];exact⟨x,hx,hxk⟩
 have K8:=Tp ho;refine h.Cb (by rw[aaF];exact h.ll) hm (λx hx=>?_) (λi x hx h4=>?_) ?_
 .rcases aaK hx with hx|rfl
  .exact h.bm hm hx
  .have he:=(h.en o K8).mono hm;have nT:dO x=dO o:=by unfold dO;rw[s2]
   exact⟨Fk,hd,hq,λh5=>by rw[s6];exact h.pr o K8 (s1▸h5),⟨by rw[nT,s2];exact he.eq,by rw[nT];exact he.EY,λhn=>by rw[s2];exact he.cL (s1▸hn),λe hx=>he.to e (nT▸hx)⟩,λhz=>absurd (s1▸hz) hk⟩
 .have key:∀y:Obj,k.l[i]? =some y->y.ag=4->y.bp= -1\/∃(j:Nat)(x:Obj),y.bp=j/\(k.l.set n o')[j]? =some x/\x.ag=4/\x.bp=i:=λy hy O6=>by
   rcases h.pe i y hy O6 with h1|⟨j,z,h1,h2,h3,h4⟩
   .exact .inl h1
   .right;by_cases e:j=n
    .subst e;rw[ho]at h2;cases h2;exact⟨j,o',h1,by rw[get,if_pos rfl],by rw[s1];exact h3,by rw[s5];exact h4⟩
    .exact⟨j,z,h1,by rw[get,if_neg e];exact h2,h3,h4⟩
  rw[get]at hx;by_cases e:i=n
  .rw[if_pos e]at hx;cases hx;rw[s5];exact key o (e▸ho) (s1▸h4)
  .rw[if_neg e]at hx;exact key x hx h4
 .have:(k.l.set n o').map vY=k.l.map vY:=by
   apply abr;intro i;rw[Tm,Tm,get];by_cases e:i=n
   .subst e;rw[if_pos rfl,ho];show some _=some _;unfold vY dO;rw[s1,s2,s3,s4]
   .rw[if_neg e]
  rw[this];exact h.te
theorem gh{l:List Obj}{o:Obj}(h:(aH l o).2.2=0)(hl:l.length<=40):∃j:Nat,(aH l o).2.1=j/\(aH l o).1[j]? =some o/\(∀i,i≠j->(aH l o).1[i]? =l[i]?)/\(∀d,l[j]? =some d->d.ag=0)/\(aH l o).1.length<=40/\(∀x,x∈(aH l o).1->x∈l\/x=o):=by
 have hm:∀x,x∈(aH l o).1->x∈l\/x=o:=λx=>Aj
 revert h hm;unfold aH;split
 .rename_i k hk;intro _ hm;have oW:=aaN.1 hk;refine⟨k,rfl,TH oW.1,λi hi=>U7 (λe=>hi e.symm),λd hd=>?_,by rw[aaF];exact hl,λx hx=>hm x hx⟩
  rw[vU oW.1]at hd;cases hd;simpa using oW.2.1
 .split
  .intro h;cases h
  .rename_i YL;intro _ hm;refine⟨l.length,rfl,by rw[ZZ (Ym _)];simp,λi hi=>?_,λd hd=>?_,by simp only[aa3,aau,abl];omega,λx hx=>hm x hx⟩
   .rcases aaf i l.length with h1|h1
    .exact aac h1
    .rw[ZZ h1,aaE h1];cases e:i-l.length with
     |zero=>omega
     |succ n=>rfl
   .rw[aaE (Ym _)]at hd;cases hd
structure RD(k:Kr)(o:Obj):Prop where
 sm:o.sm
 kd:o.ag≠0
 e:o.ak=[]
 q:o.ar=[]
 d:o.data.length<=60
 l:o.al=0
 u:o.up=0
 pe:o.ag=4->o.bp= -1
 p:o.ag=5->∃n:Nat,o.ba=n/\n<k.ps.length
theorem KI.make{k:Kr}(h:KI k){o:Obj}(ho:RD k o)(he:(aH k.l o).2.2=0):KI ⟨(aH k.l o).1,k.ops,k.ps⟩:=by
 obtain⟨j,_,h2,h3,h4,h5,h6⟩:=gh he h.ll;have hm:∀(i:Nat)x,k.l[i]? =some x->x.ag≠0->∃y,(aH k.l o).1[i]? =some y/\y.ag≠0:=λi x hx hk=>by
  by_cases e:i=j
  .subst e;exact absurd (h4 x hx) hk
  .exact⟨x,by rw[h3 i e];exact hx,hk⟩
 refine h.Cb h5 hm (λx hx=>?_) (λi x hx h4'=>?_) ?_
 .rcases h6 x hx with hx|rfl
  .exact h.bm hm hx
  .exact⟨ho.sm,ho.d,λq hq=>(by rw[ho.q]at hq;cases hq),ho.p,⟨(by unfold dO;rw[ho.e];rfl),(by unfold dO;rw[ho.e];exact List.Pairwise.nil),λ_=>ho.e,λe he=>(by unfold dO at he;rw[ho.e]at he;cases he)⟩,λhz=>absurd hz ho.kd⟩
 .by_cases e:i=j
  .subst e;rw[h2]at hx;cases hx;exact .inl (ho.pe h4')
  .rw[h3 i e]at hx;rcases h.pe i x hx h4' with a|⟨n,y,a1,a2,a3,a4⟩
   .exact .inl a
   .exact .inr ⟨n,y,a1,by rw[h3 n λe=>by subst e;have:=h4 y a2;omega];exact a2,a3,a4⟩
 .refine h.te.new (k:=j) (s:=vY o) ⟨ho.kd,ho.l,by unfold vY dO;rw[ho.e];rfl,.inl ho.u⟩ (gO h2) (λi hi=>by rw[Tm,Tm,h3 i hi]) λd hd=>?_
  obtain⟨x,a1,rfl⟩:=pB hd;exact h4 x a1
theorem rB{l:List Obj}{z:Int}(h:qp l z 0=true):gn l z:=by unfold qp o7 at h;rw[aab,aab,decide_eq_true_eq,decide_eq_true_eq,Pj]at h;obtain⟨h1,h2,h3⟩:=h;have hz:z.toNat<l.length:=om;rw[Tm,vU hz]at h3;simp only[aaD,aab]at h3;refine⟨z.toNat,l[z.toNat],om,vU hz,?_⟩;have:=h3.1;simpa[Obj.ob]using this
theorem pC{b:Bool}{l:List Obj}{cL bm:Int}{name:ByteArray}(h:(cQ b l cL name bm).2=0):∃(n p:Nat)(o q:Obj),cL=n/\bm=p/\l[n]? =some o/\l[p]? =some q/\q.ag≠0/\o.ag=2/\o.al≠0/\b=true/\
  ¬fT (dO o) name>=0/\o.ak.length<8/\(cQ b l cL name bm).1=kh l n p name:=by
 have hr:=h;unfold cQ at hr;by_cases h1:qp l cL 0=true
 .rw[if_pos h1]at hr;by_cases h2:qp l bm 0=true
  .rw[if_pos h2]at hr;obtain⟨n,o,rfl,hn,_⟩:=rB h1;obtain⟨p,q,rfl,hp,hq⟩:=rB h2;rw[Y6,Y6,hn]at hr;simp only[]at hr;have hR:cQ b l n name p=Ap b o (kh l n p name) name:=by unfold cQ;rw[if_pos h1,if_pos h2,Y6,Y6,hn]
   unfold Ap at hr;by_cases a1:o.ag≠2
   .rw[if_pos a1]at hr;cases hr
   rw[if_neg a1]at hr;by_cases a2:o.al=0
   .rw[if_pos a2]at hr;cases hr
   rw[if_neg a2]at hr;by_cases a3:b=false
   .rw[if_pos a3]at hr;cases hr
   rw[if_neg a3]at hr;by_cases a4:fT (o.ak.map oo) name>=0
   .rw[if_pos a4]at hr;cases hr
   rw[if_neg a4]at hr;by_cases a5:o.ak.length>=8
   .rw[if_pos a5]at hr;cases hr
   exact⟨n,p,o,q,rfl,rfl,hn,hp,hq,by simpa using a1,a2,by simpa using a3,a4,om,by rw[hR,Ap,if_neg a1,if_neg a2,if_neg a3,if_neg a4,if_neg a5]⟩
  .rw[if_neg h2]at hr;cases hr
 .rw[if_neg h1]at hr;cases hr
def tf(o:Obj)(name:ByteArray)(p:Nat):Obj:={o with ak:=(iZ (name,(p:Int)) (dO o)).map gl}
def IL(q:Obj)(n:Nat):Obj:={q with al:=IntKind.i64.wrap (q.al+1),up:=if q.ag=2 then(n:Int)else q.up}
theorem uA{l:List Obj}{n p:Nat}{o q:Obj}(hn:l[n]? =some o)(hp:l[p]? =some q)(Ca:n≠p)(name:ByteArray):
  (kh l n p name)[n]? =some (tf o name p)/\(kh l n p name)[p]? =some (IL q n)/\(∀j,j≠n->j≠p->(kh l n p name)[j]? =l[j]?)/\(kh l n p name).length=l.length:=by
 have kG:=(Km.1 hn).1;have jZ:=(Km.1 hp).1;have G0:(l.set n (tf o name p))[p]? =some q:=by rw[U7 Ca];exact hp
 have e:kh l n p name=(l.set n (tf o name p)).set p (IL q n):=by
  unfold kh;rw[hn];simp only[];rw[show {o with ak:=(iZ (name,(p:Int)) (o.ak.map oo)).map gl}=tf o name p from rfl,G0]
  rfl
 rw[e];refine⟨?_,?_,λj h1 h2=>?_,aE⟩
 .rw[U7 Ca.symm,TH kG]
 .rw[TH (by simpa using jZ)]
 .rw[U7 (λe=>h2 e.symm),U7 (λe=>h1 e.symm)]
theorem AA(x:NE):∀es:List NE,x∈iZ x es
 | []=>by simp[iZ]
 |e::r=>by
  rw[iZ];split
  .simp
  .exact aby _ (AA x r)
theorem yo{x y:NE}:∀{es:List NE},y∈es->y∈iZ x es
 | [],h=>by cases h
 |e::r,h=>by
  rw[iZ];split
  .exact aby _ h
  .rcases aaJ.1 h with rfl|h
   .simp
   .exact aby _ (yo h)
theorem Hd{es:List NE}{name:ByteArray}(cI:∀e,e∈es->0<=e.2)(h:¬fT es name>=0):∀e,e∈es->e.1.toList≠name.toList:=by
 rcases i3 es name with⟨e,he,_,h2⟩|⟨_,h2⟩
 .have:=cI e he;rw[h2]at h;omega
 .exact h2
theorem KI.enter{k:Kr}(h:KI k){b:Bool}{cL bm:Int}{name:ByteArray}(HU:b=true->name.size<=12)(va:∀(p:Nat)q,bm=p->k.l[p]? =some q->q.al=0)(he:(cQ b k.l cL name bm).2=0):KI ⟨(cQ b k.l cL name bm).1,k.ops,k.ps⟩:=by
 obtain⟨n,p,o,q,rfl,rfl,hn,hp,K4,fC,Bd,hb,hf,h8,hR⟩:=pC he;have Wm:=va p q rfl hp;have Ca:n≠p:=λe=>by subst e;rw[hn]at hp;cases hp;exact Bd Wm
 rw[hR];obtain⟨g1,g2,g3,g4⟩:=uA hn hp Ca name;have K8:=Tp hn;have RE:=Tp hp;have qD:=h.en o K8;have OY:q.ak=[]:=by have:=h.te.em p (vY q) (gO hp) Wm;have h2:=(h.en q RE).eq;have this:dO q=[]:=this;rw[this]at h2;exact h2
 have vB:dO (tf o name p)=iZ (name,(p:Int)) (dO o):=by unfold dO tf;exact nV _
 have O7:dO (IL q n)=dO q:=rfl;have hw:IntKind.i64.wrap (q.al+1)=1:=by rw[Wm];rfl
 have hm:∀(j:Nat)x,k.l[j]? =some x->x.ag≠0->∃y,(kh k.l n p name)[j]? =some y/\y.ag≠0:=λj x hx hk=>by
  by_cases e:j=n
  .subst e;rw[hn]at hx;cases hx;exact⟨_,g1,hk⟩
  .by_cases e2:j=p
   .subst e2;rw[hp]at hx;cases hx;exact⟨_,g2,hk⟩
   .exact⟨x,by rw[g3 j e e2];exact hx,hk⟩
 have qq:∀(i:Nat)x,(kh k.l n p name)[i]? =some x->(i=n/\x=tf o name p)\/(i=p/\x=IL q n)\/(i≠n/\i≠p/\k.l[i]? =some x):=λi x hx=>by
  by_cases e:i=n
  .subst e;rw[g1]at hx;cases hx;exact .inl ⟨rfl,rfl⟩
  .by_cases e2:i=p
   .subst e2;rw[g2]at hx;cases hx;exact .inr (.inl ⟨rfl,rfl⟩)
   .rw[g3 i e e2]at hx;exact .inr (.inr ⟨e,e2,hx⟩)
 have cI:∀e,e∈dO o->0<=e.2:=λe hx=>by obtain⟨_,j,_,h1,_⟩:=qD.to e hx;omega
 refine h.Cb (by rw[g4];exact h.ll) hm (λx hx=>?_) (λi x hx h4=>?_) ?_
 .obtain⟨i,hi⟩:=aaa hx;rcases qq i x hi with⟨rfl,rfl⟩|⟨rfl,rfl⟩|⟨_,_,hx⟩
  .have hO:=h.bm hm K8;refine⟨⟨⟨hO.sm.t.1,⟨_,rfl⟩,hO.sm.t.2.2⟩,hO.sm.d,?_,hO.sm.q,hO.sm.qd⟩,hO.d,hO.q,hO.p,?_,λhz=>absurd hz (by rw[show(tf o name p).ag=o.ag from rfl,fC];decide)⟩
   .show((iZ (name,(p:Int)) (dO o)).map gl).length<=8;rw[Pj,DB,qD.len];omega
   .refine⟨by rw[vB];rfl,by rw[vB];exact Nv qD.EY (Hd cI hf),λhk=>absurd fC hk,λe hx=>?_⟩
    rw[vB]at hx;rcases sH hx with hx|rfl
    .exact hO.e.to e hx
    .exact⟨HU hb,p,_,rfl,g2,K4⟩
  .have hO:=h.bm hm RE;exact⟨⟨hO.sm.t,hO.sm.d,hO.sm.e,hO.sm.q,hO.sm.qd⟩,hO.d,hO.q,hO.p,⟨hO.e.eq,hO.e.EY,hO.e.cL,hO.e.to⟩,λhz=>absurd hz K4⟩
  .exact h.bm hm (Tp hx)
 .have key:∀(i:Nat)y,k.l[i]? =some y->y.ag=4->y.bp= -1\/∃(j:Nat)(x:Obj),y.bp=j/\(kh k.l n p name)[j]? =some x/\x.ag=4/\x.bp=i:=λi y hy O6=>by
   rcases h.pe i y hy O6 with h1|⟨j,z,h1,h2,h3,h4⟩
   .exact .inl h1
   .right;by_cases e:j=n
    .subst e;rw[hn]at h2;cases h2;omega
    .by_cases e2:j=p
     .subst e2;rw[hp]at h2;cases h2;exact⟨j,_,h1,g2,h3,h4⟩
     .exact⟨j,z,h1,by rw[g3 j e e2];exact h2,h3,h4⟩
  rcases qq i x hx with⟨rfl,rfl⟩|⟨rfl,rfl⟩|⟨_,_,hx⟩
  .exact key _ o hn h4
  .exact key _ q hp h4
  .exact key i x hx h4
 .refine h.te.enter (nm:=name) (gO hn) (gO hp) Bd Wm K4 (gO g1) (gO g2) (λj a b=>by rw[Tm,Tm,g3 j a b]) ⟨rfl,rfl,rfl⟩ (λe=>?_) ⟨rfl,hw,O7,rfl⟩
  show e∈dO (tf o name p)↔_;rw[vB];exact⟨sH,λhx=>hx.elim yo λhx=>hx▸AA _ _⟩
end Kn
namespace Kn
theorem th{l:List Obj}{cL:Int}{name:ByteArray}(h:(cT l cL name).2.2=0):∃(n k:Nat)(o q:Obj),cL=n/\l[n]? =some o/\o.ag=2/\fT (dO o) name=k/\l[k]? =some q/\¬(q.ag=2/\q.ak.length>0)/\
  (cT l cL name).1=lG l n k name/\(cT l cL name).2.1=k:=by
 have hr:=h;unfold cT at hr;by_cases h1:qp l cL 0=true
 .rw[if_pos h1]at hr;obtain⟨n,o,rfl,hn,_⟩:=rB h1;rw[Y6,hn]at hr;simp only[]at hr;have hR:cT l n name=ya o l n name:=by unfold cT;rw[if_pos h1,Y6,hn]
  unfold ya at hr;by_cases a1:o.ag≠2
  .rw[if_pos a1]at hr;cases hr
  rw[if_neg a1]at hr;by_cases a2:fT (o.ak.map oo) name<0
  .rw[if_pos a2]at hr;cases hr
  rw[if_neg a2]at hr;cases hq:l[(fT (o.ak.map oo) name).toNat]? with
  |none=>rw[hq]at hr;cases hr
  |some q=>
   rw[hq]at hr;simp only[]at hr;by_cases a3:q.ag=2/\q.ak.length>0
   .rw[if_pos a3]at hr;cases hr
   have hk:fT (o.ak.map oo) name=((fT (o.ak.map oo) name).toNat:Nat):=om;refine⟨n,_,o,q,rfl,hn,by simpa using a1,hk,hq,a3,?_,?_⟩
   .rw[hR,ya,if_neg a1,if_neg a2,hq];simp only[if_neg a3]
   .rw[hR,ya,if_neg a1,if_neg a2,hq];simp only[if_neg a3];exact hk
 .rw[if_neg h1]at hr;cases hr
def vC(o:Obj)(name:ByteArray):Obj:={o with ak:=((dO o).filter λe=>decide (e.1.toList≠name.toList)).map gl}
def IM(q:Obj)(p:Nat):Obj:={q with al:=IntKind.i64.wrap (q.al-1),up:=if q.ag=2 then(p:Int)else q.up}
theorem AB{l:List Obj}{n p:Nat}{o q:Obj}(hn:l[n]? =some o)(hp:l[p]? =some q)(Ca:n≠p)(name:ByteArray):
  (lG l n p name)[n]? =some (vC o name)/\(lG l n p name)[p]? =some (IM q p)/\(∀j,j≠n->j≠p->(lG l n p name)[j]? =l[j]?)/\(lG l n p name).length=l.length:=by
 have kG:=(Km.1 hn).1;have jZ:=(Km.1 hp).1;have G0:(l.set n (vC o name))[p]? =some q:=by rw[U7 Ca];exact hp
 have e:lG l n p name=(l.set n (vC o name)).set p (IM q p):=by
  unfold lG;rw[hn];simp only[];rw[show {o with ak:=((o.ak.map oo).filter λe=>decide (e.1.toList≠name.toList)).map gl}=vC o name from rfl,G0]
  rfl
 rw[e];refine⟨?_,?_,λj h1 h2=>?_,aE⟩
 .rw[U7 Ca.symm,TH kG]
 .rw[TH (by simpa using jZ)]
 .rw[U7 (λe=>h2 e.symm),U7 (λe=>h1 e.symm)]
theorem KI.Hb{k:Kr}(h:KI k){cL:Int}{name:ByteArray}(he:(cT k.l cL name).2.2=0):KI ⟨(cT k.l cL name).1,k.ops,k.ps⟩:=by
 obtain⟨n,p,o,q,rfl,hn,fC,hf,hp,OY,hR,_⟩:=th he;have K8:=Tp hn;have RE:=Tp hp;have qD:=h.en o K8;obtain⟨e0,Ax,ML,Z5⟩:∃e0,e0∈dO o/\e0.1.toList=name.toList/\e0.2=(p:Int):=by
  rcases i3 (dO o) name with⟨e,a1,a2,a3⟩|⟨a3,_⟩
  .exact⟨e,a1,a2,om⟩
  .omega
 have Wm:q.ak=[]:=by
  by_cases hk:q.ag=2
  .exact aag (by
    have:=λh=>OY ⟨hk,h⟩
    omega)
  .exact(h.en q RE).cL hk
 have hqn:dO q=[]:=by unfold dO;rw[Wm];rfl
 have Ca:n≠p:=λe=>by subst e;rw[hn]at hp;cases hp;rw[hqn]at Ax;cases Ax
 obtain⟨p',x,b1,_,b3,K4,Ic,_⟩:=h.te.tr n (vY o) e0 (gO hn) Ax;have:p'=p:=om;subst this;rw[gO hp]at b3;cases b3;have K4:q.ag≠0:=K4;have Ic:q.al=1:=Ic;rw[hR];obtain⟨g1,g2,g3,g4⟩:=AB hn hp Ca name;have vB:dO (vC o name)=(dO o).filter λe=>decide (e.1.toList≠name.toList):=by
  show((((dO o).filter λe=>decide (e.1.toList≠name.toList)).map gl).map oo)=_
  exact nV _
 have iu:∀e,e∈dO (vC o name)↔e∈dO o/\e≠e0:=λe=>by rw[vB,aca,decide_eq_true_eq];refine⟨λ⟨a,b⟩=>⟨a,λe1=>by subst e1;exact b ML⟩,λ⟨a,b⟩=>⟨a,λe1=>b (xx qD.EY a Ax (e1.trans ML.symm))⟩⟩
 have O7:dO (IM q p')=[]:=hqn;have hw:IntKind.i64.wrap (q.al-1)=0:=by rw[Ic];rfl
 have hm:∀(j:Nat)x,k.l[j]? =some x->x.ag≠0->∃y,(lG k.l n p' name)[j]? =some y/\y.ag≠0:=λj x hx hk=>by
  by_cases e:j=n
  .subst e;rw[hn]at hx;cases hx;exact⟨_,g1,hk⟩
  .by_cases e2:j=p'
   .subst e2;rw[hp]at hx;cases hx;exact⟨_,g2,hk⟩
   .exact⟨x,by rw[g3 j e e2];exact hx,hk⟩
 have qq:∀(i:Nat)x,(lG k.l n p' name)[i]? =some x->(i=n/\x=vC o name)\/(i=p'/\x=IM q p')\/(i≠n/\i≠p'/\k.l[i]? =some x):=λi x hx=>by
  by_cases e:i=n
  .subst e;rw[g1]at hx;cases hx;exact .inl ⟨rfl,rfl⟩
  .by_cases e2:i=p'
   .subst e2;rw[g2]at hx;cases hx;exact .inr (.inl ⟨rfl,rfl⟩)
   .rw[g3 i e e2]at hx;exact .inr (.inr ⟨e,e2,hx⟩)
 refine h.Cb (by rw[g4];exact h.ll) hm (λx hx=>?_) (λi x hx h4=>?_) ?_
 .obtain⟨i,hi⟩:=aaa hx;rcases qq i x hi with⟨rfl,rfl⟩|⟨rfl,rfl⟩|⟨_,_,hx⟩
  .have hO:=h.bm hm K8;refine⟨⟨⟨hO.sm.t.1,⟨_,rfl⟩,hO.sm.t.2.2⟩,hO.sm.d,?_,hO.sm.q,hO.sm.qd⟩,hO.d,hO.q,hO.p,?_,λhz=>absurd hz (by rw[show(vC o name).ag=o.ag from rfl,fC];decide)⟩
   .show(((dO o).filter λe=>decide (e.1.toList≠name.toList)).map gl).length<=8
    rw[Pj];have:=acW (λe:NE=>decide (e.1.toList≠name.toList)) (dO o)
    have:=qD.len;have:=hO.sm.e;omega
   .exact⟨by rw[vB];rfl,by rw[vB];exact qD.EY.filter _,λhk=>absurd fC hk,λe hx=>hO.e.to e ((iu e).1 hx).1⟩
  .have hO:=h.bm hm RE;exact⟨⟨hO.sm.t,hO.sm.d,hO.sm.e,hO.sm.q,hO.sm.qd⟩,hO.d,hO.q,hO.p,⟨hO.e.eq,hO.e.EY,hO.e.cL,hO.e.to⟩,λhz=>absurd hz K4⟩
  .exact h.bm hm (Tp hx)
 .have key:∀(i:Nat)y,k.l[i]? =some y->y.ag=4->y.bp= -1\/∃(j:Nat)(x:Obj),y.bp=j/\(lG k.l n p' name)[j]? =some x/\x.ag=4/\x.bp=i:=λi y hy O6=>by
   rcases h.pe i y hy O6 with h1|⟨j,z,h1,h2,h3,h4⟩
   .exact .inl h1
   .right;by_cases e:j=n
    .subst e;rw[hn]at h2;cases h2;omega
    .by_cases e2:j=p'
     .subst e2;rw[hp]at h2;cases h2;exact⟨j,_,h1,g2,h3,h4⟩
     .exact⟨j,z,h1,by rw[g3 j e e2];exact h2,h3,h4⟩
  rcases qq i x hx with⟨rfl,rfl⟩|⟨rfl,rfl⟩|⟨_,_,hx⟩
  .exact key _ o hn h4
  .exact key _ q hp h4
  .exact key i x hx h4
 .exact h.te.Hb (gO hn) Ax Z5 (gO hp) hqn (gO g1) (gO g2) (λj a b=>by rw[Tm,Tm,g3 j a b]) ⟨rfl,rfl,rfl⟩ iu ⟨rfl,hw,O7,rfl⟩
theorem O8(k:Kr):RD k (bP (-1)):=⟨⟨⟨⟨[],rfl⟩,⟨[],rfl⟩,by simp[bP]⟩,by simp[bP],by simp[bP],by simp[bP],by simp[bP]⟩,by simp[bP],rfl,rfl,by simp[bP],rfl,rfl,λ_=>rfl,λh=>by simp[bP]at h⟩
structure YV(l:List Obj)(P:List Obj×(Int×Int)×Int)(a b:Nat):Prop where
 ea:P.2.1.1=a
 eb:P.2.1.2=b
 ab:a≠b
 za:∀d,l[a]? =some d->d.ag=0
 zb:∀d,l[b]? =some d->d.ag=0
 ga:P.1[a]? =some (bP b)
 gb:P.1[b]? =some (bP a)
 go:∀i,i≠a->i≠b->P.1[i]? =l[i]?
 m:∀x,x∈P.1->x∈l\/x=bP b\/x=bP a
 ll:P.1.length<=40
theorem yp{l:List Obj}(hl:l.length<=40)(h:(fD l).2.2=0):(aH l (bP (-1))).2.2=0/\∃a b:Nat,(aH l (bP (-1))).2.1=a/\YV l (fD l) a b/\(∀d,(aH l (bP (-1))).1[b]? =some d->d.ag=0):=by
 unfold fD at h;by_cases h1:(aH l (bP (-1))).2.2=0
 .refine⟨h1,?_⟩;rw[if_neg (by simp[h1])]at h
  obtain⟨a,e1,a2,a3,a4,a5,a6⟩:=gh h1 hl;by_cases h2:(aH (aH l (bP (-1))).1 (bP (aH l (bP (-1))).2.1)).2.2=0
  .obtain⟨b,b1,b2,b3,b4,b5,b6⟩:=gh h2 a5;have EV:a≠b:=λe=>by subst e;have:=b4 _ a2;simp[bP]at this
   have hP:fD l=(my (aH (aH l (bP (-1))).1 (bP (aH l (bP (-1))).2.1)).1 a b,((a:Int),(b:Int)),0):=by
    rw[fD,if_neg (by simp[h1]),if_neg (by simp[h2]),e1]
    rw[e1]at b1;rw[b1,Y6]
   rw[e1]at b2 b3 hP b5 b6;have ha:(aH (aH l (bP (-1))).1 (bP (a:Int))).1[a]? =some (bP (-1)):=by rw[b3 a EV];exact a2
   have V0:=(Km.1 ha).1;have Bf:my (aH (aH l (bP (-1))).1 (bP (a:Int))).1 a b=(aH (aH l (bP (-1))).1 (bP (a:Int))).1.set a (bP b):=by rw[my,ha];rfl
   rw[Bf]at hP;refine⟨a,b,e1,?_,b4⟩;rw[hP];refine⟨rfl,rfl,EV,a4,λd hd=>b4 d (by rw[a3 b (λe=>EV e.symm)];exact hd),TH V0,by rw[U7 EV];exact b2,λi h3 h4=>by rw[U7 (λe=>h3 e.symm),b3 i h4,a3 i h3],λx hx=>?_,by rw[aaF];exact b5⟩
   rcases aaK hx with hx|hx
   .rcases b6 x hx with hx|hx
    .rcases a6 x hx with hx|hx
     .exact .inl hx
     .obtain⟨i,hi⟩:=aaa (show x∈(aH (aH l (bP (-1))).1 (bP (a:Int))).1.set a (bP b)from by assumption)
      by_cases ea:i=a
      .subst ea;rw[TH V0]at hi;cases hi;exact .inr (.inl rfl)
      .rw[U7 (λe=>ea e.symm)]at hi
       by_cases eb:i=b
       .subst eb;rw[b2]at hi;cases hi;exact .inr (.inr rfl)
       .rw[b3 i eb,a3 i ea]at hi;exact .inl (Tp hi)
    .exact .inr (.inr hx)
   .exact .inr (.inl hx)
  .rw[if_pos h2]at h;exact absurd h h2
 .rw[if_pos h1]at h;exact absurd h h1
theorem KI.Vv{k:Kr}(h:KI k)(he:(fD k.l).2.2=0):KI ⟨(fD k.l).1,k.ops,k.ps⟩/\gn (fD k.l).1 (fD k.l).2.1.1/\gn (fD k.l).1 (fD k.l).2.1.2:=by
 obtain⟨h1,a,b,e1,P,ZY⟩:=yp h.ll he;have h2:=h.make (O8 k) h1;obtain⟨a',e1',a2,a3,a4,a5,a6⟩:=gh h1 h.ll;have:a'=a:=om;subst this;have hEK:∀p:Int,Vu k (fD k.l).1 (bP p):=λp=>⟨⟨⟨⟨[],rfl⟩,⟨[],rfl⟩,by simp[bP]⟩,by simp[bP],by simp[bP],by simp[bP],by simp[bP]⟩,by simp[bP],by simp[bP],λh=>by simp[bP]at h,⟨rfl,List.Pairwise.nil,λ_=>rfl,λe he=>by cases he⟩,λh=>by simp[bP]at h⟩
 have hm:∀(j:Nat)x,k.l[j]? =some x->x.ag≠0->∃y,(fD k.l).1[j]? =some y/\y.ag≠0:=λj x hx hk=>by
  have ea:j≠a':=λe=>by subst e;exact hk (P.za x hx)
  have eb:j≠b:=λe=>by subst e;exact hk (P.zb x hx)
  exact⟨x,by rw[P.go j ea eb];exact hx,hk⟩
 refine⟨h.Cb P.ll hm (λx hx=>?_) (λi x hx h4=>?_) ?_,⟨a',_,P.ea,P.ga,by simp[bP]⟩,⟨b,_,P.eb,P.gb,by simp[bP]⟩⟩
 .rcases P.m x hx with hx|rfl|rfl
  .exact h.bm hm hx
  .exact hEK _
  .exact hEK _
 .by_cases ea:i=a'
  .subst ea;rw[P.ga]at hx;cases hx;exact .inr ⟨b,_,rfl,P.gb,rfl,rfl⟩
  .by_cases eb:i=b
   .subst eb;rw[P.gb]at hx;cases hx;exact .inr ⟨a',_,rfl,P.ga,rfl,rfl⟩
   .rw[P.go i ea eb]at hx;rcases h.pe i x hx h4 with c|⟨j,y,c1,c2,c3,c4⟩
    .exact .inl c
    .refine .inr ⟨j,y,c1,?_,c3,c4⟩;rw[P.go j (λe=>by subst e;have:=P.za y c2;omega) (λe=>by subst e;have:=P.zb y c2;omega)]
     exact c2
 .refine h2.te.new (k:=b) (s:=vY (bP a')) ⟨by simp[vY,bP],rfl,rfl,.inl rfl⟩ (gO P.gb) (λj hj=>?_) λd hd=>?_
  .rw[Tm,Tm];by_cases ea:j=a'
   .subst ea;rw[P.ga,a2];rfl
   .rw[P.go j ea hj,a3 j ea]
  .obtain⟨x,c1,rfl⟩:=pB hd;exact ZY x c1
theorem rC{l:List Obj}{e:Int}{m:di}(h:(eZ l e m).2=0):∃(n p:Nat)(o q:Obj),e=n/\l[n]? =some o/\o.ag=4/\o.bp=p/\l[p]? =some q/\q.ag=4/\m.data.length<=60/\q.ar.length<4/\(eZ l e m).1=l.set p {q with ar:=q.ar++ [m]}:=by
 have hr:=h;unfold eZ at hr;by_cases h1:e<0\/e>=l.length
 .rw[if_pos h1]at hr;cases hr
 rw[if_neg h1]at hr;have hn:e.toNat<l.length:=om;have kF:=vU hn;rw[kF]at hr;simp only[]at hr;by_cases h2:l[e.toNat].ag≠4
 .rw[if_pos h2]at hr;cases hr
 rw[if_neg h2]at hr;by_cases h3:l[e.toNat].bp<0\/l[e.toNat].bp>=l.length
 .rw[if_pos h3]at hr;cases hr
 rw[if_neg h3]at hr;have hp:l[e.toNat].bp.toNat<l.length:=om;have hpo:=vU hp;rw[hpo]at hr;simp only[]at hr;by_cases h4:l[l[e.toNat].bp.toNat].ag≠4
 .rw[if_pos h4]at hr;cases hr
 rw[if_neg h4]at hr;by_cases h5:m.data.length>60
 .rw[if_pos h5]at hr;cases hr
 rw[if_neg h5]at hr;by_cases h6:l[l[e.toNat].bp.toNat].ar.length>=4
 .rw[if_pos h6]at hr;cases hr
 refine⟨e.toNat,l[e.toNat].bp.toNat,_,_,om,kF,by simpa using h2,om,hpo,by simpa using h4,om,om,?_⟩
 rw[eZ,if_neg h1,kF];simp only[];rw[if_neg h2,if_neg h3,hpo];simp only[];rw[if_neg h4,if_neg h5,if_neg h6]
theorem KI.send{k:Kr}(h:KI k){e:Int}{m:di}(ht:m.S6)(hc:m.has=true->fO k m.dF m.bU)(he:(eZ k.l e m).2=0):KI ⟨(eZ k.l e m).1,k.ops,k.ps⟩:=by
 obtain⟨n,p,o,q,_,_,_,_,hp,hq4,V2,Ic,hR⟩:=rC he;have RE:=Tp hp;have hs:=h.sm q RE;rw[hR];refine h.KO hp ⟨rfl,rfl,rfl,rfl,rfl,rfl⟩ om ⟨⟨hs.t.1,hs.t.2.1,λx hx=>?_⟩,hs.d,hs.e,?_,λx hx=>?_⟩ (h.Ry q RE) λx hx hh=>?_
 .rcases abu.1 hx with hx|hx
  .exact hs.t.2.2 x hx
  .simp at hx;subst hx;exact ht
 .simp only[aa3,aau,abl];omega
 .rcases abu.1 hx with hx|hx
  .exact hs.qd x hx
  .simp at hx;subst hx;omega
 .rcases abu.1 hx with hx|hx
  .exact h.qu q RE x hx hh
  .simp at hx;subst hx;exact hc hh
theorem oa{l:List Obj}{e:Int}(h:(fK l e).2.2=0):∃(n:Nat)(o:Obj)(x:di)(r:List di),e=n/\l[n]? =some o/\o.ag=4/\o.ar=x::r/\(fK l e).1=l.set n {o with ar:=r}/\(fK l e).2.1=x:=by
 have hr:=h;unfold fK at hr;by_cases h1:e<0\/e>=l.length
 .rw[if_pos h1]at hr;cases hr
 rw[if_neg h1]at hr;have hn:e.toNat<l.length:=om;have kF:=vU hn;rw[kF]at hr;simp only[]at hr;by_cases h2:l[e.toNat].ag≠4
 .rw[if_pos h2]at hr;cases hr
 rw[if_neg h2]at hr;have hR:fK l e=(match l[e.toNat].ar with
  | []=>if l[e.toNat].bp<0\/l[e.toNat].bp>=l.length then([],nt,17)else match l[l[e.toNat].bp.toNat]? with
   |none=>([],nt,17)
   |some q=>if q.ag≠4 then([],nt,17)else([],nt,16)
  |x::r=>(l.set e.toNat {l[e.toNat]with ar:=r},x,0)):=by
  rw[fK,if_neg h1,kF];simp only[];rw[if_neg h2];rfl
 cases hq:l[e.toNat].ar with
 |nil=>
  rw[hq]at hr;simp only[]at hr;split at hr
  .cases hr
  .split at hr
   .cases hr
   .split at hr<;>cases hr
 |cons x r=>
  rw[hq]at hR;refine⟨e.toNat,_,x,r,om,kF,by simpa using h2,hq,?_,?_⟩<;>rw[hR]
theorem KI.recv{k:Kr}(h:KI k){e:Int}(he:(fK k.l e).2.2=0):KI ⟨(fK k.l e).1,k.ops,k.ps⟩/\((fK k.l e).2.1.has=true->fO k (fK k.l e).2.1.dF (fK k.l e).2.1.bU):=by
 obtain⟨n,o,x,r,_,hn,ho4,hq,hR,hx⟩:=oa he;have K8:=Tp hn;have hs:=h.sm o K8;rw[hR,hx];have iN:∀y,y∈r->y∈o.ar:=λy hy=>by rw[hq];exact aby _ hy
 refine⟨h.KO hn ⟨rfl,rfl,rfl,rfl,rfl,rfl⟩ om ⟨⟨hs.t.1,hs.t.2.1,λy hy=>hs.t.2.2 y (iN y hy)⟩,hs.d,hs.e,?_,λy hy=>hs.qd y (iN y hy)⟩ (h.Ry o K8) λy hy hh=>h.qu o K8 y (iN y hy) hh,λhh=>h.qu o K8 x (by rw[hq];simp) hh⟩
 have:=hs.q;rw[hq]at this;simp only[aau]at this|-;omega
end Kn
namespace Kn
structure YW(k:Kr)(x:bi):Prop where
 sl:x.aQ.length<=10
 aS:x.aL=false->x.aQ=[]
 cap:∀s,s∈x.aQ->s.has=true->fO k s.dF s.bU
theorem KI.TE{k:Kr}(h:KI k){x:bi}(hx:x∈k.ps):YW k x:=⟨h.sl x hx,h.aS x hx,h.cap x hx⟩
theorem KI.IN{k:Kr}(h:KI k){oH:List bi}(hl:oH.length<=8)(d8:k.ps.length<=oH.length)(hx:∀x,x∈oH->YW k x):KI ⟨k.l,k.ops,oH⟩:=
 ⟨h.ll,h.lo,hl,h.sm,λx h=>(hx x h).sl,λe=>h.ne (aag (by have:oH=[]:=e;rw[this]at d8;simpa using d8)),λx h=>(hx x h).aS,λx h=>(hx x h).cap,
  h.qu,λo ho h5=>let⟨n,a,b⟩:=h.pr o ho h5;⟨n,a,aaI b d8⟩,h.en,h.z,h.pe,h.dj,h.Ry,h.te⟩
theorem KI.YX{k:Kr}(h:KI k){O9:List bH}(hl:O9.length<=60)(hm:∀(n:Nat)o,k.ops[n]? =some o->gn k.l o.bm->∃o',O9[n]? =some o'/\gn k.l o'.bm)(ha:∀o,o∈O9->0<=o.dj/\o.dj<=64):KI ⟨k.l,O9,k.ps⟩:=by
 have eE:∀z r,fO k z r->fO ⟨k.l,O9,k.ps⟩ z r:=λz r hc=>hc.mono hm
 exact⟨h.ll,hl,h.lp,h.sm,h.sl,h.ne,h.aS,λx hx s hs hh=>eE _ _ (h.cap x hx s hs hh),λo ho q hq hh=>eE _ _ (h.qu o ho q hq hh),h.pr,h.en,h.z,h.pe,ha,h.Ry,h.te⟩
theorem KI.Mn{k:Kr}(h:KI k)(z:Int){a:Int}(ha:0<=a/\a<=64):KI (px k z a):=by
 unfold px;cases ho:k.ops[z.toNat]? with
 |none=>exact h
 |some o=>
  have hz:=(Km.1 ho).1;refine h.YX (by rw[aaF];exact h.lo) (λn x hx hi=>?_) λx hx=>?_
  .by_cases e:n=z.toNat
   .subst e;rw[ho]at hx;cases hx;exact⟨_,TH hz,hi⟩
   .exact⟨x,by rw[U7 (λx=>e x.symm)];exact hx,hi⟩
  .rcases aaK hx with hx|rfl
   .exact h.dj x hx
   .exact ha
theorem KI.cS{k:Kr}(h:KI k){p:Nat}{x:bi}(hp:k.ps[p]? =some x)(bC:x.aL=true){l:List eh}(hl:l.length<=10)(hc:∀s,s∈l->s.has=true->fO k s.dF s.bU):KI ⟨k.l,k.ops,cS k.ps p l⟩:=by
 have e:Go.Proofs.YtodckkkbiidffaaGreatDoor.cS k.ps p l=k.ps.set p {x with aQ:=l}:=by unfold Go.Proofs.YtodckkkbiidffaaGreatDoor.cS;rw[hp]
 rw[e];refine h.IN (by rw[aaF];exact h.lp) (by rw[aaF];exact Ym _) λy hy=>?_
 rcases aaK hy with hy|rfl
 .exact h.TE hy
 .exact⟨hl,λhd=>(by rw[bC]at hd;cases hd),hc⟩
theorem oc{l:List eh}{o r:Int}(h:(fw l o r).2.2=0):Tb.fm r=true/\0<=o/\∀s,s∈(fw l o r).1->s∈l\/s=⟨true,o,r⟩:=by
 have Nk:∀s:eh,It (jm s)=s:=λs=>rfl
 unfold fw at h|-;simp only[]at h|-;unfold Tb.iR at h|-;split at h
 .cases h
 .rename_i h1;have hr:Tb.fm r=true:=by
   cases hx:Tb.fm r with
   |true=>rfl
   |false=>exact absurd (.inl hx) h1
  have ho:0<=o:=Int.not_lt.1 λhx=>h1 (.inr hx)
  refine⟨hr,ho,λs hs=>?_⟩
  rw[if_neg h1]at hs;split at hs
  .obtain⟨t,ht,rfl⟩:=aal.1 hs;rcases aaK ht with ht|rfl
   .obtain⟨u,hu,rfl⟩:=aal.1 ht;exact .inl hu
   .exact .inr rfl
  .split at hs
   .cases hs
   .obtain⟨t,ht,rfl⟩:=aal.1 hs;rcases abu.1 ht with ht|ht
    .obtain⟨u,hu,rfl⟩:=aal.1 ht;exact .inl hu
    .simp at ht;subst ht;exact .inr rfl
theorem uB{n:Int}:Tb.fm n=true↔0<=n/\n<=4095:=by unfold Tb.fm;rw[aab,decide_eq_true_eq,decide_eq_true_eq]
theorem KI.mR{k:Kr}(h:KI k){p:Nat}{x:bi}(hp:k.ps[p]? =some x)(bC:x.aL=true){bm bU:Int}(ho:gn k.l bm)(he:(aF k p bm bU).2.2=0):KI (aF k p bm bU).1:=by
 have uj:an k.ps p=x.aQ:=by rw[an,hp]
 unfold aF at he|-;split at he
 .cases he
 rename_i h1;rw[if_neg h1];split at he
 .rename_i h2;exact absurd he h2
 rename_i h2;rw[if_neg h2];have h2:(fw (an k.ps p) (cY k.ops) bU).2.2=0:=Yk h2;rw[uj]at h2|-;obtain⟨c1,c2,c3⟩:=oc h2;have hi:cY k.ops<k.ops.length\/cY k.ops=k.ops.length/\k.ops.length<60:=by
  unfold cY;cases hf:EW k.ops with
  |none=>exact .inr ⟨rfl,Nat.not_le.1 λa=>h1 ⟨hf,a⟩⟩
  |some i=>exact .inl (BG hf)
 have M9:∀o,k.ops[cY k.ops]? =some o->o.bm<0:=λo hx=>by
  unfold cY at hx;cases hf:EW k.ops with
  |none=>
   rw[hf]at hx;rw[show(none:Option Nat).getD k.ops.length=k.ops.length from rfl,aaE (Ym _)]at hx;cases hx
  |some i=>
   rw[hf]at hx;have:=aaN.1 hf;obtain⟨a1,a2,_⟩:=this;rw[show(some i).getD k.ops.length=i from rfl,vU a1]at hx;cases hx;simpa using a2
 have jC:∀n:Nat,(jy k.ops (cY k.ops) ⟨bm,0⟩)[n]? =if n=cY k.ops then some ⟨bm,0⟩else k.ops[n]? :=λn=>by
  unfold jy;split
  .rename_i e;rw[e];by_cases hn:n=k.ops.length
   .subst hn;rw[if_pos rfl,ZZ (Ym _)];simp
   .rw[if_neg hn];rcases aaf n k.ops.length with a|a
    .exact aac a
    .rw[ZZ a,aaE a];cases e2:n-k.ops.length with
     |zero=>omega
     |succ m=>rfl
  .rename_i e;have aC:cY k.ops<k.ops.length:=om;by_cases hn:n=cY k.ops
   .subst hn;rw[if_pos rfl,TH aC]
   .rw[if_neg hn,U7 (λa=>hn a.symm)]
 have kM:KI ⟨k.l,jy k.ops (cY k.ops) ⟨bm,0⟩,k.ps⟩:=by
  refine h.YX ?_ (λn o hx hio=>?_) λo hx=>?_
  .unfold jy;split
   .rw[aa3];simp;omega
   .rw[aaF];exact h.lo
  .rw[jC];by_cases e:n=cY k.ops
   .subst e;have:=M9 o hx;obtain⟨j,_,e2,_⟩:=hio;omega
   .rw[if_neg e];exact⟨o,hx,hio⟩
  .unfold jy at hx;split at hx
   .rcases abu.1 hx with hx|hx
    .exact h.dj o hx
    .simp at hx;subst hx;exact⟨adC _,by show(0:Int)<=64;omega⟩
   .rcases aaK hx with hx|rfl
    .exact h.dj o hx
    .exact⟨adC _,by show(0:Int)<=64;omega⟩
 refine kM.cS hp bC (ta (h.sl x (Tp hp))) λs hs hh=>?_
 rcases c3 s hs with hs|rfl
 .exact kM.cap x (Tp hp) s hs hh
 .exact⟨uB.1 c1,cY k.ops,⟨bm,0⟩,rfl,by rw[jC,if_pos rfl],ho⟩
theorem KI.exit{k:Kr}(h:KI k){p code:Int}(he:(gE k p code).2=0):KI (gE k p code).1:=by
 unfold gE at he|-;split at he
 .cases he
 rename_i h1;rw[if_neg h1];split at he
 .cases he
 rename_i h2;rw[if_neg h2];refine h.IN (by rw[aaF];exact h.lp) (by rw[aaF];exact Ym _) λy hy=>?_
 rcases aaK hy with hy|rfl
 .exact h.TE hy
 .exact⟨aE,λ_=>rfl,λs hs=>by cases hs⟩
theorem KI.YQ{k:Kr}(h:KI k)(p:Nat):KI ⟨k.l,k.ops,lL k.ps p⟩:=by
 unfold lL;cases hp:k.ps[p]? with
 |none=>exact h
 |some x=>
  refine h.IN (by rw[aaF];exact h.lp) (by rw[aaF];exact Ym _) λy hy=>?_
  have:=h.TE (Tp hp);rcases aaK hy with hy|rfl
  .exact h.TE hy
  .exact⟨this.sl,this.aS,this.cap⟩
theorem He{l:List Obj}{ps:List bi}(h:¬g9 l ps<0):∃c:Nat,g9 l ps=c/\c<=ps.length/\c<8/\(c<ps.length->sN l ps c=true):=by obtain⟨c,hc⟩:∃c:Nat,g9 l ps=c:=⟨(g9 l ps).toNat,om⟩;obtain⟨h1,_,h3,h4⟩:=pj l ps 8 0 c hc (aaj _);exact⟨c,hc,h1,om,h4⟩
theorem Pa{k:Kr}{c:Nat}(hc:c<k.ps.length):RD k (c7 c):=⟨DV _,by simp[c7],rfl,rfl,by simp[c7],rfl,rfl,λh=>by simp[c7]at h,λ_=>⟨c,rfl,hc⟩⟩
theorem uC{ps:List bi}{n c:Nat}{x:bi}(hn:ps[n]? =some x)(hc:c<=ps.length):(gm ps n c).length=(if c=ps.length then ps.length+1 else ps.length)/\(gm ps n c)[c]? =some ⟨true,x.fenced,0,x.aQ⟩/\(∀i,i≠c->(gm ps n c)[i]? =ps[i]?)/\(∀y,y∈gm ps n c->y∈ps\/y=⟨true,x.fenced,0,x.aQ⟩):=by
 unfold gm;rw[hn];simp only[];split
 .rename_i e;subst e;refine⟨aE,by rw[ZZ (Ym _)];simp,λi hi=>?_,λy hy=>by simpa using hy⟩
  rcases aaf i ps.length with a|a
  .exact aac a
  .rw[ZZ a,aaE a];cases e2:i-ps.length with
   |zero=>omega
   |succ m=>rfl
 .exact⟨aE,TH om,λi hi=>U7 (λe=>hi e.symm),λy hy=>aaK hy⟩
structure YY(k:Kr)(p:Nat)(x:bi)(c:Nat):Prop where
 le:c<=k.ps.length
 c8:c<8
 aS:c<k.ps.length->sN k.l k.ps c=true
 ne:p≠c
 em:(aH k.l (c7 c)).2.2=0
 eo:(aF ⟨(aH k.l (c7 c)).1,k.ops,gm k.ps p c⟩ p (aH k.l (c7 c)).2.1 3200).2.2=0
 R:fU k p=((aF ⟨(aH k.l (c7 c)).1,k.ops,gm k.ps p c⟩ p (aH k.l (c7 c)).2.1 3200).1,(c:Int),(aF ⟨(aH k.l (c7 c)).1,k.ops,gm k.ps p c⟩ p (aH k.l (c7 c)).2.1 3200).2.1,0)
theorem rD{k:Kr}{p:Nat}{x:bi}(hp:k.ps[p]? =some x)(bC:x.aL=true)(he:(fU k p).2.2.2=0):∃c:Nat,YY k p x c:=by
 have hl:fL k.ps p=true:=by have jZ:=(Km.1 hp).1;refine Q1 jZ ?_;have:=vU jZ;rw[hp]at this;cases this;exact bC
 unfold fU at he;rw[if_neg (by rw[hl];simp)]at he
 split at he
 .cases he
 rename_i hf;obtain⟨c,hc,c1,c2,c3⟩:=He hf;rw[hc,Y6,Y6]at he;have hR:fU k p=xO k.l k.ops (gm k.ps p c) p c:=by
  rw[fU,if_neg (by rw[hl];simp),if_neg hf,hc,Y6,Y6]
 unfold xO at he;split at he
 .rename_i h1;exact absurd he h1
 rename_i h1;split at he
 .rename_i h2;exact absurd he h2
 rename_i h2;refine⟨c,c1,c2,c3,λe=>?_,Yk h1,Yk h2,?_⟩
 .subst e;have:=c3 (Km.1 hp).1;rw[sN,hp]at this;simp only[bC]at this;cases this
 .rw[hR,xO,if_neg h1,if_neg h2]
theorem KI.acR{k:Kr}(h:KI k){p:Nat}{x:bi}(hp:k.ps[p]? =some x)(bC:x.aL=true)(he:(fU k p).2.2.2=0):KI (fU k p).1:=by
 obtain⟨c,C⟩:=rD hp bC he;obtain⟨g1,g2,g3,g4⟩:=uC hp C.le;have hx:=h.TE (Tp hp);have h1:KI ⟨k.l,k.ops,gm k.ps p c⟩:=by
  refine h.IN ?_ ?_ λy hy=>?_
  .rw[g1];have:=C.c8;have:=h.lp;split<;>omega
  .rw[g1];split<;>omega
  .rcases g4 y hy with hy|rfl
   .exact h.TE hy
   .exact⟨hx.sl,λhd=>(by cases hd),hx.cap⟩
 have iB:c<(gm k.ps p c).length:=(Km.1 g2).1;have h2:=h1.make (Pa iB) C.em;obtain⟨j,j1,j2,_⟩:=gh C.em h.ll;rw[C.R];refine h2.mR (p:=p) (x:=x) (by show(gm k.ps p c)[p]? =some x;rw[g3 p C.ne];exact hp) bC ⟨j,_,j1,j2,by simp[c7]⟩ C.eo
end Kn
namespace Kn
theorem Hf{b:Bool}{l:List Obj}{cL bm:Int}{name:ByteArray}(va:∀(p:Nat)q,bm=p->l[p]? =some q->q.al=0)(h:(cQ b l cL name bm).2=0){z:Int}(hz:gn l z):gn (cQ b l cL name bm).1 z:=by
 obtain⟨n,p,o,q,rfl,rfl,hn,hp,K4,fC,Bd,_,_,_,hR⟩:=pC h;have Ca:n≠p:=λe=>by subst e;rw[hn]at hp;cases hp;exact Bd (va n _ rfl hn)
 obtain⟨g1,g2,g3,g4⟩:=uA hn hp Ca name;rw[hR];refine hz.mono λj x hx hk=>?_
 by_cases e:j=n
 .subst e;rw[hn]at hx;cases hx;exact⟨_,g1,hk⟩
 .by_cases e2:j=p
  .subst e2;rw[hp]at hx;cases hx;exact⟨_,g2,hk⟩
  .exact⟨x,by rw[g3 j e e2];exact hx,hk⟩
theorem K9{t:bM.dQ}(h:bM.gd t=true):(bM.cG t).size<=12:=by unfold bM.gd at h;simp only[aab,decide_eq_true_eq]at h;rw[bM.ny];exact h.1.1.1.2
structure Hg(o:Obj):Prop where
 n:Rn o
 k:o.ag=1\/o.ag=2\/o.ag=3
 q:o.ar=[]
 d:o.data.length<=60
 l:o.al=0
 u:o.up=0
theorem Hg.RF{o:Obj}(h:Hg o)(k:Kr):RD k (gS o):=
 ⟨h.n.gS.sm,λe=>(by have:o.ag=0:=e;have:=h.k;omega),h.n.en,h.q,h.d,h.l,h.u,λe=>(by have:o.ag=4:=e;have:=h.k;omega),λe=>(by have:o.ag=5:=e;have:=h.k;omega)⟩
theorem IP:Hg pw:=⟨Aq,.inl rfl,rfl,by simp[pw],rfl,rfl⟩
theorem Pb:Hg GY:=⟨B7 _ _,.inr (.inl rfl),rfl,by simp[GY],rfl,rfl⟩
theorem IQ(d:List Int):Hg (yh d):=⟨B7 _ _,.inr (.inr rfl),rfl,by simp[yh],rfl,rfl⟩
structure acS(k:Kr)(f:R4)(o:Obj)(j:Nat):Prop where
 em:(aH k.l (gS o)).2.2=0
 ej:(aH k.l (gS o)).2.1=j
 ee:(B3 (aH k.l (gS o)).1 f j).2=0
 R:b7 k f o=(⟨(B3 (aH k.l (gS o)).1 f j).1,k.ops,k.ps⟩,(j:Int),0)
theorem ti{k:Kr}(hl:k.l.length<=40){f:R4}{o:Obj}(he:(b7 k f o).2.2=0):∃j:Nat,acS k f o j:=by
 unfold b7 at he;by_cases h1:(aH k.l (gS o)).2.2=0
 .rw[if_neg (by simp[h1])]at he
  obtain⟨j,e1,_⟩:=gh h1 hl;have he:(B3 (aH k.l (gS o)).1 f (aH k.l (gS o)).2.1).2=0:=he;rw[e1]at he;refine⟨j,h1,e1,he,?_⟩;rw[b7,if_neg (by simp[h1]),e1,he,bv,if_pos rfl]
 .rw[if_pos h1]at he;exact absurd he h1
theorem KI.Hh{k:Kr}(h:KI k){f:R4}{o:Obj}(ho:Hg o)(he:(b7 k f o).2.2=0):KI (b7 k f o).1/\gn (b7 k f o).1.l (b7 k f o).2.1/\(b7 k f o).1.ps=k.ps:=by
 obtain⟨j,C⟩:=ti h.ll he;have h1:=h.make (ho.RF k) C.em;obtain⟨j',e1,a2,_⟩:=gh C.em h.ll;have:j'=j:=by have:=C.ej;omega
 subst this;have va:∀(p:Nat)q,((j':Nat):Int)=p->(aH k.l (gS o)).1[p]? =some q->q.al=0:=λp q e hq=>by have:p=j':=om;subst this;rw[a2]at hq;cases hq;exact ho.l
 rw[C.R];exact⟨h1.enter (λhb=>K9 hb) va C.ee,Hf va C.ee ⟨j',_,rfl,a2,(ho.RF k).kd⟩,rfl⟩
theorem KI.bT{k:Kr}(h:KI k){c:Cl}{f:R4}(hf:f.eS=0->f.bm= -1\/gn k.l f.bm)(he:(bT k c f).2.2=0):KI (bT k c f).1/\gn (bT k c f).1.l (bT k c f).2.1/\(bT k c f).1.ps=k.ps:=by
 unfold Kn.bT at he|-;split at he
 .rename_i h1;exact absurd he h1
 rename_i h1;rw[if_neg h1];have hf:=hf (Yk h1);split at he
 .rename_i h2;rw[if_pos h2];split at he
  .cases he
  .rename_i h3;rw[if_neg h3];exact h.Hh IP he
 .rename_i h2;rw[if_neg h2];split at he
  .cases he
  .rename_i h3;rw[if_neg h3];refine⟨h,hf.elim (λe=>absurd (by show f.bm<0;omega) h2) id,rfl⟩
theorem uD{k:Kr}{p:Nat}{bm bU:Int}(he:(aF k p bm bU).2.2=0):(aF k p bm bU).1.ps=cS k.ps p (fw (an k.ps p) (cY k.ops) bU).1/\(aF k p bm bU).1.l=k.l/\(fw (an k.ps p) (cY k.ops) bU).2.2=0/\(aF k p bm bU).1.ops=jy k.ops (cY k.ops) ⟨bm,0⟩/\(aF k p bm bU).2.1=(fw (an k.ps p) (cY k.ops) bU).2.1:=by
 unfold aF at he|-;split at he
 .cases he
 rename_i h1;rw[if_neg h1];split at he
 .rename_i h2;exact absurd he h2
 rename_i h2;rw[if_neg h2];exact⟨rfl,rfl,Yk h2,rfl,rfl⟩
theorem La(ps:List bi)(p:Nat)(l:List eh):(cS ps p l).length=ps.length:=by
 unfold cS;split
 .rw[aaF]
 .rfl
theorem fy{ps:List bi}{p:Nat}{x:bi}(hp:ps[p]? =some x)(l:List eh):(cS ps p l)[p]? =some {x with aQ:=l}:=by unfold cS;rw[hp];exact TH (Km.1 hp).1
theorem KI.YZ{k:Kr}(h:KI k){z:Int}(hz:gn k.l z):KI ⟨lH k.l z,k.ops,k.ps⟩:=by obtain⟨j,o,rfl,hj,hk⟩:=hz;have hs:=h.sm o (Tp hj);rw[lH,Y6,hj];exact h.KO hj ⟨rfl,rfl,rfl,rfl,rfl,rfl⟩ hk ⟨⟨⟨[],rfl⟩,hs.t.2.1,hs.t.2.2⟩,aE,hs.e,hs.q,hs.qd⟩ aE (h.qu o (Tp hj))
theorem KI.TF{k:Kr}(h:KI k){p:Nat}{x:bi}(hp:k.ps[p]? =some x)(bC:x.aL=true){c:Cl}{aq:Int}{ax:Bool}(he:(eM k p c aq ax).2.eS=0):KI (eM k p c aq ax).1:=by
 unfold eM jd at he|-;split at he
 .rename_i h1;exact absurd he h1
 rename_i h1;rw[if_neg h1];obtain⟨g1,g2,g3⟩:=h.bT (h.RC aq c.cE ax true) (Yk h1);split at he
 .rename_i h2;exact absurd he h2
 rename_i h2;rw[if_neg h2];have h2:=Yk h2;have h3:=g1.mR (by rw[g3];exact hp) bC g2 h2
 split
 .exact h3.YZ (by rw[(uD h2).2.1];exact g2)
 .exact h3
theorem KI.Y0{k:Kr}(h:KI k){p:Nat}{x:bi}(hp:k.ps[p]? =some x)(bC:x.aL=true){c:Cl}(he:(fx k p c).2.eS=0):KI (fx k p c).1:=by
 unfold fx at he|-;split at he
 .cases he
 rename_i h1;rw[if_neg h1];split at he
 .rename_i h2;rw[if_pos h2];exact h.TF hp bC he
 rename_i h2;rw[if_neg h2];split at he
 .rename_i h3;exact absurd he h3
 .rename_i h3;rw[if_neg h3];exact h.TF hp bC he
theorem Hi{k:Kr}{p:Nat}{fd need:Int}(h:(bo k p fd need).2.2=0):∃s,s∈an k.ps p/\s.has=true/\(bo k p fd need).1=(s.dF,s.bU)/\(bo k p fd need).2.1=dR k.ops s.dF:=by
 unfold bo at h|-;split at h
 .rename_i h1;exact absurd h h1
 .rename_i h1;rw[if_neg h1];obtain⟨s,hs,hh,e⟩:=yb (Yk h1);exact⟨s,hs,hh,e,by show dR k.ops _=_;rw[e]⟩
theorem KI.bo{k:Kr}(h:KI k){p:Nat}{fd need:Int}(he:(Kn.bo k p fd need).2.2=0):∃(n:Nat)(o:bH)(j:Nat)(x:Obj),(Kn.bo k p fd need).1.1=n/\k.ops[n]? =some o/\(Kn.bo k p fd need).2.1=j/\o.bm=j/\k.l[j]? =some x/\x.ag≠0/\0<=(Kn.bo k p fd need).1.2/\(Kn.bo k p fd need).1.2<=4095:=by
 obtain⟨s,hs,hh,e,e2⟩:=Hi he;obtain⟨hr,n,o,h1,h2,j,x,h3,h4,h5⟩:=h.eE hs hh;refine⟨n,o,j,x,by rw[e];exact h1,h2,?_,h3,h4,h5,by rw[e];exact hr.1,by rw[e];exact hr.2⟩
 rw[e2,h1,dR,Y6,h2];exact h3
theorem IS{a b:Int}(h0:0<=a)(ha:a<=1000)(Jg:0<=b)(hb:b<=5000000):B5 a b=a+b:=by unfold B5;exact iD om om
theorem KI.pu{k:Kr}(h:KI k)(z:Int):0<=pu k.ops z/\pu k.ops z<=64:=by
 unfold Kn.pu;cases ho:k.ops[z.toNat]? with
 |none=>exact⟨adC _,by show(0:Int)<=64;omega⟩
 |some o=>exact h.dj o (Tp ho)
theorem Pc{ag:Int}{d:List (List Dt)}{dj n:Int}(h:(kg ag d dj n).2=0):ag=1/\0<=dj/\0<=n/\(kg ag d dj n).1=Kq d dj.toNat n.toNat:=by
 unfold kg at h|-;split at h
 .cases h
 rename_i h1;split at h
 .cases h
 rename_i h2;split at h
 .cases h
 rename_i h3;rw[if_neg h1,if_neg h2,if_neg h3];exact⟨om,om,om,rfl⟩
theorem RG(d:List (List Dt))(a n:Nat):(Kq d a n).length=fB n (d.length-fB a d.length):=by have h1:=nY a d.length;have h2:=nY n (d.length-fB a d.length);unfold Kq;rw[abz,aaA];omega
theorem RH{o:Obj}{dj:Int}{b:List Int}(ho:o.sm)(hd:o.data.length<=60)(h:(fo o dj (jw b)).2=0):(fo o dj (jw b)).1.data.length<=60:=by
 obtain⟨_,_,h1,h2,h3,h4⟩:=sZ ho h;rw[h4];obtain⟨d,yJ⟩:=ho.t.1;show(qH o.data dj.toNat (jw b)).length<=60;rw[yJ,GR,show ∀x:List Int,(jw x).length=x.length from λx=>by simp[jw]]
 have mw:d.length<=60:=by rw[yJ]at hd;simpa[jw]using hd
 have:=IG d b dj.toNat om om;omega
theorem KI.bytes{k:Kr}(h:KI k){p:Nat}{c:Cl}(he:(gg k p c).2.eS=0):KI (gg k p c).1:=by
 unfold gg kI at he|-;split at he
 .rename_i h1;exact absurd he h1
 rename_i h1;rw[if_neg h1];obtain⟨n,op,j,x,e1,e2,e3,e4,e5,e6,_⟩:=h.bo (Yk h1);have Vw:=Tp e5;have P4:lI k.l (Kn.bo k p c.fd (ow c.ag)).2.1=x:=by rw[e3,lI,Y6,e5];rfl
 rw[P4]at he|-;have FK:=h.pu (Kn.bo k p c.fd (ow c.ag)).1.1;split at he
 .rename_i h4;rw[if_pos h4];unfold py at he|-;split at he
  .rename_i h5;exact absurd he h5
  rename_i h5;rw[if_neg h5];obtain⟨_,h6,_,h7⟩:=Pc (Yk h5);refine h.Mn _ ?_;rw[h7,RG];have hd:=h.Ry x Vw;have m1:=nY (Kn.pu k.ops (Kn.bo k p c.fd (ow c.ag)).1.1).toNat x.data.length;have m2:=nY c.n.toNat (x.data.length-fB (Kn.pu k.ops (Kn.bo k p c.fd (ow c.ag)).1.1).toNat x.data.length);have m3:fB (Kn.pu k.ops (Kn.bo k p c.fd (ow c.ag)).1.1).toNat x.data.length=(Kn.pu k.ops (Kn.bo k p c.fd (ow c.ag)).1.1).toNat\/fB (Kn.pu k.ops (Kn.bo k p c.fd (ow c.ag)).1.1).toNat x.data.length=x.data.length:=by unfold fB;split<;>simp
  rw[IS om om om om];omega
 rename_i h4;rw[if_neg h4];split at he
 .rename_i h5;rw[if_pos h5];unfold mP at he|-;split at he
  .rename_i h6;exact absurd he h6
  rename_i h6;rw[if_neg h6];have h6:=Yk h6;obtain⟨w1,w2,w3,w4,w5,w6⟩:=sZ (h.sm x Vw) h6;have w7:=RH (h.sm x Vw) (h.Ry x Vw) h6;have h2:KI (setObj k (Kn.bo k p c.fd (ow c.ag)).2.1 (fo x (Kn.pu k.ops (Kn.bo k p c.fd (ow c.ag)).1.1) (jw c.data)).1):=by
   rw[e3,setObj,Y6];exact h.KO e5 (by rw[w6];exact⟨rfl,rfl,rfl,rfl,rfl,rfl⟩) e6 w1 w7 (by rw[w6];exact h.qu x Vw)
  refine h2.Mn _ ?_;rw[IS om om om om];omega
 .rename_i h5;rw[if_neg h5];unfold n8 at he|-;split at he
  .cases he
  rename_i h6;rw[if_neg h6];exact h.Mn _ ⟨om,om⟩
theorem iK{l:List eh}{fd:Int}(h:(cH l fd).2=0):∃(i:Nat)(s:eh),fd=i/\l[i]? =some s/\s.has=true/\(cH l fd).1=(s.dF,s.bU)/\Tb.dV (l.map jm) fd=(⟨s.dF,s.bU⟩,0):=by
 unfold cH Tb.dV at h|-;by_cases h0:0<=fd
 .rw[if_pos h0,Tm]at h|-;cases hy:l[fd.toNat]? with
  |none=>rw[hy]at h;cases h
  |some t=>
   rw[hy]at h;simp only[aaD]at h|-;cases hh:t.has with
   |false=>
    have:(jm t).has=false:=hh;rw[this]at h;cases h
   |true=>
    have h2:(jm t).has=true:=hh;refine⟨fd.toNat,t,om,hy,hh,?_,?_⟩
    .rw[h2];rfl
    .rw[h2];rfl
 .rw[if_neg h0]at h;cases h
theorem Es{l:List eh}{c:Cl}(hl:l.length<=10)(h:(jg l c).2.2=0):(jg l c).1.length<=10/\∀s,s∈(jg l c).1->s.has=true->s∈l\/∃t,t∈l/\t.has=true/\s.dF=t.dF/\0<=s.bU/\s.bU<=4095:=by
 have Nk:∀s:eh,It (jm s)=s:=λs=>rfl
 unfold jg at h|-;split at h
 .rename_i h7;rw[if_pos h7];unfold ru Tb.mL at h|-;split at h
  .rename_i h1;simp only[if_pos h1];refine⟨by simp only[Pj,aaA,aaF];omega,λs hs hh=>?_⟩
   obtain⟨t,ht,rfl⟩:=aal.1 hs;rcases aaK (abo ht)with ht|rfl
   .obtain⟨u,hu,rfl⟩:=aal.1 ht;exact .inl hu
   .cases hh
  .rename_i h1;exact absurd h h1
 rename_i h7;rw[if_neg h7];split at h
 .rename_i h8;rw[if_pos h8];unfold ut Tb.sL at h|-;split at h
  .rename_i h1;obtain⟨i,t,_,h3,h4,h5,h6⟩:=iK (l:=l) (fd:=c.fd) h1;have e:(Tb.dV (l.map jm) c.fd).1=⟨t.dF,t.bU⟩:=by rw[h6]
   rw[e]at h;simp only[if_pos h1,e];obtain⟨a1,_,a3⟩:=oc (l:=l) (o:=t.dF) (r:=t.bU) h;refine⟨ta (l:=l) (o:=t.dF) (r:=t.bU) hl,λs hs hh=>?_⟩
   rcases a3 s hs with hs|rfl
   .exact .inl hs
   .exact .inr ⟨t,Tp h3,h4,rfl,uB.1 a1⟩
  .rename_i h1;exact absurd h h1
 .rename_i h8;rw[if_neg h8];unfold vW Tb.xP at h|-;split at h
  .rename_i h1;obtain⟨i,t,_,h3,h4,h5,h6⟩:=iK (l:=l) (fd:=c.fd) h1;split at h
   .cases h
   rename_i h2;split at h
   .cases h
   rename_i h9;simp only[if_pos h1,if_neg h2,if_neg h9];have hr:Tb.fm c.aW=true:=by cases hx:Tb.fm c.aW with|true=>rfl|false=>exact absurd hx h2
   refine⟨by simp only[Pj,aaF];omega,λs hs hh=>?_⟩
   obtain⟨u,hu,rfl⟩:=aal.1 hs;rcases aaK hu with hu|rfl
   .obtain⟨v,hv,rfl⟩:=aal.1 hu;exact .inl hv
   .refine .inr ⟨t,Tp h3,h4,?_,uB.1 hr⟩;show(Tb.dV (l.map jm) c.fd).1.dF=_;rw[h6]
  .rename_i h1;exact absurd h h1
theorem KI.acT{k:Kr}(h:KI k){p:Nat}{x:bi}(hp:k.ps[p]? =some x)(bC:x.aL=true){c:Cl}(he:(iI k p c).2.eS=0):KI (iI k p c).1:=by
 have uj:an k.ps p=x.aQ:=by rw[an,hp]
 have he:(jg (an k.ps p) c).2.2=0:=he;have hx:=h.TE (Tp hp);show KI (eC k p (jg (an k.ps p) c).1 (jg (an k.ps p) c).2.2);rw[eC,if_pos he];rw[uj]at he|-;obtain⟨h1,h2⟩:=Es hx.sl he;refine h.cS hp bC h1 λs hs hh=>?_
 rcases h2 s hs hh with hs|⟨t,ht,hth,e,r⟩
 .exact hx.cap s hs hh
 .obtain⟨_,n,o,a1,a2,a3⟩:=hx.cap t ht hth;exact⟨r,n,o,e.trans a1,a2,a3⟩
theorem KI.name{k:Kr}(h:KI k){p:Nat}{c:Cl}(he:(iJ k p c).2.eS=0):KI (iJ k p c).1:=by
 have he:(il k c (Kn.bo k p c.fd (s8 c))).2=0:=he;show KI (il k c (Kn.bo k p c.fd (s8 c))).1;unfold il at he|-;split at he
 .rename_i h1;exact absurd he h1
 rename_i h1;rw[if_neg h1];split at he
 .rename_i h2;exact absurd he h2.2
 rename_i h2;rw[if_neg h2];unfold mA at he|-;split at he
 .rename_i h3;exact absurd he h3
 rename_i h3;rw[if_neg h3];split at he
 .cases he
 rename_i h4;rw[if_neg h4];split at he
 .rename_i h5;rw[if_pos h5];split at he
  .cases he
  rename_i h6;rw[if_neg h6];have he:(Ei k (gV k (Kn.bo k p c.fd (s8 c)).2.1 c.cE true false)).2.2=0:=he;show KI (bv k _ _);rw[bv,if_pos he];exact h.Hb he
 rename_i h5;rw[if_neg h5];split at he
 .cases he
 rename_i h6;rw[if_neg h6];split at he
 .rename_i h7;rw[if_pos h7];exact(h.Hh (IQ _) he).1
 .rename_i h7;rw[if_neg h7];exact(h.Hh Pb he).1
theorem KI.gW{k:Kr}(h:KI k){p:Nat}{x:bi}(hp:k.ps[p]? =some x)(bC:x.aL=true)(he:(gW k p).2.eS=0):KI (gW k p).1:=by
 unfold Kn.gW yi at he|-;split at he
 .rename_i h1;exact absurd he h1
 rename_i h1;rw[if_neg h1];obtain⟨g1,g2,g3⟩:=h.Vv (Yk h1);unfold tc at he|-;split at he
 .rename_i h2;exact absurd he h2
 rename_i h2;rw[if_neg h2];have h2:=Yk h2;have o1:=g1.mR (p:=p) hp bC g2 h2;split at he
 .rename_i h3;exact absurd he h3
 rename_i h3;rw[if_neg h3];have e:=uD h2;refine o1.mR (p:=p) (x:=⟨x.aL,x.fenced,x.code,(fw (an k.ps p) (cY k.ops) 896).1⟩) (by rw[e.1];exact fy hp _) bC (by rw[e.2.1];exact g3) (Yk h3)
theorem KI.gF{k:Kr}(h:KI k){p:Nat}{c:Cl}(he:(gF k p c).2.eS=0):KI (gF k p c).1:=by
 have key:∀r:List Obj×Int,(jh k c r).2.eS=0->r.2=0:=λr hr=>by
  unfold jh at hr;by_cases h1:r.2=0
  .exact h1
  .rw[if_pos h1]at hr;exact absurd hr h1
 have gQ:∀(bm:Int)(m:di),m.S6->(m.has=true->fO k m.dF m.bU)->(jh k c (eZ k.l bm m)).2.eS=0->KI (jh k c (eZ k.l bm m)).1:=λbm m ht hc hr=>by have h1:=key _ hr;show KI (bv k _ _);rw[bv,if_pos h1];exact h.send ht hc h1
 unfold Kn.gF s9 at he|-;split at he
 .rename_i h1;exact absurd he h1
 rename_i h1;rw[if_neg h1];unfold qI at he|-;split at he
 .rename_i h2;rw[if_pos h2];split at he
  .rename_i h3;exact absurd he h3
  rename_i h3;rw[if_neg h3];obtain⟨i,s,_,a2,a3,a4,_⟩:=iK (Yk h3);refine gQ _ _ ⟨c.data,rfl⟩ (λ_=>?_) he
  show fO k (cH (an k.ps p) c.fE).1.1 (cH (an k.ps p) c.fE).1.2;rw[a4];exact h.eE (Tp a2) a3
 .rename_i h2;rw[if_neg h2];exact gQ _ _ ⟨c.data,rfl⟩ (λhh=>by cases hh) he
theorem KI.fN{k:Kr}(h:KI k){p:Nat}{x:bi}(hp:k.ps[p]? =some x)(bC:x.aL=true){c:Cl}(he:(fN k p c).2.eS=0):KI (fN k p c).1:=by
 unfold Kn.fN vA at he|-;split at he
 .rename_i h1;exact absurd he h1
 rename_i h1;rw[if_neg h1];unfold vz at he|-;split at he
 .rename_i h2;exact absurd he h2
 rename_i h2;rw[if_neg h2];obtain⟨g1,g2⟩:=h.recv (Yk h2);have uj:an k.ps p=x.aQ:=by rw[an,hp]
 split at he
 .rename_i h3;rw[if_pos h3];split at he
  .rename_i h4;exact absurd he h4
  rename_i h4;rw[if_neg h4];show KI (bv (eC k p _ 0) _ 0);rw[bv,if_pos rfl,eC,if_pos rfl];have h4:=Yk h4;rw[uj]at h4|-;obtain⟨a1,_,a3⟩:=oc h4;have hx:=h.TE (Tp hp);refine g1.cS (p:=p) hp bC (ta hx.sl) λs hs hh=>?_
  rcases a3 s hs with hs|rfl
  .exact g1.cap x (Tp hp) s hs hh
  .have hq:fO ⟨(fK k.l (Kn.bo k p c.fd 512).2.1).1,k.ops,k.ps⟩ (fK k.l (Kn.bo k p c.fd 512).2.1).2.1.dF (fK k.l (Kn.bo k p c.fd 512).2.1).2.1.bU:=by
    obtain⟨r,n,o,b1,b2,b3⟩:=g2 h3;refine⟨r,n,o,b1,b2,b3.mono λj y hy O6=>?_⟩
    obtain⟨n',o',_,_,_,c2,c3,_,c5,_⟩:=oa (Yk h2);rw[c5];by_cases ej:j=n'
    .subst ej;rw[c2]at hy;cases hy;exact⟨_,TH (Km.1 c2).1,O6⟩
    .exact⟨y,by rw[U7 (λe=>ej e.symm)];exact hy,O6⟩
   exact hq
 .rename_i h3;rw[if_neg h3];show KI (bv k _ 0);rw[bv,if_pos rfl];exact g1
theorem KI.Y1{k:Kr}(h:KI k){p:Nat}{x:bi}(hp:k.ps[p]? =some x)(bC:x.aL=true){c:Cl}(he:(dP k p c).2.eS=0):KI (dP k p c).1:=by
 have ex:∀e:Kr×Int,(e.2=0->KI e.1)->KI (im k e).1:=λe hE=>by
  unfold im;split
  .rename_i h1;exact hE h1
  .exact h
 unfold dP at he|-;split at he
 .rename_i h1;rw[if_pos h1];exact h.YQ p
 rename_i h1;rw[if_neg h1];split at he
 .rename_i h2;rw[if_pos h2];exact h
 rename_i h2;rw[if_neg h2];split at he
 .rename_i h3;rw[if_pos h3];unfold pA at he|-;split at he
  .rename_i h4;exact absurd he h4
  .rename_i h4;rw[if_neg h4];exact h.acR hp bC (Yk h4)
 rename_i h3;rw[if_neg h3];split at he
 .rename_i h4;rw[if_pos h4];exact ex _ λe=>h.exit e
 .rename_i h4;rw[if_neg h4];generalize Kn.bo k p c.fd (if c.ag=20 then 2048 else 1024)=w
  unfold lM;split
  .exact h
  .unfold rz;split
   .exact h
   .split
    .split<;>exact h
    .exact ex _ λe=>h.exit e
theorem KI.op{k:Kr}(h:KI k){p:Nat}{x:bi}(hp:k.ps[p]? =some x)(bC:x.aL=true){c:Cl}(he:(eJ k p c).2.eS=0):KI (eJ k p c).1:=by
 unfold eJ at he|-;split at he
 .rename_i a;rw[if_pos a];exact h.Y0 hp bC he
 rename_i a;rw[if_neg a];split at he
 .rename_i a;rw[if_pos a];exact h.bytes he
 rename_i a;rw[if_neg a];split at he
 .rename_i a;rw[if_pos a];exact h.acT hp bC he
 rename_i a;rw[if_neg a];split at he
 .rename_i a;rw[if_pos a];exact h
 rename_i a;rw[if_neg a];split at he
 .rename_i a;rw[if_pos a];exact h.name he
 rename_i a;rw[if_neg a];split at he
 .rename_i a;rw[if_pos a];exact h.gW hp bC he
 rename_i a;rw[if_neg a];split at he
 .rename_i a;rw[if_pos a];exact h.gF he
 rename_i a;rw[if_neg a];split at he
 .rename_i a;rw[if_pos a];exact h.fN hp bC he
 rename_i a;rw[if_neg a];exact h.Y1 hp bC he
theorem KI.Z6{k:Kr}(h:KI k)(prog:List dH)(c:Cl):KI (iz prog k c).1:=by
 unfold iz;split
 .exact h
 rename_i h1;have h1:fL k.ps c.ba=true:=by cases hx:fL k.ps c.ba with|true=>rfl|false=>exact absurd hx h1
 obtain⟨p,hc,hp,bC⟩:=ph h1;split
 .exact h
 split
 .exact h
 rw[hc,Y6];unfold P8;split
 .exact h
 .rename_i he;exact(h.op (vU hp) bC (Yk he)).O3
theorem KI.acU{k:Kr}(h:KI k){p:Nat}(hp:p<k.ps.length)(bC:k.ps[p].aL=true)(c:Cl):OW k p c:=by
 have hpx:=vU hp;refine⟨h.kw hp,λaq ax=>⟨λhe=>?_,λhe=>?_⟩,⟨λhe=>(h.Vv he).1.kr,λhe kL=>?_⟩,h.pr,λhe=>(h.op hpx bC he).kr⟩
 .rcases h.RC aq c.cE ax true he with e|⟨j,y,e,hj,_⟩
  .rw[e];omega
  .have:=(Km.1 hj).1;rw[e];omega
 .obtain⟨g1,⟨j,y,g2,g3,_⟩,g4⟩:=h.bT (h.RC aq c.cE ax true) he;exact⟨g1.kr,by rw[g4];exact hp,j,g2,(Km.1 g3).1⟩
 .obtain⟨g1,g2,_⟩:=h.Vv he;have:=g1.mR (p:=p) hpx bC g2 kL;exact⟨this.kr,by rw[(uD kL).1,La];exact hp⟩
theorem Vx(prog:List dH)(k:Kr)(h:KI k)(c:Cl)(hd:c.data.length<=4194304){m:Mem}{K:CV->Mem->Prop}(hK:K (Wl (iz prog k c)) m):
  ap Tryz.prog 19 [td prog,eI k.l k.ops k.ps,c.cv] m K:=
 YR prog k c (λ_ hp _ bC=>h.acU hp bC c) hd hK
end Kn
def c45:LF:= ⟨9,[.tmp 4],(.seq (.ai [qu 4 (.aM (qb false))]) (.seq (.ai [qm 5 0,qm 6 1,qu 7 (qc 83 [5,6]),qu 8 (.aJ .geq 7 (qi 0)),qm 4 8]) .ret))⟩
def c46:LF:= ⟨9,[.tmp 3],(.seq (.ai [qu 2 (.box 0),qu 3 (.aM (qb false))]) (.seq (.ai [qf 4 0 2,ql 5 4,qf 6 0 1,ql 7 6,qu 8 (.aJ .eql 5 7),qm 3 8]) .ret))⟩
def c47:LF:= ⟨9,[.tmp 4],(.seq (.ai [qu 4 (.aM (qb false))]) (.seq (.ai [qm 5 0,qm 6 1,qu 7 (qc 84 [5,6]),qu 8 (.aJ .geq 7 (qi 0)),qm 4 8]) .ret))⟩
def c48:LF:= ⟨21,[.tmp 2],(.seq (.ai [qu 1 (.box 0),qu 2 (.aM (qb false))]) (.seq (.ai [qf 3 0 1,ql 4 3,qu 5 (.aJ .lss 4 (qi 1)),qm 6 5,qg 7 (.b8 0 1) 6 false,qg 8 (.load false 1 7) 6 false,qg 9 (.aJ .geq 8 (qi 6)) 6 false,qu 10 (.pick 6 (qb true) 9),qm 11 10,qg 12 (.b8 1 1) 11 false,qg 13 (.load false 1 12) 11 false,qg 14 (.aJ .lss 13 (qi 1)) 11 false,qu 15 (.pick 11 (qb true) 14),qm 16 15,qg 17 (.b8 1 1) 16 false,qg 18 (.load false 1 17) 16 false,qg 19 (.aJ .geq 18 (qi 2147483648)) 16 false,qu 20 (.pick 16 (qb true) 19),qm 2 20]) .ret))⟩
def c83:LF:= ⟨19,[.tmp 4],(.seq (.ai [qu 4 (.aM (qi 0))]) (.seq (.seq (.ai [qm 6 0,qu 7 (.len 1 6),qu 8 (.aM (qi 0))]) (.block 0 (.loop (.seq (.ai [qu 9 (.aJ .lss 8 7)]) (.seq (.cond 9 .skip (.exit 0)) (.seq (.block 1 (.seq (.ai [qm 10 8,qm 5 10]) (.seq (.ai [qm 11 1,qm 12 0,qm 13 5,qu 14 (.cz 2 12 13),qL 15 2 14,qu 16 (.call 11 [15])]) (.cond 16 (.seq (.ai [qm 17 5,qm 4 17]) .ret) .skip)))) (.ai [qu 18 (.aJ .add 8 (qi 1)),qm 8 18]))))))) (.seq (.ai [qu 4 (.aM (qi (-1)))]) .ret)))⟩
def c84:LF:= ⟨19,[.tmp 4],(.seq (.ai [qu 4 (.aM (qi 0))]) (.seq (.seq (.ai [qm 6 0,qu 7 (.len 1 6),qu 8 (.aM (qi 0))]) (.block 0 (.loop (.seq (.ai [qu 9 (.aJ .lss 8 7)]) (.seq (.cond 9 .skip (.exit 0)) (.seq (.block 1 (.seq (.ai [qm 10 8,qm 5 10]) (.seq (.ai [qm 11 1,qm 12 0,qm 13 5,qu 14 (.cz 2 12 13),qL 15 2 14,qu 16 (.call 11 [15])]) (.cond 16 (.seq (.ai [qm 17 5,qm 4 17]) .ret) .skip)))) (.ai [qu 18 (.aJ .add 8 (qi 1)),qm 8 18]))))))) (.seq (.ai [qu 4 (.aM (qi (-1)))]) .ret)))⟩
structure mC where
 w:Int
 bits:Int
def mC.enc(m:mC):List Dt:=[.val (.int .i64 m.w),.val (.int .i64 m.bits)]
def mC.cv(m:mC):CV:= .rv (.agg (m.enc.map .ah))
structure dy where
 call:Int
 bt:List mC
def dy.enc(p:dy):List Dt:=[.val (.int .i64 p.call),.sl 2 (p.bt.map mC.enc)]
def dy.cv(p:dy):CV:= .rv (.agg (p.enc.map .ah))
def IT(l:List mC):CV:= .rv (.one (.ah (.sl 2 (l.map mC.enc))))
def fh(l:List dy):CV:= .rv (.one (.ah (.sl 2 (l.map dy.enc))))
def Pd:CV:= .rv (.one (.ptr 0 0))
theorem l45:bz prog f45=some c45:=by kernel_rfl
theorem l46:bz prog Tryz.f46=some c46:=by kernel_rfl
theorem l47:bz prog Tryz.f47=some c47:=by kernel_rfl
theorem l48:bz prog Tryz.f48=some c48:=by kernel_rfl
theorem l83:bz prog f83=some c83:=by kernel_rfl
theorem l84:bz prog f84=some c84:=by kernel_rfl
theorem Et(l:List dy)(hb:l.length<=4194304)(F:Nat)(cs:List Dt)(q:dy->Bool)(hF:∀s,s∈l->∀K:CV->Mem->Prop,K (aD (q s)) [.var (cs.map .ah)]->ap prog F [s.cv,Pd] [.var (cs.map .ah)] K):body prog c83 [fh l,(.rv (.one (.fn F [0])))] [.var (cs.map .ah)] (λr m=>r=am .i64 (oC q l)/\∃ex,m= .var (cs.map .ah)::ex):=by
 refine bc (λk=>k<=l.length/\∀(j:Nat)s,j<k->l[j]? =some s->q s=false) [0,1,7] (λk=>[(8,am .i64 (k:Nat))]) (λ_=>[.var (cs.map .ah)]) (λk=>l.length-k) 0 ⟨aaj _,λj s h=>absurd h (aaU j)⟩ ?_ (λk hk=>?_)
 .refine View.o1 1 [0] [] ?_
  .exact .put (by simp[br]) rfl (.gC rfl) (.nil _)
 .refine aN (λh=>?_) (λh=>?_)
  .have aC:k<l.length:=by have h:(k:Int)<((l.map dy.enc).length:Int):=h;rw[Pj]at h;omega
   have hg:dD (l.map dy.enc) (k:Nat)=some (l[k].enc):=by rw[bG,Tm,vU aC];rfl
   refine af hg ?_;refine hF l[k] (aaw aC) _ ?_;refine aG (λh=>?_) (λh=>?_)
   .rw[lA aC h hk.2];exact⟨rfl,[],rfl⟩
   .refine⟨k+1,⟨aC,λj s hj hs=>?_⟩,(show l.length-(k+1)<l.length-k by omega),View.o 1 [0] [] ?_ ?_⟩
    .rcases aaf j k with h5|h5
     .exact hk.2 j s h5 hs
     .have:j=k:=om;subst this;rw[vU aC]at hs;cases hs;exact h
    .repeat(first|exact .nil|refine .aA ?_|refine .put (.bb (cj om).symm) ?_|refine .eq rfl ?_)
    .exact .put (by simp[br]) rfl (.gC rfl) (.nil _)
  .have d8:¬(k:Int)<((l.map dy.enc).length:Int):=h;rw[Pj]at d8;rw[nr λj s hs=>hk.2 j s (by have:=(Km.1 hs).1;omega) hs]
   exact⟨rfl,[],rfl⟩
theorem Lb(l:List dy)(hb:l.length<=4194304)(F:Nat)(cs:List Dt)(q:dy->Bool)(hF:∀s,s∈l->∀K:CV->Mem->Prop,K (aD (q s)) [.var (cs.map .ah)]->ap prog F [s.cv,Pd] [.var (cs.map .ah)] K){K:CV->Mem->Prop}(h:K (am .i64 (oC q l)) [.var (cs.map .ah)]):ap prog 83 [fh l,(.rv (.one (.fn F [0])))] [.var (cs.map .ah)] K:=
 eY rfl (aZ func83 l83 (Et l hb F cs q hF)) h
theorem Lc(l:List dy)(hb:l.length<=4194304)(F:Nat)(cs:List Dt)(q:dy->Bool)(hF:∀s,s∈l->∀K:CV->Mem->Prop,K (aD (q s)) [.var (cs.map .ah)]->ap prog F [s.cv,Pd] [.var (cs.map .ah)] K)(K:CV->Mem->Prop)(h:K (aD (l.any q)) [.var (cs.map .ah)]):ap prog 45 [fh l,(.rv (.one (.fn F [0])))] [.var (cs.map .ah)] K:=by
 refine eY rfl (aZ func45 l45 (show body prog c45 [fh l,(.rv (.one (.fn F [0])))] [.var (cs.map .ah)] (λr m=>r=aD (l.any q)/\∃ex,m= .var (cs.map .ah)::ex)from ?_)) h
 refine Lb l hb F cs q hF ?_;rw[<-sF];exact⟨rfl,[],rfl⟩
theorem Cc(l:List mC)(hb:l.length<=4194304)(F:Nat)(q:mC->Bool)(hF:∀s,s∈l->∀K:CV->Mem->Prop,K (aD (q s)) []->ap prog F [s.cv] [] K):body prog c84 [IT l,(.rv (.one (.fn F [])))] [] (λr m=>r=am .i64 (oC q l)):=by
 refine bc (λk=>k<=l.length/\∀(j:Nat)s,j<k->l[j]? =some s->q s=false) [0,1,7] (λk=>[(8,am .i64 (k:Nat))]) (λ_=>[]) (λk=>l.length-k) 0 ⟨aaj _,λj s h=>absurd h (aaU j)⟩ ?_ (λk hk=>?_)
 .refine View.o1 0 [] [] ?_
  .exact .nil _
 .refine aN (λh=>?_) (λh=>?_)
  .have aC:k<l.length:=by have h:(k:Int)<((l.map mC.enc).length:Int):=h;rw[Pj]at h;omega
   have hg:dD (l.map mC.enc) (k:Nat)=some (l[k].enc):=by rw[bG,Tm,vU aC];rfl
   refine af hg ?_;refine hF l[k] (aaw aC) _ ?_;refine aG (λh=>?_) (λh=>?_)
   .rw[lA aC h hk.2];exact rfl
   .refine⟨k+1,⟨aC,λj s hj hs=>?_⟩,(show l.length-(k+1)<l.length-k by omega),View.o 0 [] [] ?_ ?_⟩
    .rcases aaf j k with h5|h5
     .exact hk.2 j s h5 hs
     .have:j=k:=om;subst this;rw[vU aC]at hs;cases hs;exact h
    .repeat(first|exact .nil|refine .aA ?_|refine .put (.bb (cj om).symm) ?_|refine .eq rfl ?_)
    .exact .nil _
  .have d8:¬(k:Int)<((l.map mC.enc).length:Int):=h;rw[Pj]at d8;rw[nr λj s hs=>hk.2 j s (by have:=(Km.1 hs).1;omega) hs]
   exact rfl
theorem Hj(l:List mC)(hb:l.length<=4194304)(F:Nat)(q:mC->Bool)(hF:∀s,s∈l->∀K:CV->Mem->Prop,K (aD (q s)) []->ap prog F [s.cv] [] K){m:Mem}{K:CV->Mem->Prop}(h:K (am .i64 (oC q l)) m):ap prog 84 [IT l,(.rv (.one (.fn F [])))] m K:=
 bw func84 l84 rfl (aad rfl) (Cc l hb F q hF) rfl rfl h
theorem Ld(l:List mC)(hb:l.length<=4194304)(F:Nat)(q:mC->Bool)(hF:∀s,s∈l->∀K:CV->Mem->Prop,K (aD (q s)) []->ap prog F [s.cv] [] K){m:Mem}{K:CV->Mem->Prop}(h:K (aD (l.any q)) m):ap prog 47 [IT l,(.rv (.one (.fn F [])))] m K:=by
 refine bw func47 l47 rfl (aad rfl) (show body prog c47 [IT l,(.rv (.one (.fn F [])))] [] (λr m=>r=aD (l.any q))from ?_) rfl rfl h
 refine Hj l hb F q hF ?_;rw[<-sF];exact rfl
def uE(m:mC):Bool:=decide (m.w<1)||decide (m.w>=6)||decide (m.bits<1)||decide (m.bits>=2147483648)
theorem Y2(p s:dy)(K:CV->Mem->Prop)(h:K (aD (s.call==p.call)) [.var (p.enc.map .ah)]):ap prog 46 [s.cv,Pd] [.var (p.enc.map .ah)] K:=
 eY rfl (aZ func46 l46 (show body prog c46 [s.cv,Pd] [.var (p.enc.map .ah)] (λr m=>r=aD (s.call==p.call)/\∃ex,m= .var (p.enc.map .ah)::ex)from⟨rfl,_,rfl⟩)) h
theorem Vy(s:mC):body prog c48 [s.cv] [] (λr m=>r=aD (uE s)):=by
 refine aG (λh=>?_) (λh=>?_)
 .rw[uE,h];exact rfl
 refine aG (λh2=>?_) (λh2=>?_)
 .rw[uE,h,h2];exact rfl
 refine aG (λh3=>?_) (λh3=>?_)
 .rw[uE,h,h2,h3];exact rfl
 .rw[uE,h,h2,h3];exact rfl
theorem Y3(s:mC)(K:CV->Mem->Prop)(h:K (aD (uE s)) []):ap prog 48 [s.cv] [] K:=
 bw func48 l48 rfl (aad rfl) (Vy s) rfl rfl h
def c22:LF:= ⟨46,[.cell true 2 2],(.seq (.ai [qu 2 (.alloc [qd 0,qd 0])]) (.seq (.seq (.ai [qm 5 0,qu 6 (.len 1 5),qu 7 (.aJ .gtr 6 (qi 30))]) (.cond 7 (.seq (.ai [qu 8 (.build [qd 0,qd 0] [(0,1,qi 5)]),qw (.store 2 2 8)]) .ret) .skip)) (.seq (.seq (.ai [qm 9 0,qu 10 (.len 1 9),qu 11 (.aM (qi 0))]) (.block 0 (.loop (.seq (.ai [qu 12 (.aJ .lss 11 10)]) (.seq (.cond 12 .skip (.exit 0)) (.seq (.block 1 (.seq (.ai [qm 13 11,qu 14 (.cz 2 9 11),qL 15 2 14,qu 4 (.alloc [qd 0,.aO]),qm 3 13,qw (.store 2 4 15)]) (.seq (.seq (.ai [qf 16 0 4,ql 17 16,qu 18 (.aJ .lss 17 (qi 0)),qm 19 18,qg 20 (.b8 0 4) 19 false,qg 21 (.load false 1 20) 19 false,qg 22 (.aJ .geq 21 (qi 2147483648)) 19 false,qu 23 (.pick 19 (qb true) 22)]) (.cond 23 (.seq (.ai [qm 24 3,qu 25 (.build [qd 0,qd 0] [(0,1,qi 3),(1,1,24)]),qw (.store 2 2 25)]) .ret) .skip)) (.seq (.seq (.ai [qm 26 0,qm 27 3,qu 28 (.oG 2 26 none (some 27) none),qu 29 (.fn 46 [4]),qu 30 (qc 45 [28,29])]) (.cond 30 (.seq (.ai [qm 31 3,qu 32 (.build [qd 0,qd 0] [(0,1,qi 7),(1,1,31)]),qw (.store 2 2 32)]) .ret) .skip)) (.seq (.seq (.ai [qf 33 1 4,ql 34 33,qu 35 (.len 1 34),qu 36 (.aJ .gtr 35 (qi 3))]) (.cond 36 (.seq (.ai [qm 37 3,qu 38 (.build [qd 0,qd 0] [(0,1,qi 5),(1,1,37)]),qw (.store 2 2 38)]) .ret) .skip)) (.seq (.ai [qf 39 1 4,ql 40 39,qu 41 (qc 47 [40,(.c (.rv (.one (.fn 48 []))))])]) (.cond 41 (.seq (.ai [qm 42 3,qu 43 (.build [qd 0,qd 0] [(0,1,qi 3),(1,1,42)]),qw (.store 2 2 43)]) .ret) .skip))))))) (.ai [qu 44 (.aJ .add 11 (qi 1)),qm 11 44]))))))) (.seq (.ai [qu 45 (.build [qd 0,qd 0] []),qw (.store 2 2 45)]) .ret))))⟩
def lN(pre:List dy)(p:dy):Int:=
 if p.call<0\/p.call>=2147483648 then 3 else if pre.any (λq=>q.call==p.call)=true then 7 else if p.bt.length>3 then 5 else if p.bt.any uE=true then 3 else 0
def ji(l:List dy)(k:Nat):Int:=match l[k]? with|some p=>lN (l.take k) p|none=>0
def uF(f:Nat->Int):Nat->Nat->Int×Int
 |0,_=>(0,0)
 |n+1,k=>if f k=0 then uF f n (k+1)else(f k,(k:Int))
theorem AD{f:Nat->Int}:∀(n k:Nat),(∀j,k<=j->j<k+n->f j=0)->uF f n k=(0,0)
 |0,_,_=>rfl
 |n+1,k,h=>by rw[uF,if_pos (h k (Ym k) om)];exact AD n (k+1) λj h1 h2=>h j om om
theorem rE{f:Nat->Int}:∀(n k j:Nat),k<=j->j<k+n->(∀i,k<=i->i<j->f i=0)->f j≠0->uF f n k=(f j,(j:Int))
 |0,_,_,_,_,_,_=>om
 |n+1,k,j,h1,h2,h3,h4=>by
  rw[uF];rcases aaf k j with h|h
  .rw[if_pos (h3 k (Ym k) h)];exact rE n (k+1) j om om (λi a b=>h3 i om b) h4
  .have:k=j:=om;subst this;rw[if_neg h4]
def dq(l:List dy):Int×Int:=if l.length>30 then(5,0)else uF (ji l) l.length 0
theorem Le{l:List dy}{k:Nat}(h0:¬l.length>30)(hk:k<l.length)(hg:∀j,j<k->ji l j=0){e:Int}(h:lN (l.take k) l[k]=e)(he:e≠0):B8 (e,(k:Int))=B8 (dq l):=by
 have hw:ji l k=e:=by rw[ji,vU hk];exact h
 rw[dq,if_neg h0,rE l.length 0 k om om (λi _ hi=>hg i hi) (by rw[hw];exact he),hw]
theorem Hk{l:List dy}{k:Nat}(hk:k<l.length)(hg:∀j,j<k->ji l j=0)(h:lN (l.take k) l[k]=0):∀j,j<k+1->ji l j=0:=by
 intro j hj;rcases aaf j k with h1|h1
 .exact hg j h1
 .have:j=k:=om;subst this;rw[ji,vU hk];exact h
theorem l22:bz prog Tryz.f22=some c22:=by kernel_rfl
theorem Hl(l:List dy):body prog c22 [fh l] [] (λr m=>r=B8 (dq l)):=by
 refine aN (λh=>?_) (λh0=>?_)
 .have h:l.length>30:=by have h:(((l.map dy.enc).length:Nat):Int)>30:=h;rw[Pj]at h;omega
  rw[dq,if_pos h];exact rfl
 have h0:¬l.length>30:=by have h:¬(((l.map dy.enc).length:Nat):Int)>30:=h0;rw[Pj]at h;omega
 refine bc (λk=>k<=l.length/\∀(j:Nat),j<k->ji l j=0) [0,2,9,10] (λk=>[(11,am .i64 (k:Nat))]) (λ_=>[.var [.ah (.val (.int .i64 0)),.ah (.val (.int .i64 0))]]) (λk=>l.length-k) 0 ⟨aaj _,λj h=>absurd h (aaU j)⟩ ?_ (λk hk=>?_)
 .refine View.o1 1 [0] [] ?_
  .exact .put (by simp[br]) rfl (.eq rfl aE) (.nil _)
 .refine aN (λh=>?_) (λh=>?_)
  .have aC:k<l.length:=by have h:(k:Int)<((l.map dy.enc).length:Int):=h;rw[Pj]at h;omega
   have bad:∀{e:Int},lN (l.take k) l[k]=e->e≠0->B8 (e,(k:Int))=B8 (dq l):=λa b=>Le h0 aC hk.2 a b
   have Y4:=Hk aC hk.2;have hg:dD (l.map dy.enc) (k:Nat)=some [.val (.int .i64 l[k].call),.sl 2 (l[k].bt.map mC.enc)]:=by rw[bG,Tm,vU aC];rfl
   generalize l[k]=p at bad Y4 hg;obtain⟨call,bt⟩:=p;refine af hg ?_;refine aN (λh=>?_) (λh1=>?_)
   .exact bad (by rw[lN,if_pos (.inl h)]) (by decide)
   refine aN (λh=>?_) (λh2=>?_)
   .exact bad (by rw[lN,if_pos (.inr h)]) (by decide)
   have n1:¬((⟨call,bt⟩:dy).call<0\/(⟨call,bt⟩:dy).call>=2147483648):=λh=>h.elim h1 h2
   have vd:∀{m:Mem}{K:CV->Mem->Prop},cF m 1=some (.var ((⟨call,bt⟩:dy).enc.map .ah))->K (aD ((l.take k).any λq=>q.call==(⟨call,bt⟩:dy).call)) m->ap prog 45 [.rv (.one (.ah (.sl 2 (((l.map dy.enc).take k).drop 0)))),.rv (.one (.fn 46 [1]))] m K:=by
    intro m K hm hK;have e:((l.map dy.enc).take k).drop 0=(l.take k).map dy.enc:=aE;rw[e];exact fA 1 hm rfl rfl (Lc (l.take k) (by simp;omega) 46 (⟨call,bt⟩:dy).enc (λq=>q.call==(⟨call,bt⟩:dy).call) λs _ K hs=>Y2 _ s K hs) hK
   refine cN (by simp[aa9];omega) ?_
   refine vd rfl ?_;refine aG (λh=>?_) (λh3=>?_)
   .exact bad (by rw[lN,if_neg n1,if_pos h]) (by decide)
   have n2:¬((l.take k).any λq=>q.call==(⟨call,bt⟩:dy).call)=true:=by rw[h3];simp
   refine aN (λh=>?_) (λh4=>?_)
   .have h:(⟨call,bt⟩:dy).bt.length>3:=by have h:(((bt.map mC.enc).length:Nat):Int)>3:=h;rw[Pj]at h;show bt.length>3;omega
    exact bad (by rw[lN,if_neg n1,if_neg n2,if_pos h]) (by decide)
   have n3:¬(⟨call,bt⟩:dy).bt.length>3:=by have h:¬(((bt.map mC.enc).length:Nat):Int)>3:=h4;rw[Pj]at h;show ¬bt.length>3;omega
   refine Ld bt (by have:¬bt.length>3:=n3;omega) 48 uE (λs _ K hs=>Y3 s K hs) ?_
   refine aG (λh=>?_) (λh5=>?_)
   .exact bad (by rw[lN,if_neg n1,if_neg n2,if_neg n3,if_pos h]) (by decide)
   have n4:¬(⟨call,bt⟩:dy).bt.any uE=true:=by show ¬bt.any uE=true;rw[h5];simp
   refine⟨k+1,⟨aC,Y4 (by rw[lN,if_neg n1,if_neg n2,if_neg n3,if_neg n4])⟩,(show l.length-(k+1)<l.length-k by omega),View.o2 2 [0] [] ?_⟩
   .exact .put (by simp[br]) rfl (.eq rfl aE) (.nil _)
  .have d8:¬(k:Int)<((l.map dy.enc).length:Int):=h;rw[Pj]at d8;rw[dq,if_neg h0,AD l.length 0 λj _ hj=>hk.2 j om]
   exact rfl
theorem Pe(l:List dy){m:Mem}{K:CV->Mem->Prop}(h:K (B8 (dq l)) m):ap prog 22 [fh l] m K:=
 bw func22 l22 rfl (aad rfl) (Hl l) rfl rfl h
def pD:List mC->List dH
 | []=>[⟨6,0,0,1⟩,⟨6,0,0,0⟩]
 |m::r=>⟨1,0,0,m.w⟩:: ⟨4,((2*r.length+1:Nat):Int),0,m.bits⟩::pD r
def fW(p:dy):List dH:=⟨2,0,((2*p.bt.length+1:Nat):Int),p.call⟩::pD p.bt
def RI(l:List dy):Int:=match l[l.length/2]? with|some p=>p.call|none=>0
def io:Nat->List dy->List dH
 |0,_=>[⟨6,0,0,0⟩]
 |_+1,[]=>[⟨6,0,0,0⟩]
 |_+1,[p]=>fW p
 |n+1,p::q::r=>⟨3,0,1,RI (p::q::r)⟩:: ⟨5,0,0,(io n ((p::q::r).take ((p::q::r).length/2))).length⟩::
   (io n ((p::q::r).take ((p::q::r).length/2))++io n ((p::q::r).drop ((p::q::r).length/2)))
theorem AE{n:Nat}{l:List dy}(h:2<=l.length):io (n+1) l=⟨3,0,1,RI l⟩:: ⟨5,0,0,(io n (l.take (l.length/2))).length⟩::(io n (l.take (l.length/2))++io n (l.drop (l.length/2))):=by
 match l,h with
 |p::q::r,_=>rfl
theorem uG:∀ms:List mC,(pD ms).length=2*ms.length+2
 | []=>rfl
 |m::r=>by simp[pD,uG r];omega
theorem yq:∀ms:List mC,(pD ms)[2*ms.length+1]? =some ⟨6,0,0,0⟩
 | []=>rfl
 |m::r=>by
  have:=yq r;rw[aau,show 2*(r.length+1)+1=2*r.length+1+1+1 by omega]
  simpa[pD]using this
def At(P:List dH)(a:Nat)(c:List dH):Prop:=∀(j:Nat)i,c[j]? =some i->P[a+j]? =some i
theorem At.head{P:List dH}{a:Nat}{x:dH}{c:List dH}(h:At P a (x::c)):P[a]? =some x:=h 0 x rfl
theorem At.tail{P:List dH}{a:Nat}{x:dH}{c:List dH}(h:At P a (x::c)):At P (a+1) c:=λj i hi=>by
 have:=h (j+1) i (by simpa using hi)
 rwa [show a+(j+1)=a+1+j by omega]at this
theorem At.right{P:List dH}{a:Nat}{c d:List dH}(h:At P a (c++d)):At P (a+c.length) d:=λj i hi=>by
 have:=h (c.length+j) i (by rw[ZZ om];simpa using hi)
 rwa [show a+(c.length+j)=a+c.length+j by omega]at this
def rF(l:List dy):Prop:=l.Pairwise λa b=>a.call<b.call
theorem rF.lo{l:List dy}(h:rF l){k:Nat}{q:dy}(hk:l[k]? =some q):∀p,p∈l.take k->p.call<q.call:=by
 intro p hp;obtain⟨i,hi⟩:=aaa hp;rw[aaM]at hi;split at hi
 .rename_i Yl;obtain⟨h1,rfl⟩:=Km.1 hi;obtain⟨h2,rfl⟩:=Km.1 hk;exact ab4.1 h i k h1 h2 Yl
 .cases hi
def Vz(c:List dH)(a:Nat)(s:Int):Prop:=∀(j:Nat)i,c[j]? =some i->iS i ((a+j:Nat):Int) s=0
theorem Vz.cons{x:dH}{c:List dH}{a:Nat}{s:Int}(hx:iS x (a:Int) s=0)(h:Vz c (a+1) s):Vz (x::c) a s:=λj i hi=>by
 cases j with
 |zero=>simp at hi;subst hi;exact hx
 |succ j=>
  have:=h j i (by simpa using hi)
  rwa [show a+1+j=a+(j+1) by omega]at this
def Y5(m:mC):Prop:=1<=m.w/\m.w<6/\1<=m.bits/\m.bits<2147483648
def TG(p:dy):Prop:=0<=p.call/\p.call<2147483648/\p.bt.length<=3/\∀m,m∈p.bt->Y5 m
theorem uH:∀(n:Nat)(l:List dy),(∀p,p∈l->p.bt.length<=3)->l.length<=n->(l=[]->(io n l).length=1)/\(l≠[]->(io n l).length+2<=11*l.length)
 |0,l,_,hl=>by have:l=[]:=aag om;subst this;simp[io]
 |n+1,l,h,hl=>by
  rcases aaf l.length 2 with h2|h2
  .match l,h2 with
   | [],_=>simp[io]
   | [p],_=>
    have:=h p aE;simp[io,fW,uG];omega
  .refine⟨λe=>by subst e;simp at h2,λ_=>?_⟩
   have i1:=(uH n (l.take (l.length/2)) (λp hp=>h p (abo hp)) (by rw[aaA];omega)).2 (λe=>by have:=congrArg List.length e;rw[aaA,abl]at this;omega)
   have i2:=(uH n (l.drop (l.length/2)) (λp hp=>h p (acN hp)) (by rw[abz];omega)).2 (λe=>by have:=congrArg List.length e;rw[abz,abl]at this;omega)
   rw[AE h2];simp only[aau,aa3];rw[aaA]at i1;rw[abz]at i2;omega
def nD(l:List dy):List dH:=⟨1,0,0,0⟩::io l.length l
def pE(l:List dy):Prop:=l.Pairwise λa b=>a.call≠b.call
theorem zk{l l':List dy}(h:l'.Perm l)(hd:pE l):pE l':=(h.pairwise_iff (λh=>Ne.symm h)).2 hd
theorem Eu{l:List dy}(h:(dq l).1=0):l.length<=30/\(∀p,p∈l->TG p)/\pE l:=by
 unfold dq at h;split at h
 .simp at h
 .rename_i h0;have f8:∀j,j<l.length->ji l j=0:=by
   intro j
   induction j using Nat.strongRecOn with
   |_ j ih=>
    intro hj;by_cases hw:ji l j=0
    .exact hw
    .rw[rE l.length 0 j om om (λi _ hi=>ih i hi om) hw]at h
     exact absurd h hw
  have fact:∀(j:Nat)p,l[j]? =some p->TG p/\∀q,q∈l.take j->q.call≠p.call:=by
   intro j p hj;have hw:=f8 j (Km.1 hj).1;rw[ji,hj]at hw;simp only[lN]at hw;split at hw
   .simp at hw
   .rename_i c1;split at hw
    .simp at hw
    .rename_i c2;split at hw
     .simp at hw
     .rename_i c3;split at hw
      .simp at hw
      .rename_i c4;refine⟨⟨om,om,om,λm hm=>?_⟩,λq hq e=>?_⟩
       .have c4:p.bt.any uE=false:=by simpa using c4
        rw[List.any_eq_false]at c4;have hb:uE m=false:=by simpa using c4 m hm
        simp only[uE,Bool.or_eq_false_iff,decide_eq_false_iff_not]at hb;refine⟨om,om,om,om⟩
       .refine c2 (abc.2 ⟨q,hq,by simp[e]⟩)
  refine⟨om,λp hp=>?_,?_⟩
  .obtain⟨j,hj⟩:=aaa hp;exact(fact j p hj).1
  .rw[pE,ab4];intro i j hi hj p9;refine(fact j l[j] (vU hj)).2 l[i] ?_;exact Tp (i:=i) (by rw[aaM,if_pos p9,vU hi])
theorem Lg{l:List dy}(h:l.Pairwise λa b=>¬b.call<a.call)(hd:pE l):rF l:=by have:=List.Pairwise.and h hd;exact this.imp λ⟨a,b⟩=>om
def c27:LF:= ⟨45,[.tmp 2],(.seq (.ai [qu 2 (.aM qe)]) (.seq (.seq (.ai [qm 7 0,qu 8 (.len 1 7)]) (.block 0 (.seq (.ai [qu 10 (.aJ .eql 8 (qi 0)),qm 9 10]) (.cond 9 (.seq (.ai [qu 11 (.build [qd 0,qd 0,qd 0,qd 0] [(0,1,qi 6),(3,1,qi 0)]),qu 12 (.od 4 [qd 0,qd 0,qd 0,qd 0] 1 [(0,11)]),qm 2 12]) .ret) (.seq (.ai [qu 14 (.aJ .eql 8 (qi 1)),qm 13 14]) (.cond 13 (.seq (.ai [qm 15 0,qu 16 (.cz 2 15 (qi 0)),qL 17 2 16,qu 18 (qc 52 [17]),qm 2 18]) .ret) .skip)))))) (.seq (.ai [qm 19 0,qu 20 (.len 1 19),qu 21 (.aJ .quo 20 (qi 2)),qm 3 21]) (.cX (.seq (.bV [qm 22 0,qm 23 3,qu 24 (.oG 2 22 none (some 23) none),qu 25 (qc 27 [24]),qm 26 0,qm 27 3,qu 28 (.oG 2 26 (some 27) none none),qu 29 (qc 27 [28]),qm 4 25,qm 5 29] [(eK 3 0 (eK 3 4 (.cons 3 (some [6]) (.cons 7 (some []) (.cons 8 none (.cons 9 none .nil))))))]) (.seq (.ai [qm 30 0,qm 31 3,qu 32 (.cz 2 30 31),qf 33 0 32,ql 34 33,qu 35 (.build [qd 0,qd 0,qd 0,qd 0] [(0,1,qi 3),(1,1,qi 0),(2,1,qi 1),(3,1,34)]),qm 36 4,qu 37 (.len 1 36),qu 38 (.build [qd 0,qd 0,qd 0,qd 0] [(0,1,qi 5),(3,1,37)]),qu 39 (.od 4 [qd 0,qd 0,qd 0,qd 0] 2 [(0,35),(1,38)]),qm 6 39]) (.seq (.ai [qm 40 6,qm 41 4,qu 42 (.pO 4 32 40 41),qm 43 5,qu 44 (.pO 4 32 42 43),qm 2 44]) .ret)))))))⟩
def c52:LF:= ⟨50,[.tmp 2],(.seq (.ai [qu 1 (.box 0),qu 2 (.aM qe)]) (.seq (.ai [qf 8 1 1,ql 9 8,qu 10 (.len 1 9),qu 11 (.aJ .mul (qi 2) 10),qu 12 (.aJ .add 11 (qi 1)),qm 3 12]) (.seq (.ai [qm 13 3,qf 14 0 1,ql 15 14,qu 16 (.build [qd 0,qd 0,qd 0,qd 0] [(0,1,qi 2),(1,1,qi 0),(2,1,13),(3,1,15)]),qu 17 (.od 4 [qd 0,qd 0,qd 0,qd 0] 1 [(0,16)]),qm 4 17]) (.seq (.seq (.ai [qf 18 1 1,ql 19 18,qu 20 (.len 1 19),qu 21 (.aM (qi 0))]) (.block 0 (.loop (.seq (.ai [qu 22 (.aJ .lss 21 20)]) (.seq (.cond 22 .skip (.exit 0)) (.seq (.block 1 (.seq (.ai [qm 23 21,qu 24 (.cz 2 19 21),qL 25 2 24,qu 6 (.alloc [qd 0,qd 0]),qm 5 23,qw (.store 2 6 25)]) (.seq (.ai [qf 26 1 1,ql 27 26,qu 28 (.len 1 27),qm 29 5,qu 30 (.aJ .sub 28 29),qu 31 (.aJ .sub 30 (qi 1)),qu 32 (.aJ .mul (qi 2) 31),qu 33 (.aJ .add 32 (qi 1)),qm 7 33]) (.ai [qm 34 4,qf 35 0 6,ql 36 35,qu 37 (.build [qd 0,qd 0,qd 0,qd 0] [(0,1,qi 1),(3,1,36)]),qm 38 7,qf 39 1 6,ql 40 39,qu 41 (.build [qd 0,qd 0,qd 0,qd 0] [(0,1,qi 4),(1,1,38),(2,1,qi 0),(3,1,40)]),qu 42 (.od 4 [qd 0,qd 0,qd 0,qd 0] 2 [(0,37),(1,41)]),qu 43 (.pO 4 32 34 42),qm 4 43])))) (.ai [qu 44 (.aJ .add 21 (qi 1)),qm 21 44]))))))) (.seq (.ai [qm 45 4,qu 46 (.build [qd 0,qd 0,qd 0,qd 0] [(0,1,qi 6),(3,1,qi 1)]),qu 47 (.build [qd 0,qd 0,qd 0,qd 0] [(0,1,qi 6),(3,1,qi 0)]),qu 48 (.od 4 [qd 0,qd 0,qd 0,qd 0] 2 [(0,46),(1,47)]),qu 49 (.pO 4 32 45 48),qm 2 49]) .ret)))))⟩
theorem qJ(a b:List (List Dt)):aa (a++b)=aa a++aa b:=by simp[aa]
theorem l52:bz prog f52=some c52:=by kernel_rfl
theorem l27:bz prog Tryz.f27=some c27.er:=by kernel_rfl
theorem Ev:∀(ms:List mC)(k:Nat)(m:mC),ms[k]? =some m->(pD ms)[2*k]? =some ⟨1,0,0,m.w⟩/\(pD ms)[2*k+1]? =some ⟨4,((2*(ms.length-k-1)+1:Nat):Int),0,m.bits⟩
 | [],k,m,h=>by simp at h
 |x::r,0,m,h=>by
  simp at h;subst h;refine⟨rfl,?_⟩;show some _=some _;rw[aau,show r.length+1-0-1=r.length by omega]
 |x::r,k+1,m,h=>by
  have:=Ev r k m (by simpa using h)
  rw[show 2*(k+1)=2*k+1+1 by omega,aau,show r.length+1-(k+1)-1=r.length-k-1 by omega]
  simpa[pD]using this
theorem AF:∀ms:List mC,(pD ms)[2*ms.length]? =some ⟨6,0,0,1⟩
 | []=>rfl
 |m::r=>by
  have:=AF r;rw[aau,show 2*(r.length+1)=2*r.length+1+1 by omega]
  simpa[pD]using this
theorem Lh{p:dy}{k:Nat}{m:mC}(h:p.bt[k]? =some m):(fW p).take (2*(k+1)+1)=(fW p).take (2*k+1)++ [⟨1,0,0,m.w⟩,⟨4,((2*(p.bt.length-k-1)+1:Nat):Int),0,m.bits⟩]:=by
 obtain⟨h1,h2⟩:=Ev p.bt k m h;have e1:(fW p)[2*k+1]? =some ⟨1,0,0,m.w⟩:=by simpa[fW]using h1
 have e2:(fW p)[2*k+1+1]? =some ⟨4,((2*(p.bt.length-k-1)+1:Nat):Int),0,m.bits⟩:=by simpa[fW]using h2
 rw[show 2*(k+1)+1=2*k+1+1+1 by omega,abG,e2,abG,e1]
 simp
theorem Pf(p:dy):fW p=(fW p).take (2*p.bt.length+1)++ [⟨6,0,0,1⟩,⟨6,0,0,0⟩]:=by
 have h1:=AF p.bt;have h2:=yq p.bt;have e1:(fW p)[2*p.bt.length+1]? =some ⟨6,0,0,1⟩:=by simpa[fW]using h1
 have e2:(fW p)[2*p.bt.length+1+1]? =some ⟨6,0,0,0⟩:=by simpa[fW]using h2
 have hl:(fW p).length=2*p.bt.length+1+1+1:=by simp[fW,uG]
 have h3:(fW p).take (2*p.bt.length+1+1+1)=fW p:=abM om;rw[abG,e2,abG,e1,ac0]at h3;exact h3.symm
theorem Hm(p:dy)(hm:p.bt.length<=1000):body prog c52 [p.cv] [] (λr m=>cV m r (td (fW p))):=by
 have hn:IntKind.i64.wrap (IntKind.i64.wrap (2*(((p.bt.map mC.enc).length:Nat):Int))+1)=((2*p.bt.length+1:Nat):Int):=by rw[Pj,iD (n:=2*(p.bt.length:Int)) om om,iD om om];omega
 refine bc (λk=>k<=p.bt.length) [1,19] (λk=>[(4,.rv (.one (.row 1 4 0 none))),(20,am .i64 (p.bt.length:Nat)),(21,am .i64 (k:Nat))]) (λk=>[.var (p.enc.map .ah),.row 4 (aa (((fW p).take (2*k+1)).map dH.enc))])
  (λk=>p.bt.length-k) 0 (aaj _) ?_ (λk hk=>?_)
 .refine View.o 2 [0,1] [] ?_ ?_
  .repeat(first|exact .nil|refine .aA ?_|refine .eq rfl ?_|refine .put (.bb (by rw[Pj];rfl)) ?_)
  .refine .pe rfl rfl rfl (.pt rfl rfl (.bL ?_) (.nil _));show [[CC.ah (.val (.int .i64 2)),.ah (.val (.int .i64 0)),.ah (.val (.int .i64 (IntKind.i64.wrap (IntKind.i64.wrap (2*(((p.bt.map mC.enc).length:Nat):Int))+1)))),.ah (.val (.int .i64 p.call))]]=_;rw[hn];rfl
 have hk:k<=p.bt.length:=hk;refine aN (λh=>?_) (λh=>?_)
 .have aC:k<p.bt.length:=by have h:(k:Int)<(p.bt.length:Int):=h;omega
  have hi:=vU aC;have hT:=Lh hi;have hg:dD (p.bt.map mC.enc) (k:Nat)=some [.val (.int .i64 p.bt[k].w),.val (.int .i64 p.bt[k].bits)]:=by rw[bG,Tm,hi];rfl
  generalize p.bt[k]=mk at hT hg;refine af hg ?_;have hw:IntKind.i64.wrap (IntKind.i64.wrap (2*IntKind.i64.wrap (IntKind.i64.wrap ((((p.bt.map mC.enc).length:Nat):Int)-(k:Int))-1))+1)=((2*(p.bt.length-k-1)+1:Nat):Int):=by rw[Pj,iD (n:=(p.bt.length:Int)-k) om om,iD (n:=(p.bt.length:Int)-k-1) om om,iD (n:=2*((p.bt.length:Int)-k-1)) om om,iD om om];omega
  refine⟨?_,?_⟩
  .show((aa (((fW p).take (2*k+1)).map dH.enc)).length+2)*32<=_;simp[aa];omega
  refine⟨k+1,aC,(show p.bt.length-(k+1)<p.bt.length-k by omega),View.o2 5 [0,4] [] ?_⟩
  .refine .pe rfl rfl rfl (.pt rfl rfl (.bL ?_) (.nil _));show aa (((fW p).take (2*k+1)).map dH.enc)++ [[CC.ah (.val (.int .i64 1)),.ah (.val (.int .i64 0)),.ah (.val (.int .i64 0)),.ah (.val (.int .i64 mk.w))],[.ah (.val (.int .i64 4)),.ah (.val (.int .i64 (IntKind.i64.wrap (IntKind.i64.wrap (2*IntKind.i64.wrap (IntKind.i64.wrap ((((p.bt.map mC.enc).length:Nat):Int)-(k:Int))-1))+1)))),.ah (.val (.int .i64 0)),.ah (.val (.int .i64 mk.bits))]]=_;rw[hw,hT,abm,qJ];rfl
 .have Bu:k=p.bt.length:=by have h:¬(k:Int)<(p.bt.length:Int):=h;omega
  subst Bu;refine⟨?_,?_⟩
  .show((aa (((fW p).take (2*p.bt.length+1)).map dH.enc)).length+2)*32<=_;simp[aa];omega
  have d9:some (Bk.row 4 (aa (((fW p).take (2*p.bt.length+1)).map dH.enc)++ [[CC.ah (.val (.int .i64 6)),.ah (.val (.int .i64 0)),.ah (.val (.int .i64 0)),.ah (.val (.int .i64 1))],[.ah (.val (.int .i64 6)),.ah (.val (.int .i64 0)),.ah (.val (.int .i64 0)),.ah (.val (.int .i64 0))]]))=some (Bk.row 4 (aa ((fW p).map dH.enc))):=by
   conv=>rhs;rw[Pf p,abm,qJ]
   rfl
  exact .rv (.one (fk.fl d9 0 none))
theorem Pg(p:dy)(hm:p.bt.length<=1000){m:Mem}{K:CV->Mem->Prop}(h:K (td (fW p)) m):ap prog 52 [p.cv] m K:=
 bh (aZ func52 l52 (Hm p hm)) (by simp[dy.cv,CV.dB,CC.dB,RV.dB]) λr m1 hf=>⟨_,hf,h⟩
theorem rG{n:Nat}{l:List dy}(hg:∀p,p∈l->p.bt.length<=3)(hl:l.length<=30)(hn:l.length<=n):(io n l).length<=330:=by
 have h2:=uH n l hg hn;by_cases e:l=[]
 .have:=h2.1 e;omega
 .have:=h2.2 e;omega
theorem IU:∀(n:Nat)(l:List dy),l.length<=n->l.length<=30->(∀p,p∈l->p.bt.length<=3)->∀{m:Mem}{K:CV->Mem->Prop},K (td (io n l)) m->ap prog 27 [fh l] m K:=by
 intro n
 induction n with
 |zero=>
  intro l hl _ _ m K h;have:l=[]:=aag om;subst this;refine bh (K0:=λr m=>cV m r (td (io 0 []))) (ct func27 l27 ?_) (by simp[fh,CV.dB,CC.dB]) λr m1 hf=>⟨_,hf,h⟩
  exact .rv (.one (fk.fl rfl 0 none))
 |succ n ih=>
  intro l hl ag6 hg m K h;refine bh (K0:=λr m=>cV m r (td (io (n+1) l))) (ct func27 l27 ?_) (by simp[fh,CV.dB,CC.dB]) λr m1 hf=>⟨_,hf,h⟩
  refine bs (λh0=>?_) (λh0=>?_)
  .have h0:l=[]:=by have h0:(((l.map dy.enc).length:Nat):Int)=0:=h0;rw[Pj]at h0;exact aag om
   subst h0;exact .rv (.one (fk.fl rfl 0 none))
  have h0:l.length≠0:=by have h0:(((l.map dy.enc).length:Nat):Int)≠0:=h0;rw[Pj]at h0;omega
  refine bs (λh1=>?_) (λh1=>?_)
  .have h1:l.length=1:=by have h1:(((l.map dy.enc).length:Nat):Int)=1:=h1;rw[Pj]at h1;omega
   match l,h1 with
   | [p],_=>
    refine Pg p (by have:=hg p (by simp);omega) ?_
    exact cV.self rfl
  have h2:2<=l.length:=by have h1:(((l.map dy.enc).length:Nat):Int)≠1:=h1;rw[Pj]at h1;omega
  have hq:IntKind.i64.wrap ((((l.map dy.enc).length:Nat):Int).tdiv 2)=((l.length/2:Nat):Int):=by rw[Pj,show(2:Int)=((2:Nat):Int)from rfl,<-Int.ofNat_tdiv,iD om om]
  refine gL [0] [(3,am .i64 ((l.length/2:Nat):Int))] [] (View.o 0 [] [] ?_ (.nil _)) ?_
  .repeat(first|exact .nil|refine .aA ?_|refine .eq rfl ?_|refine .put (.bb (congrArg (am .i64) hq).symm) ?_)
  have hk:l.length/2<l.length:=om;have b1:(Nat.ble 0 (l.length/2)&&Nat.ble (l.length/2) (l.map dy.enc).length)=true:=by rw[aab,aa9,aa9,Pj];omega
  have b2:(Nat.ble (l.length/2) (l.map dy.enc).length&&Nat.ble (l.map dy.enc).length (l.map dy.enc).length)=true:=by rw[aab,aa9,aa9,Pj];omega
  have e1:((l.map dy.enc).take (l.length/2)).drop 0=(l.take (l.length/2)).map dy.enc:=by rw[adR,adh]
  have e2:((l.map dy.enc).take (l.map dy.enc).length).drop (l.length/2)=(l.drop (l.length/2)).map dy.enc:=by rw[aaV,adZ]
  refine cN b1 ?_;refine cN b2 ?_;show ap prog 27 [.rv (.one (.ah (.sl 2 (((l.map dy.enc).take (l.length/2)).drop 0))))] _ _;rw[e1];refine ih (l.take (l.length/2)) (by rw[aaA];omega) (by rw[aaA];omega) (λp hp=>hg p (abo hp)) ?_
  refine⟨⟨cN b2 rfl,trivial⟩,?_⟩;show ap prog 27 [.rv (.one (.ah (.sl 2 (((l.map dy.enc).take (l.map dy.enc).length).drop (l.length/2)))))] _ _;rw[e2];refine ih (l.drop (l.length/2)) (by rw[abz];omega) (by rw[abz];omega) (λp hp=>hg p (acN hp)) ?_
  refine⟨trivial,?_⟩;have hgt:dD (l.map dy.enc) ((l.length/2:Nat):Int)=some (l[l.length/2].enc):=by rw[bG,Tm,vU hk];rfl
  have zg:RI l=(l[l.length/2]).call:=by rw[RI,vU hk]
  refine af hgt ?_;have t1:=rG (n:=n) (l:=l.take (l.length/2)) (λp hp=>hg p (abo hp)) (by rw[aaA];omega) (by rw[aaA];omega)
  have t2:=rG (n:=n) (l:=l.drop (l.length/2)) (λp hp=>hg p (acN hp)) (by rw[abz];omega) (by rw[abz];omega)
  have M4:=AE (n:=n) h2;generalize io n (l.take (l.length/2))=lo at t1 M4;generalize io n (l.drop (l.length/2))=hi at t2 M4;refine⟨?_,?_⟩
  .show(2+((lo.map dH.enc).map λds=>ds.map CC.ah).length)*32<=_
   simp;omega
  refine⟨?_,?_⟩
  .show(([[CC.ah (.val (.int .i64 3)),.ah (.val (.int .i64 0)),.ah (.val (.int .i64 1)),.ah (.val (.int .i64 (l[l.length/2]).call))],[.ah (.val (.int .i64 5)),.ah (.val (.int .i64 0)),.ah (.val (.int .i64 0)),.ah (.val (.int .i64 (((lo.map dH.enc).length:Nat):Int)))]]++((lo.map dH.enc).map λds=>ds.map CC.ah)).length+((hi.map dH.enc).map λds=>ds.map CC.ah).length)*32<=_
   simp;omega
  have d9:some (Bk.row 4 (([[CC.ah (.val (.int .i64 3)),.ah (.val (.int .i64 0)),.ah (.val (.int .i64 1)),.ah (.val (.int .i64 (l[l.length/2]).call))],[.ah (.val (.int .i64 5)),.ah (.val (.int .i64 0)),.ah (.val (.int .i64 0)),.ah (.val (.int .i64 (((lo.map dH.enc).length:Nat):Int)))]]++((lo.map dH.enc).map λds=>ds.map CC.ah))++((hi.map dH.enc).map λds=>ds.map CC.ah)))=some (Bk.row 4 (((io (n+1) l).map dH.enc).map λds=>ds.map CC.ah)):=by rw[M4,Pj,zg];simp[dH.enc]
  exact .rv (.one (fk.fl d9 0 none))
def Tryz.Ew:Go.Shelf.Ren:=⟨λ|6=>24|15=>50|14=>49|28=>93|29=>94|20=>85|21=>86|22=>87|23=>88|24=>89|25=>90|26=>91|27=>92|46=>122|47=>123|48=>124|49=>125|50=>126|57=>144|n=>n,λ|22=>38|24=>75|25=>96|3=>3|39=>127|0=>0|53=>187|55=>189|4=>4|46=>181|45=>180|50=>50|5=>5|9=>9|66=>233|70=>237|76=>250|77=>102|n=>n,λ|n=>n⟩
theorem Tryz.RJ:Go.Proofs.SlLaysF0.n6 prog Tryz.Ew:={
 mixed:=by kernel_rfl,
 f6:=⟨ "slices.SortFunc[[]ringfence/api.Policy,ringfence/api.Policy]",by decide,func24.trans (congrArg some (by kernel_rfl))⟩,
 f14:=⟨ "slices.pdqsortCmpFunc[ringfence/api.Policy]",by decide,func49.trans (congrArg some (by kernel_rfl))⟩,
 f15:=func50.trans (congrArg some (by kernel_rfl)),
 f20:=⟨ "slices.insertionSortCmpFunc[ringfence/api.Policy]",by decide,func85.trans (congrArg some (by kernel_rfl))⟩,
 f21:=⟨ "slices.heapSortCmpFunc[ringfence/api.Policy]",by decide,func86.trans (congrArg some (by kernel_rfl))⟩,
 f22:=⟨ "slices.breakPatternsCmpFunc[ringfence/api.Policy]",by decide,func87.trans (congrArg some (by kernel_rfl))⟩,
 f23:=⟨ "slices.choosePivotCmpFunc[ringfence/api.Policy]",by decide,func88.trans (congrArg some (by kernel_rfl))⟩,
 f24:=⟨ "slices.reverseRangeCmpFunc[ringfence/api.Policy]",by decide,func89.trans (congrArg some (by kernel_rfl))⟩,
 f25:=⟨ "slices.partialInsertionSortCmpFunc[ringfence/api.Policy]",by decide,func90.trans (congrArg some (by kernel_rfl))⟩,
 f26:=⟨ "slices.partitionEqualCmpFunc[ringfence/api.Policy]",by decide,func91.trans (congrArg some (by kernel_rfl))⟩,
 f27:=⟨ "slices.partitionCmpFunc[ringfence/api.Policy]",by decide,func92.trans (congrArg some (by kernel_rfl))⟩,
 f28:=func93.trans (congrArg some (by kernel_rfl)),
 f29:=func94.trans (congrArg some (by kernel_rfl)),
 f46:=⟨ "slices.siftDownCmpFunc[ringfence/api.Policy]",by decide,func122.trans (congrArg some (by kernel_rfl))⟩,
 f47:=func123.trans (congrArg some (by kernel_rfl)),
 f48:=func124.trans (congrArg some (by kernel_rfl)),
 f49:=⟨ "slices.medianAdjacentCmpFunc[ringfence/api.Policy]",by decide,func125.trans (congrArg some (by kernel_rfl))⟩,
 f50:=⟨ "slices.medianCmpFunc[ringfence/api.Policy]",by decide,func126.trans (congrArg some (by kernel_rfl))⟩,
 f57:=⟨ "slices.order2CmpFunc[ringfence/api.Policy]",by decide,func144.trans (congrArg some (by kernel_rfl))⟩,
 t0:=underlying0,
 a0:=isAgg0,
 z0:=sizeOf0,
 v0:=zeroValue0,
 t3:=underlying3,
 a3:=isAgg3,
 z3:=sizeOf3,
 v3:=zeroValue3,
 t4:=underlying4,
 a4:=isAgg4,
 z4:=sizeOf4,
 v4:=zeroValue4,
 t5:=underlying5,
 a5:=isAgg5,
 z5:=sizeOf5,
 v5:=zeroValue5,
 t9:=underlying9,
 a9:=isAgg9,
 z9:=sizeOf9,
 v9:=zeroValue9,
 t22:=underlying38,
 a22:=isAgg38,
 z22:=sizeOf38,
 v22:=zeroValue38,
 t25:=underlying96,
 a25:=isAgg96,
 z25:=sizeOf96,
 v25:=zeroValue96,
 t39:=underlying127,
 a39:=isAgg127,
 z39:=sizeOf127,
 v39:=zeroValue127,
 t45:=underlying180,
 a45:=isAgg180,
 z45:=sizeOf180,
 v45:=zeroValue180,
 t46:=underlying181,
 a46:=isAgg181,
 z46:=sizeOf181,
 v46:=zeroValue181,
 t50:=underlying50,
 a50:=isAgg50,
 z50:=sizeOf50,
 v50:=zeroValue50,
 t53:=underlying187,
 a53:=isAgg187,
 z53:=sizeOf187,
 v53:=zeroValue187,
 t55:=underlying189,
 a55:=isAgg189,
 z55:=sizeOf189,
 v55:=zeroValue189,
 t66:=underlying233,
 a66:=isAgg233,
 z66:=sizeOf233,
 v66:=zeroValue233,
 t70:=underlying237,
 a70:=isAgg237,
 z70:=sizeOf237,
 v70:=zeroValue237,
 t76:=underlying250,
 a76:=isAgg250,
 z76:=sizeOf250,
 v76:=zeroValue250,
 t77:=underlying102,
 a77:=isAgg102,
 z77:=sizeOf102,
 v77:=zeroValue102}
def Tryz.Hn:Go.Shelf.Ren:=⟨λ|5=>26|7=>51|n=>n,λ|22=>3|3=>3|4=>4|n=>n,λ|n=>n⟩
theorem Tryz.VA:Go.Proofs.SlLaysC2.n5 prog Tryz.Hn:={
 mixed:=by kernel_rfl,
 f5:=⟨ "cmp.Compare[int]",by decide,func26.trans (congrArg some (by kernel_rfl))⟩,
 f7:=⟨ "cmp.isNaN[int]",by decide,func51.trans (congrArg some (by kernel_rfl))⟩,
 t3:=underlying3,
 a3:=isAgg3,
 z3:=sizeOf3,
 v3:=zeroValue3,
 t4:=underlying4,
 a4:=isAgg4,
 z4:=sizeOf4,
 v4:=zeroValue4,
 t22:=underlying3,
 a22:=isAgg3,
 z22:=sizeOf3,
 v22:=zeroValue3}
open Go.Shelf Go.Lib Go.Sort in
def Z7(x:dy×(Option Addr×Nat×Nat)):List Value:=[.int .i64 x.1.call,.slice x.2.1 x.2.2.1 x.2.2.2]
instance Z8:Inhabited dy:=⟨⟨0,[]⟩⟩
open Go.Shelf Go.Lib Go.Sort in
theorem Ph(a b:Int)(s1 s2:Option Addr)(n1 n2 k1 k2:Nat)(W:World):Calls prog 25 #[.agg #[.int .i64 a,.slice s1 n1 k1],.agg #[.int .i64 b,.slice s2 n2 k2]] W λe w'=>e= .returned (.int .i64 (Lib.compareInt a b))/\∃q os',w'=Sort.grow (W.drewN q) os':=by
 have hcon:=λW'=>AnyG.cmp_Compare_int Tryz.VA a b W'
 change ∀W',Calls prog 26 _ _ _ at hcon;generalize Lib.compareInt a b=r at hcon|-
 go_enter func25,ntmps25
 go_wp2_with (go_at_call 26;refine(hcon _).mono ?_;rintro e w' ⟨rfl,rfl⟩)
 go_ret
 exact⟨rfl,0,_,by rw[Sort.alloc_eq_grow,Sort.alloc_eq_grow,Sort.grow_grow];rfl⟩
open Go.Shelf Go.Lib Go.Sort in
theorem RK(x y:dy×(Option Addr×Nat×Nat)):ltOf (λx y:dy×(Option Addr×Nat×Nat)=>Lib.compareInt x.1.call y.1.call) x y=decide (x.1.call<y.1.call):=by
 unfold ltOf Lib.compareInt;by_cases h1:x.1.call<y.1.call
 .simp[h1]
 .by_cases h2:y.1.call<x.1.call<;>simp[h1,h2]
open Go.Shelf Go.Lib Go.Sort in
theorem acV:SWO (ltOf λx y:dy×(Option Addr×Nat×Nat)=>Lib.compareInt x.1.call y.1.call) where
 irrefl x:=by rw[RK];simp
 trans x y z h1 h2:=by rw[RK]at*;simp at*;omega
 ntrans x y z h1 h2:=by rw[RK]at*;simp at*;omega
open Go.Shelf Go.Lib Go.Sort in
theorem Pi(l:List dy)(hne:l≠[])(hl:l.length<=4194304){m:Mem}{id:Nat}(hb:cF m id=some (.row 2 (aa (l.map dy.enc)))){K:CV->Mem->Prop}(h:∀l':List dy,l'.Perm l->l'.Pairwise (λa b=>¬b.call<a.call)->K (.bD []) (aV m id (.row 2 (aa (l'.map dy.enc))))):ap prog 24 [.rv (.one (.row id 2 0 none)),.rv (.one (.fn 25 []))] m K:=by
 refine⟨⟨Tryz.f24,func24,rfl,by decide⟩,λρ w vs hM hvl hd=>?_⟩
 obtain⟨v0,h0,d0⟩:=hd 0 _ rfl;obtain⟨v1,h1,d1⟩:=hd 1 _ rfl;have hvs:vs=[v0,v1]:=by
  match vs,hvl with
  | [a,b],_=>simp at h0 h1;rw[h0,h1]
 rw[aT]at hb;obtain⟨hid,_,_,hlc,hcm,a,hv0,ha⟩:=(show bj ρ w none (.row id 2 0 none) v0 from d0);obtain⟨_,hv1⟩:=(show bj ρ w none (.fn 25 []) v1 from d1);obtain⟨hln,_,_,hsz,hcu⟩:=hM.bk id _ hb;have hlen:(ρ.aI (.aj id)).len=l.length:=by rw[<-hln];simp[aa]
 have hpos:0<l.length:=adQ.2 hne;have hcap:0<(ρ.aI (.aj id)).cap:=om;obtain⟨cur,hcur,hcsz,hcells⟩:=hcu hcap;have ha:=ha hcap;have hel:∀i(hi:i<l.length),∃x:Option Addr×Nat×Nat,cur[(ρ.aI (.aj id)).aq+i*2+0]? =some (.int .i64 l[i].call)/\cur[(ρ.aI (.aj id)).aq+i*2+1]? =some (.slice x.1 x.2.1 x.2.2)/\
   de ρ.S w (.sl 2 (l[i].bt.map mC.enc)) (.slice x.1 x.2.1 x.2.2):=by
  intro i hi;have hri:(aa (l.map dy.enc))[i]? =some (l[i].enc.map .ah):=by simp[aa,hi]
  obtain⟨u,hu,hdu⟩:=hcells i _ 0 _ hri rfl;obtain⟨u1,hu1,hdu1⟩:=hcells i _ 1 _ hri rfl;have e0:u= .int .i64 l[i].call:=by
   have hdu:de ρ.S w (.val (.int .i64 l[i].call)) u:=hdu;cases hdu with
   |val _ _=>rfl
  have hdu1:de ρ.S w (.sl 2 (l[i].bt.map mC.enc)) u1:=hdu1;obtain⟨b,n,c,e1⟩:∃b n c,u1=Value.slice b n c:=by
   generalize l[i].bt.map mC.enc=E at hdu1;cases hdu1 with
   |nil _ b c _=>exact⟨_,_,_,rfl⟩
   |sl _ _ b off c u _ _ _ _ _ _=>exact⟨_,_,_,rfl⟩
  subst e0 e1;exact⟨(b,n,c),hu,hu1,hdu1⟩
 obtain⟨X,hX⟩:∃X:Nat->Option Addr×Nat×Nat,∀i(hi:i<l.length),cur[(ρ.aI (.aj id)).aq+i*2+0]? =some (.int .i64 l[i].call)/\cur[(ρ.aI (.aj id)).aq+i*2+1]? =some (.slice (X i).1 (X i).2.1 (X i).2.2)/\
   de ρ.S w (.sl 2 (l[i].bt.map mC.enc)) (.slice (X i).1 (X i).2.1 (X i).2.2):=
  ⟨λi=>if hi:i<l.length then Classical.choose (hel i hi)else(none,0,0),λi hi=>by have:=Classical.choose_spec (hel i hi);simp only[dif_pos hi];exact this⟩
 obtain⟨d,hdd⟩:∃d:Array (dy×(Option Addr×Nat×Nat)),d=(l.zipIdx.map λp=>(p.1,X p.2)).toArray:=⟨_,rfl⟩
 have hds:d.size=l.length:=by simp[hdd]
 have hdg:∀i(hi:i<l.length),d[i]! =(l[i],X i):=by intro i hi;rw[getElem!_pos d i om];simp[hdd]
 have hdl:d.toList.map Prod.fst=l:=by rw[hdd,List.toList_toArray,abF];exact List.zipIdx_map_fst 0 l
 have hH:HoldsK Z7 2 w (ρ.aI (.aj id)).b (ρ.aI (.aj id)).aq d:=by
  intro j hj;rw[size_flatK,hds]at hj;have hi:j/2<l.length:=om;obtain⟨g0,g1,_⟩:=hX (j/2) hi;have hc:l.length*2<=(ρ.aI (.aj id)).cap*2:=om;rw[hcur.cell,get_flatK _ _ _ _ (by rw[hds];exact hj),hdg _ hi]
  refine⟨?_,hcur.qN om⟩;rcases Nat.mod_two_eq_zero_or_one j with e|e
  .rw[e,show(ρ.aI (.aj id)).aq+j=(ρ.aI (.aj id)).aq+j/2*2+0 by omega,g0];rfl
  .rw[e,show(ρ.aI (.aj id)).aq+j=(ρ.aI (.aj id)).aq+j/2*2+1 by omega,g1];rfl
 have eg:∀args w,(callFunc 25 args).run prog w= .ok (.enter 25 args) w:=enters_of func25 (by kernel_rfl) rfl
 have hblk:(ρ.aI (.aj id)).b<w.heap.size:=hcur.lt;have hcon:=AnyQ.slices_SortFunc Tryz.RJ 2 isAgg75 sizeOf75 Z7 (λ_=>rfl) (λx v hv=>by simp[Z7]at hv;rcases hv with rfl|rfl<;>rfl) (λx y=>Lib.compareInt x.1.call y.1.call) acV 25 #[] (ρ.aI (.aj id)).b (ρ.aI (.aj id)).aq (ρ.aI (.aj id)).cap d w eg
  (λ_ _ _ _ x y=>Ph x.1.call y.1.call x.2.1 y.2.1 x.2.2.1 y.2.2.1 x.2.2.2 y.2.2.2 _) hH hblk om
 change Calls prog 24 _ _ _ at hcon;have hargs:vs.toArray= #[.slice (some ⟨(ρ.aI (.aj id)).b,(ρ.aI (.aj id)).aq,none⟩) d.size (ρ.aI (.aj id)).cap,.func (.func 25) #[] #[]]:=by rw[hvs,hv0,hv1,ha,hds,<-hlen];simp
 rw[hargs];refine hcon.mono ?_;rintro e w' ⟨rfl,d',n,os,hp,hs,rfl⟩;obtain⟨hp1,_,hp2⟩:=hp;have hp2:d'.toList.Perm d.toList:=by
  have e1:d'.extract 0 d.size=d':=by rw[<-hp1];simp
  have e2:d.extract 0 d.size=d:=aE;rw[e1,e2]at hp2;exact hp2
 have hperm:(d'.toList.map Prod.fst).Perm l:=by have:=hp2.map Prod.fst;rwa [hdl]at this
 have hll:(d'.toList.map Prod.fst).length=l.length:=hperm.length_eq;have hsort:(d'.toList.map Prod.fst).Pairwise (λa b=>¬b.call<a.call):=by
  rw[ab4];intro i j hi hj hij;have hj2:j<d'.size:=by simpa using hj
  have:=hs i j (aaj _) hij om;rw[RK,getElem!_pos d' i om,getElem!_pos d' j hj2]at this;simpa using this
 have hmem:∀i,i<d'.size->∃k,∃hk:k<l.length,d'[i]! =(l[k],X k):=by
  intro i hi;have:d'[i]! ∈d.toList:=by rw[<-hp2.mem_iff,getElem!_pos d' i hi];exact adK.2 (Array.getElem_mem hi)
  obtain⟨k,hk⟩:=aaa this;obtain⟨hk1,hk2⟩:=Km.1 hk;have hk1:k<d.size:=by simpa using hk1
  refine⟨k,om,?_⟩;rw[<-hdg k om,getElem!_pos d k hk1,<-hk2];simp
 have hb2:=hb;obtain⟨hM',hX'⟩:=JV (m4:=aa ((d'.toList.map Prod.fst).map dy.enc)) (F:=flatK Z7 2 d') hM hb (by simpa[aa]using hpos) (by simp[aa];omega) (λcs hcs=>by
   simp only[aa,aal]at hcs;obtain⟨x,⟨p,_,rfl⟩,rfl⟩:=hcs;rfl) (by rw[size_flatK];simp[aa];omega) (λcs hcs c hc=>by
   simp only[aa,aal]at hcs;obtain⟨x,_,rfl⟩:=hcs;obtain⟨d,_,rfl⟩:=aal.1 hc;exact⟨d,rfl⟩) (λi cs j c hi hj=>by
   simp only[aa,Tm]at hi;cases ho:d'.toList[i]? with
   |none=>rw[ho]at hi;simp at hi
   |some y=>
    rw[ho]at hi;simp only[aaD,aav]at hi;subst hi;have hid':i<d'.size:=by have:=(Km.1 ho).1;simpa using this
    have hy:d'[i]! =y:=by rw[getElem!_pos d' i hid'];have:=(Km.1 ho).2;simpa using this
    obtain⟨k,hk,hyk⟩:=hmem i hid';rw[hy]at hyk;subst hyk;have hj2:j<2:=by have:=(Km.1 hj).1;simpa[dy.enc]using this
    rw[get_flatK _ _ _ _ om,show(i*2+j)/2=i by omega,show(i*2+j)%2=j by omega,hy]
    match j,hj2,hj with
    |0,_,hj=>cases hj;exact de.val _ rfl
    |1,_,hj=>cases hj;exact(hX k hk).2.2) n os
 rw[<-aY]at hM' hX';exact⟨_,.bD [],_,ρ,rfl,h _ hperm hsort,hM',⟨[],rfl,rfl,aE⟩,hX'⟩
def c17:LF:= ⟨22,[.tmp 2,.cell true 2 3],(.seq (.ai [qu 2 (.aM qe),qu 3 (.alloc [qd 0,qd 0])]) (.seq (.seq (.ai [qm 6 0,qu 7 (qc 22 [6]),qu 4 (.alloc [qd 0,qd 0]),qw (.store 2 4 7)]) (.seq (.ai [qf 8 0 4,ql 9 8,qu 10 (.aJ .neq 9 (qi 0))]) (.cond 10 (.seq (.bV [qL 11 2 4,qu 2 (.aM qe),qw (.store 2 3 11)] [(.cons 0 none (.cons 1 none (.cons 2 (some []) .nil)))]) .ret) .skip))) (.seq (.ai [qm 12 0,qu 13 (qc 23 [12]),qm 5 13]) (.seq (.ai [qm 14 5,qu 15 (qc 24 [14,(.c (.rv (.one (.fn 25 []))))])]) (.seq (.ai [qu 16 (.build [qd 0,qd 0,qd 0,qd 0] [(0,1,qi 1)]),qu 17 (.od 4 [qd 0,qd 0,qd 0,qd 0] 1 [(0,16)]),qm 18 5,qu 19 (qc 27 [18]),qu 20 (.pO 4 32 17 19),qu 21 (.build [qd 0,qd 0] []),qm 2 20,qw (.store 2 3 21)]) .ret)))))⟩
def c23:LF:= ⟨8,[.tmp 2],(.seq (.ai [qu 2 (.aM qe)]) (.seq (.seq (.ai [qm 3 0,qu 4 (.yP false 3)]) (.cond 4 (.seq (.ai [qu 2 (.aM qe)]) .ret) .skip)) (.seq (.ai [qu 5 (.od 2 [qd 0,.aO] 0 []),qm 6 0,qu 7 (.pO 2 32 5 6),qm 2 7]) .ret)))⟩
def c24:LF:= ⟨14,[],(.seq (.ai [qm 5 0,qu 6 (.len 1 5),qm 4 6]) (.ai [qm 7 0,qm 8 4,qm 9 4,qu 10 (.conv .u64 9),qu 11 (qc 50 [10]),qm 12 1,qu 13 (qc 49 [7,qi 0,8,11,12])]))⟩
def c49:LF:= ⟨148,[],(.seq (.ai [qu 10 (.aM (qb true))]) (.seq (.ai [qu 11 (.aM (qb true))]) (.block 0 (.loop (.block 1 (.seq (.ai [qm 21 2,qm 22 1,qu 23 (.aJ .sub 21 22),qm 12 23]) (.seq (.seq (.ai [qm 24 12,qu 25 (.aJ .leq 24 (qi 12))]) (.cond 25 (.seq (.ai [qm 26 0,qm 27 1,qm 28 2,qm 29 4,qu 30 (qc 85 [26,27,28,29])]) .ret) .skip)) (.seq (.seq (.ai [qm 31 3,qu 32 (.aJ .eql 31 (qi 0))]) (.cond 32 (.seq (.ai [qm 33 0,qm 34 1,qm 35 2,qm 36 4,qu 37 (qc 86 [33,34,35,36])]) .ret) .skip)) (.seq (.seq (.ai [qm 38 10,qu 39 (.un .not 38)]) (.cond 39 (.seq (.ai [qm 40 0,qm 41 1,qm 42 2,qm 43 4,qu 44 (qc 87 [40,41,42,43])]) (.ai [qm 45 3,qu 46 (.aJ .sub 45 (qi 1)),qm 3 46])) .skip)) (.seq (.ai [qm 48 0,qm 49 1,qm 50 2,qm 51 4,qu 52 (qc 88 [48,49,50,51]),qm 47 52,qu 53 (.ext 47 0),qu 54 (.ext 47 1),qm 13 53,qm 14 54]) (.seq (.seq (.ai [qm 55 14,qu 56 (.aJ .eql 55 (qi 2))]) (.cond 56 (.seq (.ai [qm 57 0,qm 58 1,qm 59 2,qm 60 4,qu 61 (qc 89 [57,58,59,60])]) (.seq (.ai [qm 62 2,qu 63 (.aJ .sub 62 (qi 1)),qm 64 13,qm 65 1,qu 66 (.aJ .sub 64 65),qu 67 (.aJ .sub 63 66),qm 13 67]) (.ai [qu 14 (.aM (qi 1))]))) .skip)) (.seq (.seq (.ai [qm 68 10,qm 69 68,qg 70 (.aM 11) 69 true,qu 71 (.pick 69 70 (qb false)),qm 72 71,qg 73 (.aM 14) 72 true,qg 74 (.aJ .eql 73 (qi 1)) 72 true,qu 75 (.pick 72 74 (qb false))]) (.cond 75 (.seq (.ai [qm 76 0,qm 77 1,qm 78 2,qm 79 4,qu 80 (qc 90 [76,77,78,79])]) (.cond 80 .ret .skip)) .skip)) (.seq (.seq (.bV [qm 81 1,qu 82 (.aJ .gtr 81 (qi 0)),qm 83 82,qg 84 (.aM 4) 83 true,qg 85 (.aM 0) 83 true,qg 86 (.aM 1) 83 true,qg 87 (.aJ .sub 86 (qi 1)) 83 true,qg 88 (.cz 2 85 87) 83 true,qg 89 (.load true 2 88) 83 true,qg 90 (.aM 0) 83 true,qg 91 (.aM 13) 83 true,qg 92 (.cz 2 90 91) 83 true,qg 93 (.load true 2 92) 83 true,qg 94 (.call 84 [89,93]) 83 true,qg 95 (.aJ .lss 94 (qi 0)) 83 true,qg 96 (.un .not 95) 83 true,qu 97 (.pick 83 96 (qb false))] [(eK 13 0 (.cons 13 (some []) (eK 3 14 .nil)))]) (.cond 97 (.seq (.ai [qm 98 0,qm 99 1,qm 100 2,qm 101 13,qm 102 4,qu 103 (qc 91 [98,99,100,101,102]),qm 15 103]) (.seq (.ai [qm 104 15,qm 1 104]) (.exit 1))) .skip)) (.seq (.ai [qm 106 0,qm 107 1,qm 108 2,qm 109 13,qm 110 4,qu 111 (qc 92 [106,107,108,109,110]),qm 105 111,qu 112 (.ext 105 0),qu 113 (.ext 105 1),qm 16 112,qm 17 113]) (.seq (.ai [qm 114 17,qm 11 114]) (.seq (.ai [qm 115 16,qm 116 1,qu 117 (.aJ .sub 115 116),qm 118 2,qm 119 16,qu 120 (.aJ .sub 118 119),qm 18 117,qm 19 120]) (.seq (.ai [qm 121 12,qu 122 (.aJ .quo 121 (qi 8)),qm 20 122]) (.seq (.ai [qm 123 18,qm 124 19,qu 125 (.aJ .lss 123 124)]) (.cond 125 (.seq (.ai [qm 126 18,qm 127 20,qu 128 (.aJ .geq 126 127),qm 10 128]) (.seq (.ai [qm 129 0,qm 130 1,qm 131 16,qm 132 3,qm 133 4,qu 134 (qc 49 [129,130,131,132,133])]) (.ai [qm 135 16,qu 136 (.aJ .add 135 (qi 1)),qm 1 136]))) (.seq (.ai [qm 137 19,qm 138 20,qu 139 (.aJ .geq 137 138),qm 10 139]) (.seq (.ai [qm 140 0,qm 141 16,qu 142 (.aJ .add 141 (qi 1)),qm 143 2,qm 144 3,qm 145 4,qu 146 (qc 49 [140,142,143,144,145])]) (.ai [qm 147 16,qm 2 147]))))))))))))))))))))))⟩
def c50:LF:= ⟨8,[.tmp 2],(.seq (.ai [qu 2 (.aM (qi 0))]) (.seq (.cond (qb false) (.seq (.ai [qm 3 0,qu 4 (.conv .u32 3),qu 5 (qc 93 [4]),qm 2 5]) .ret) .skip) (.seq (.ai [qm 6 0,qu 7 (qc 94 [6]),qm 2 7]) .ret)))⟩
def c85:LF:= ⟨53,[],(.seq (.ai [qm 10 1,qu 11 (.aJ .add 10 (qi 1)),qm 8 11]) (.block 0 (.loop (.seq (.seq (.ai [qm 12 8,qm 13 2,qu 14 (.aJ .lss 12 13)]) (.cond 14 .skip (.exit 0))) (.seq (.block 1 (.seq (.ai [qm 17 8,qm 9 17]) (.block 2 (.loop (.seq (.seq (.bV [qm 18 9,qm 19 1,qu 20 (.aJ .gtr 18 19),qm 21 20,qg 22 (.aM 3) 21 true,qg 23 (.aM 0) 21 true,qg 24 (.aM 9) 21 true,qg 25 (.cz 2 23 24) 21 true,qg 26 (.load true 2 25) 21 true,qg 27 (.aM 0) 21 true,qg 28 (.aM 9) 21 true,qg 29 (.aJ .sub 28 (qi 1)) 21 true,qg 30 (.cz 2 27 29) 21 true,qg 31 (.load true 2 30) 21 true,qg 32 (.call 22 [26,31]) 21 true,qg 33 (.aJ .lss 32 (qi 0)) 21 true,qu 34 (.pick 21 33 (qb false))] [(eK 14 0 (.cons 14 (some []) (.cons 15 none (.cons 16 none .nil))))]) (.cond 34 .skip (.exit 2))) (.seq (.block 3 (.bV [qm 37 0,qm 38 9,qm 39 0,qm 40 9,qu 41 (.aJ .sub 40 (qi 1)),qm 42 0,qm 43 9,qu 44 (.aJ .sub 43 (qi 1)),qu 45 (.cz 2 42 44),qL 46 2 45,qm 47 0,qm 48 9,qu 49 (.cz 2 47 48),qL 50 2 49,qu 51 (.cz 2 37 38),qw (.store 2 51 46),qu 52 (.cz 2 39 41),qw (.store 2 52 50)] [(eK 15 0 (.cons 15 (some []) (.cons 16 none (.cons 17 (some []) .nil))))])) (.ai [qm 35 9,qu 36 (.aJ .sub 35 (qi 1)),qm 9 36]))))))) (.ai [qm 15 8,qu 16 (.aJ .add 15 (qi 1)),qm 8 16]))))))⟩
def c94:LF:= ⟨25,[.tmp 2],(.seq (.ai [qu 2 (.aM (qi 0))]) (.seq (.seq (.ai [qm 3 0,qu 4 (.aJ .geq 3 (.c (.rv (.one (.ah (.val (.int .u64 (4294967296))))))))]) (.cond 4 (.seq (.ai [qm 5 0,qu 6 (.aJ .shr 5 (.c (.rv (.one (.ah (.val (.int .u64 (32)))))))),qm 0 6]) (.ai [qu 2 (.aM (qi 32))])) .skip)) (.seq (.seq (.ai [qm 7 0,qu 8 (.aJ .geq 7 (.c (.rv (.one (.ah (.val (.int .u64 (65536))))))))]) (.cond 8 (.seq (.ai [qm 9 0,qu 10 (.aJ .shr 9 (.c (.rv (.one (.ah (.val (.int .u64 (16)))))))),qm 0 10]) (.ai [qm 11 2,qu 12 (.aJ .add 11 (qi 16)),qm 2 12])) .skip)) (.seq (.seq (.ai [qm 13 0,qu 14 (.aJ .geq 13 (.c (.rv (.one (.ah (.val (.int .u64 (256))))))))]) (.cond 14 (.seq (.ai [qm 15 0,qu 16 (.aJ .shr 15 (.c (.rv (.one (.ah (.val (.int .u64 (8)))))))),qm 0 16]) (.ai [qm 17 2,qu 18 (.aJ .add 17 (qi 8)),qm 2 18])) .skip)) (.seq (.ai [qm 19 2,qm 20 0,qu 21 (.conv .u8 20),qu 22 (.CK (.c (.rv (.one (.ah (.val (.string ⟨#[0,1,2,2,3,3,3,3,4,4,4,4,4,4,4,4,5,5,5,5,5,5,5,5,5,5,5,5,5,5,5,5,6,6,6,6,6,6,6,6,6,6,6,6,6,6,6,6,6,6,6,6,6,6,6,6,6,6,6,6,6,6,6,6,7,7,7,7,7,7,7,7,7,7,7,7,7,7,7,7,7,7,7,7,7,7,7,7,7,7,7,7,7,7,7,7,7,7,7,7,7,7,7,7,7,7,7,7,7,7,7,7,7,7,7,7,7,7,7,7,7,7,7,7,7,7,7,7,8,8,8,8,8,8,8,8,8,8,8,8,8,8,8,8,8,8,8,8,8,8,8,8,8,8,8,8,8,8,8,8,8,8,8,8,8,8,8,8,8,8,8,8,8,8,8,8,8,8,8,8,8,8,8,8,8,8,8,8,8,8,8,8,8,8,8,8,8,8,8,8,8,8,8,8,8,8,8,8,8,8,8,8,8,8,8,8,8,8,8,8,8,8,8,8,8,8,8,8,8,8,8,8,8,8,8,8,8,8,8,8,8,8,8,8,8,8,8,8,8,8,8,8,8,8,8,8]⟩)))))) 21),qu 23 (.conv .i64 22),qu 24 (.aJ .add 19 23),qm 2 24]) .ret)))))⟩
theorem l23:bz prog Tryz.f23=some c23:=by kernel_rfl
theorem l24:bz prog Tryz.f24=some c24:=by kernel_rfl
theorem l49:bz prog Tryz.f49=some c49:=by kernel_rfl
theorem l50:bz prog Tryz.f50=some c50:=by kernel_rfl
theorem l85:bz prog f85=some c85:=by kernel_rfl
theorem l94:bz prog f94=some c94:=by kernel_rfl
theorem l17:bz prog f17=some c17:=by kernel_rfl
theorem RL{m:Mem}{K:CV->Mem->Prop}(h:K (am .i64 0) m):ap prog 94 [am .u64 0] m K:=
 bw (r0:=am .i64 0) func94 l94 rfl (aad rfl) (show body prog c94 [am .u64 0] [] (λr m=>r=am .i64 0)from rfl) rfl rfl h
theorem VB{m:Mem}{K:CV->Mem->Prop}(h:K (am .i64 0) m):ap prog 50 [am .u64 0] m K:=
 bw (r0:=am .i64 0) func50 l50 rfl (aad rfl) (show body prog c50 [am .u64 0] [] (λr m=>r=am .i64 0)from RL rfl) rfl rfl h
theorem Y7{m:Mem}{K:CV->Mem->Prop}(h:K (.bD []) m):ap prog 85 [fh [],am .i64 0,am .i64 0,.rv (.one (.fn 25 []))] m K:=by
 refine bw (r0:= .bD []) func85 l85 rfl (aad rfl) ?_ rfl rfl h;refine bc (λ_:Nat=>True) [0,1,2,3,8] (λ_=>[]) (λ_=>[]) (λ_=>0) 0 trivial ?_ (λ_ _=>?_)
 .refine View.o1 0 [] [] (.nil _)
 .rfl
theorem Y8{m:Mem}{K:CV->Mem->Prop}(h:K (.bD []) m):ap prog 49 [fh [],am .i64 0,am .i64 0,am .i64 0,.rv (.one (.fn 25 []))] m K:=by
 refine bw (r0:= .bD []) func49 l49 rfl (aad rfl) ?_ rfl rfl h;refine bc (λ_:Nat=>True) [0,1,2,3,4,10,11] (λ_=>[]) (λ_=>[]) (λ_=>0) 0 trivial ?_ (λ_ _=>?_)
 .refine View.o1 0 [] [] (.nil _)
 .refine Y7 ?_;rfl
theorem RM{m:Mem}{K:CV->Mem->Prop}(h:K (.bD []) m):ap prog 24 [fh [],.rv (.one (.fn 25 []))] m K:=by refine bw (r0:= .bD []) func24 l24 rfl (aad rfl) ?_ rfl rfl h;refine VB ?_;refine Y8 ?_;rfl
theorem Ey(l:List dy)(hl:l.length<=4194304):body prog c23 [fh l] [] (λr m=>cV m r (fh l)):=by
 have tw:((([]:List (List CC)).length+((l.map dy.enc).map λds=>ds.map CC.ah).length)*32)<=140737488355328:=by simp;omega
 refine aG (λh=>?_) (λh=>?_)
 .have hd:l=[]:=aag (by simpa using aai h)
  subst hd;exact⟨.rv (.one (.aO 2)),tw,.rv (.one (fk.fl rfl 0 none))⟩
 .exact⟨tw,.rv (.one (fk.fl rfl 0 none))⟩
theorem Li(l:List dy)(hl:l.length<=4194304){m:Mem}{K:CV->Mem->Prop}(h:K (fh l) m):ap prog 23 [fh l] m K:=
 bh (aZ func23 l23 (Ey l hl)) (by simp[fh,CV.dB,CC.dB]) λr m1 hf=>⟨_,hf,h⟩
theorem Cd(l:List dy)(dh:l≠[])(hl:l.length<=4194304):body prog c23 [fh l] [] (λr m=>∃r' m',View 0 ⟨[r],m⟩ ⟨[r'],m'⟩/\r'= .rv (.one (.row 0 2 0 none))/\m'=[.row 2 (aa (l.map dy.enc))]):=by
 have tw:((([]:List (List CC)).length+((l.map dy.enc).map λds=>ds.map CC.ah).length)*32)<=140737488355328:=by simp;omega
 refine ig ?_ ?_
 .have:(l.map dy.enc).length≠0:=by simp[dh]
  cases h:Nat.beq (l.map dy.enc).length 0 with
  |false=>rfl
  |true=>exact absurd (aai h) this
 .refine⟨tw,_,_,View.o 2 [1] [] (.eq rfl .nil) (.pt rfl rfl (.bL (by simp[aa,b9])) (.nil _)),rfl,rfl⟩
theorem Ho(l:List dy)(dh:l≠[])(hl:l.length<=4194304){m:Mem}{K:CV->Mem->Prop}(h:K (.rv (.one (.row m.length 2 0 none))) (m++ [.row 2 (aa (l.map dy.enc))])):ap prog 23 [fh l] m K:=by
 refine bu [] m.length rfl rfl rfl rfl (args0:=[fh l]) rfl (λi b' hi=>by simp at hi) (K0:=λr m=>r= .rv (.one (.row 0 2 0 none))/\m=[.row 2 (aa (l.map dy.enc))])
  (bJ (aZ func23 l23 (Cd l dh hl)) λr m1 h=>h) (λr m1 hr=>?_)
 obtain⟨rfl,rfl⟩:=hr;refine⟨aaj _,?_⟩;show K (.rv (.one (.row (m.length+(0-0)) 2 0 none))) (gJ m [Bk.bb _ _]);rw[cg,Bk.jG];exact h
theorem Pk{m:Mem}{a b:RV}{f:Int×Int}(h:fu m a b):cV m (.bD [a,.agg [.ah (.val (.int .i64 f.1)),.ah (.val (.int .i64 f.2))]]) (.bD [b,.agg [.ah (.val (.int .i64 f.1)),.ah (.val (.int .i64 f.2))]]):=by
 refine .bD rfl λi r r' h1 h2=>?_
 match i,h1,h2 with
 |0,h1,h2=>cases h1;cases h2;exact h
 |1,h1,h2=>cases h1;cases h2;exact fu.self rfl
def RN(l:List dH)(f:Int×Int):CV:= .bD [.one (.ah (yk l)),.agg [.ah (.val (.int .i64 f.1)),.ah (.val (.int .i64 f.2))]]
theorem Lj(l:List dy):body prog c17 [fh l] [] (λr m=>((dq l).1≠0->cV m r (RN [] (dq l)))/\((dq l).1=0->∃l',l'.Perm l/\rF l'/\cV m r (RN (nD l') (0,0)))):=by
 refine Pe l ?_;refine bx (λh=>?_) (λh=>?_)
 .refine⟨trivial,?_⟩;have h:(dq l).1≠0:=h;exact⟨λ_=>Pk (.one (.aO 4)),λh0=>absurd h0 h⟩
 have h:(dq l).1=0:=h;obtain⟨h30,hg,hd⟩:=Eu h;have pO:∀l':List dy,l'.Perm l->(1+(((io l'.length l').map dH.enc).map λds=>ds.map CC.ah).length)*32<=140737488355328:=by
  intro l' hp;have:=rG (n:=l'.length) (l:=l') (λp HP=>(hg p (hp.mem_iff.1 HP)).2.2.1) (by rw[hp.length_eq];exact h30) (Ym _)
  simp;omega
 by_cases dh:l=[]
 .subst dh;refine Li [] (by decide) ?_
  refine RM ?_;refine IU 0 [] (by decide) (by decide) aE ?_
  refine⟨by decide,λh0=>absurd h h0,λ_=>⟨[],.refl _,.nil,Pk (f:=(0,0)) (.one (fk.fl (ds:=(nD []).map dH.enc) rfl 0 none))⟩⟩
 .refine Ho l dh om ?_;refine Pi l dh om rfl λl' hp hs=>?_
  have hr:=Lg hs (zk hp hd);have A2:l'.length<=30:=by rw[hp.length_eq];exact h30
  refine pW (qB:=[fh l']) (m':=[.var [.ah (.val (.int .i64 0)),.ah (.val (.int .i64 0))],.var [.ah (.val (.int .i64 (dq l).1)),.ah (.val (.int .i64 (dq l).2))],.aS,.row 4 [[.ah (.val (.int .i64 1)),.ah (.val (.int .i64 0)),.ah (.val (.int .i64 0)),.ah (.val (.int .i64 0))]]])
   (View.o 4 [0,1,2,3] [2] (.put (rK.fQ 2 (l'.map dy.enc) rfl rfl) .nil) (.pe rfl rfl rfl (.pe rfl rfl rfl (.aS (.pm rfl rfl rfl))))) ?_
  refine IU l'.length l' (Ym _) A2 (λp HP=>(hg p (hp.mem_iff.1 HP)).2.2.1) ?_
  refine⟨pO l' hp,λh0=>absurd h h0,λ_=>⟨l',hp,hr,Pk (f:=(0,0)) (.one (fk.fl (ds:=(nD l').map dH.enc) ?_ 0 none))⟩⟩
  rfl
theorem RQ(l:List dy){m:Mem}{K:CV->Mem->Prop}(h1:(dq l).1≠0->K (RN [] (dq l)) m)(h2:(dq l).1=0->∀l':List dy,l'.Perm l->rF l'->K (RN (nD l') (0,0)) m):ap prog 17 [fh l] m K:=by
 refine bh (aZ func17 l17 (Lj l)) (by simp[fh,CV.dB,CC.dB]) λr m1 hf=>?_
 by_cases h:(dq l).1=0
 .obtain⟨l',hp,hr,hz⟩:=hf.2 h;exact⟨_,hz,h2 h l' hp hr⟩
 .exact⟨_,hf.1 h,h1 h⟩
def c18:LF:= ⟨10,[.cell true 3 0],(.seq (.ai [qu 0 (.alloc [.aO,.aO,.aO])]) (.seq (.ai [qu 1 (qc 28 []),qu 2 (.build [qd 0,qd 0] []),qu 3 (.od 2 [qd 0,qd 0] 1 [(0,2)]),qu 4 (.build [qd 0,qd 0] [(1,1,qi 4095)]),qu 5 (.build [(.ah (.val (.bool false))),qd 0,qd 0] [(0,1,qb true),(1,2,4)]),qu 6 (.od 3 [(.ah (.val (.bool false))),qd 0,qd 0] 1 [(0,5)]),qu 7 (.build [(.ah (.val (.bool false))),(.ah (.val (.bool false))),qd 0,.aO] [(0,1,qb true),(3,1,6)]),qu 8 (.od 4 [(.ah (.val (.bool false))),(.ah (.val (.bool false))),qd 0,.aO] 1 [(0,7)]),qu 9 (.build [.aO,.aO,.aO] [(0,1,1),(1,1,3),(2,1,8)]),qw (.store 3 0 9)]) .ret))⟩
theorem l18:bz prog f18=some c18:=by kernel_rfl
def gp:Obj:=⟨2,[],[],⟨#[]⟩,-1,[],-1,1,0⟩
def dS:Kr:=⟨[gp],[⟨0,0⟩],[⟨true,false,0,[⟨true,0,4095⟩]⟩]⟩
theorem VC{m:Mem}{Z:Nat->Prop}{p:Option Nat}:kN m Z p [.ah (.val (.int .i64 2)),.aO,.aO,.ah (.val (.string ⟨#[]⟩)),.ah (.val (.int .i64 (-1))),.aO,.ah (.val (.int .i64 (-1))),.ah (.val (.int .i64 1)),.ah (.val (.int .i64 0))] gp.enc:=
 .cons (.ah _) (.cons (.aO 1) (.cons (.aO 2) (.cons (.ah _) (.cons (.ah _) (.cons (.aO 4) (.cons (.ah _) (.cons (.ah _) (.cons (.ah _) .nil))))))))
theorem Pl:body prog c28 [] [] (λr m=>∃r' m',View 0 ⟨[r],m⟩ ⟨[r'],m'⟩/\r'=cC [gp]/\m'=[]):=
 ⟨_,[],View.o 1 [] [0] (.put (.rv (.one (.fQ (gZ.fQ (Z:=λk=>br [0] k=true) (.cons VC .nil) rfl rfl)))) .nil) (.nil _),rfl,rfl⟩
theorem VD{m:Mem}{K:CV->Mem->Prop}(h:K (cC [gp]) m):ap prog 28 [] m K:=by
 refine bh (K0:=λr m=>r=cC [gp]/\m=[]) (bJ (aZ func28 l28 Pl) λr m1 h=>h) aE λr m1 hr=>?_
 obtain⟨rfl,rfl⟩:=hr;exact⟨_,cV.self rfl,h⟩
theorem Ll:body prog c18 [] [] (λr m=>∃r' m',View 0 ⟨[r],m⟩ ⟨[r'],m'⟩/\r'=eI dS.l dS.ops dS.ps/\m'=[]):=by
 refine VD ?_;refine⟨_,[],View.o 4 [] [1,2,3] (.put (qC.agg (.cons (.bb (.ah _)) (.cons (.fQ (gZ.fQ (Z:=λk=>br [1,2,3] k=true) (.cons (.cons (.ah _) (.cons (.ah _) .nil)) .nil) rfl rfl))
  (.cons (.fQ (gZ.fQ (Z:=λk=>br [1,2,3] k=true) (.cons (.cons (.ah _) (.cons (.ah _) (.cons (.ah _) (.cons (gZ.fQ (.cons (.cons (.ah _) (.cons (.ah _) (.cons (.ah _) .nil))) .nil) rfl rfl) .nil)))) .nil) rfl rfl)) .nil)))) .nil) (.nil _),rfl,rfl⟩
theorem RS{m:Mem}{K:CV->Mem->Prop}(h:K (eI dS.l dS.ops dS.ps) m):ap prog 18 [] m K:=by
 refine bh (K0:=λr m=>r=eI dS.l dS.ops dS.ps/\m=[]) (bJ (aZ func18 l18 Ll) λr m1 h=>h) aE λr m1 hr=>?_
 obtain⟨rfl,rfl⟩:=hr;exact⟨_,cV.self rfl,h⟩
theorem yr:dN dS.l dS.ops dS.ps:=
 ⟨λo ho=>by simp[dS]at ho;subst ho;exact⟨⟨⟨[],rfl⟩,⟨[],rfl⟩,λq hq=>by simp[gp]at hq⟩,by simp[gp],by simp[gp],by simp[gp],λq hq=>by simp[gp]at hq⟩,by simp[dS],by simp[dS],by simp[dS],λp hp=>by simp[dS]at hp;subst hp;simp,by simp[dS]⟩
namespace Kn
theorem RT:KI dS:=by
 have hm:∀o,o∈dS.l->o=gp:=λo ho=>by simpa[dS]using ho
 have hp:∀x,x∈dS.ps->x=⟨true,false,0,[⟨true,0,4095⟩]⟩:=λx hx=>by simpa[dS]using hx
 refine⟨by simp[dS],by simp[dS],by simp[dS],yr.sm,yr.sl,yr.ne,λx hx hl=>?_,λx hx s hs hh=>?_,λo ho q hq=>?_,λo ho h5=>?_,λo ho=>?_,λo ho hk=>?_,λi o ho hk=>?_,λo ho=>?_,λo ho=>?_,?_⟩
 .rw[hp x hx]at hl;cases hl
 .rw[hp x hx]at hs;have:s=⟨true,0,4095⟩:=by simpa using hs
  subst this;exact⟨⟨by decide,by decide⟩,0,⟨0,0⟩,rfl,rfl,0,gp,rfl,rfl,by simp[gp]⟩
 .rw[hm o ho]at hq;cases hq
 .rw[hm o ho]at h5;simp[gp]at h5
 .rw[hm o ho];exact⟨rfl,List.Pairwise.nil,λ_=>rfl,λe he=>by cases he⟩
 .rw[hm o ho]at hk;simp[gp]at hk
 .rw[hm o (Tp ho)]at hk;simp[gp]at hk
 .have:o=⟨0,0⟩:=by simpa[dS]using ho
  subst this;exact⟨adC _,by show(0:Int)<=64;omega⟩
 .rw[hm o ho];simp[gp]
 .have one:∀(i:Nat)d,(dS.l.map vY)[i]? =some d->i=0/\d=vY gp:=λi d hd=>by
   match i,hd with
   |0,hd=>cases hd;exact⟨rfl,rfl⟩
   |n+1,hd=>simp[dS]at hd
  refine⟨λi d hd hz=>?_,⟨vY gp,rfl,rfl,rfl,rfl⟩,λi d e hd he=>?_,λi i' d d' e e' hd yX he=>?_,λi d hd _=>?_,λi d hd hz=>?_,λi d hd=>?_,λi d hd=>?_⟩
  .rw[(one i d hd).2]at hz;simp[vY,gp]at hz
  .rw[(one i d hd).2]at he;cases he
  .rw[(one i d hd).2]at he;cases he
  .rw[(one i d hd).1];exact .aj
  .rw[(one i d hd).2]at hz;simp[vY,gp]at hz
  .rw[(one i d hd).2];exact .inr rfl
  .rw[(one i d hd).2,(one i d hd).1];exact .inl rfl
def tj(cs:List Cl):CV:= .rv (.one (.ah (.sl 9 (cs.map Cl.enc))))
theorem Pm{cs:List Cl}{i:Nat}(h:i<cs.length):dD (cs.map Cl.enc) (i:Nat)=some (cs[i].enc):=by rw[bG,Tm,vU h];rfl
structure Pn(cs:List Cl):Prop where
 l:cs.length<=1048576
 d:∀c,c∈cs->c.data.length<=4194304
end Kn
namespace Kn
def clN:Cl:=⟨0,0,0,0,0,0,0,[],[]⟩
end Kn
namespace Kn
def kE(k:Kr):List Dt:=kC k.l k.ops k.ps
structure Y9(cs:List Cl):Prop where
 l:cs.length<=1048576
 d:∀c,c∈cs->c.data.length<=4194304
end Kn
namespace Kn
theorem wt{prog:List dH}{k:Kr}{c:Cl}(h:(iz prog k c).2.eS≠0):∃e,iz prog k c=(k,An.no e):=by
 unfold iz at h|-;split
 .exact⟨_,rfl⟩
 rename_i h1;rw[if_neg h1]at h;split
 .exact⟨_,rfl⟩
 rename_i h2;rw[if_neg h2]at h;split
 .exact⟨_,rfl⟩
 rename_i h3;rw[if_neg h3]at h;unfold P8 at h|-;split
 .exact⟨_,rfl⟩
 rename_i h4;rw[if_neg h4]at h;exact absurd h h4
end Kn
def c15:LF:= ⟨25,[.tmp 4],(.seq (.ai [qu 4 (.aM (qb false))]) (.seq (.ai [qm 8 0,qu 9 (qc 21 [8]),qm 10 1,qu 11 (qc 21 [10]),qu 5 (.alloc [(.ah (.val (.bool false))),(.ah (.val (.bool false))),(.ah (.val (.bool false))),(.ah (.val (.bool false))),(.ah (.val (.bool false))),(.ah (.val (.bool false))),(.ah (.val (.bool false))),(.ah (.val (.bool false))),(.ah (.val (.bool false))),(.ah (.val (.bool false))),(.ah (.val (.bool false))),(.ah (.val (.bool false)))]),qu 6 (.alloc [(.ah (.val (.bool false))),(.ah (.val (.bool false))),(.ah (.val (.bool false))),(.ah (.val (.bool false))),(.ah (.val (.bool false))),(.ah (.val (.bool false))),(.ah (.val (.bool false))),(.ah (.val (.bool false))),(.ah (.val (.bool false))),(.ah (.val (.bool false))),(.ah (.val (.bool false))),(.ah (.val (.bool false)))]),qw (.store 12 5 9),qw (.store 12 6 11)]) (.seq (.seq (.ai [qu 12 (.aM (qi 0))]) (.block 0 (.loop (.seq (.ai [qu 13 (.aJ .lss 12 (qi 12))]) (.seq (.cond 13 .skip (.exit 0)) (.seq (.block 1 (.seq (.ai [qm 14 12,qm 7 14]) (.seq (.ai [qm 15 7,qu 16 (.wv 12 1 5 15),ql 17 16,qm 18 17,qg 19 (.aM 7) 18 true,qg 20 (.wv 12 1 6 19) 18 true,qg 21 (.load false 1 20) 18 true,qg 22 (.un .not 21) 18 true,qu 23 (.pick 18 22 (qb false))]) (.cond 23 (.seq (.ai [qu 4 (.aM (qb false))]) .ret) .skip)))) (.ai [qu 24 (.aJ .add 12 (qi 1)),qm 12 24]))))))) (.seq (.ai [qu 4 (.aM (qb true))]) .ret))))⟩
namespace Kn
open Tb
theorem l21:bz prog Tryz.f21=some c21:=by kernel_rfl
def mD(n k:Nat):List Dt:=(List.range 12).map λi=>.val (.bool (decide (i<k)&&n.testBit i))
theorem Hp{n k:Nat}(h:k<12)(b:Bool)(hb:b=n.testBit k):((mD n k).map CC.ah).set k (.ah (.val (.bool b)))=(mD n (k+1)).map CC.ah:=by
 subst hb;apply abr;intro i;rw[aaW];simp only[mD,abF,Pj,List.length_range,Tm];by_cases hi:k=i
 .subst hi;rw[if_pos rfl,if_pos h,ade h];simp
 .rw[if_neg hi];rcases aaf i 12 with h2|h2
  .rw[ade h2];have:(i<k)↔(i<k+1):=om;simp[this]
  .rw[aaE (by simpa using h2)]
   rfl
theorem Za(n k:Nat):((((n/2^k:Nat):Int).tmod 2)==1)=n.testBit k:=by
 rw[show(2:Int)=((2:Nat):Int)from rfl,<-Int.ofNat_tmod,Nat.testBit,Nat.shiftRight_eq_div_pow];have h:n/2^k%2<2:=Nat.mod_lt _ om;have e:1&&&n/2^k=n/2^k%2:=by rw[Nat.and_comm,Nat.and_one_is_mod]
 rw[e];generalize n/2^k%2=x at h
 match x,h with
 |0,_=>rfl
 |1,_=>rfl
theorem Zb(n k:Nat)(hn:n<=4095):IntKind.i64.wrap (((n/2^k:Nat):Int).tdiv 2)=((n/2^(k+1):Nat):Int):=by
 have e:(((n/2^k:Nat):Int).tdiv 2)=((n/2^(k+1):Nat):Int):=by rw[show(2:Int)=((2:Nat):Int)from rfl,<-Int.ofNat_tdiv,Nat.div_div_eq_div_mul,Nat.pow_succ]
 rw[e];have:n/2^(k+1)<=n:=Nat.div_le_self _ _;exact mr om
def TI(n:Nat):CV:= .rv (.agg ((mD n 12).map CC.ah))
theorem Lm(n:Nat)(hn:n<=4095):body prog c21 [am .i64 n] [] (λr m=>r=TI n):=by
 refine ni (λk=>k<=12) (λk=>[(5,am .i64 (k:Nat)),(0,am .i64 ((n/2^k:Nat):Int)),(4,.aA),(6,.aA),(7,.aA),(8,.aA),(9,.aA),(10,.aA),(11,.aA),(12,.aA),(13,.aA),(14,.aA),(15,.aA)])
  (λk=>[.var ((mD 0 0).map CC.ah),.var ((mD n k).map CC.ah)]) (λk=>12-k) 0 (aaj _) ?_ (λk hk=>?_)
 .refine View.o 2 [0,1] [] ?_ ?_
  .repeat(first|exact .nil|refine .aA ?_|refine .eq rfl ?_|refine .eq (congrArg (λx:Nat=>am .i64 (x:Int)) (show n/2^0=n by simp)) ?_)
  .refine .put (by simp[br]) rfl (.gC ?_) (.put (by simp[br]) rfl (.gC ?_) (.nil _))
   .rfl
   .simp[mD,List.range,List.range.loop]
 .refine aG (λh=>?_) (λh=>?_)
  .have aC:k<12:=by have h:(k:Int)<12:=of_decide_eq_true h;omega
   refine af (bZ aC) ?_;have hw:fX ((mD n k).map CC.ah) (0+k*1) [.ah (.val (.bool ((((n/2^k:Nat):Int).tmod 2)==1)))]=some ((mD n (k+1)).map CC.ah):=by
    rw[show 0+k*1=k by omega,xq (by simp[mD];exact aC),Hp aC _ (Za n k)]
   refine af hw ?_;refine⟨k+1,aC,?_,View.o 2 [0,1] [] ?_ ?_⟩
   .show 12-(k+1)<12-k;omega
   .repeat(first|exact .nil|refine .aA ?_|refine .put (.bb (cj om).symm) ?_|refine .eq (congrArg (λx=>am .i64 x) (Zb n k hn).symm) ?_|refine .eq rfl ?_)
   .exact .put (by simp[br]) rfl (.gC rfl) (.put (by simp[br]) rfl (.gC rfl) (.nil _))
  .have d8:k=12:=by have h:¬(k:Int)<12:=of_decide_eq_false h;have:k<=12:=hk;omega
   subst d8;exact rfl
theorem IV(n:Nat)(hn:n<=4095){m:Mem}{K:CV->Mem->Prop}(h:K (TI n) m):ap prog 21 [am .i64 n] m K:=
 bw func21 l21 rfl (aad rfl) (Lm n hn) rfl rfl h
theorem l15:bz prog Tryz.f15=some c15:=by kernel_rfl
def zl(a b:Nat):Bool:=(List.range 12).all λk=>!(a.testBit k&& !b.testBit k)
theorem Ez{n k:Nat}(h:k<12):iU ((mD n 12).map CC.ah) (0+k*1) 1=some [.ah (.val (.bool (n.testBit k)))]:=by
 rw[show 0+k*1=k by omega]
 apply tW;simp only[mD,abF,Tm,ade h];simp[h]
theorem Ce(a b:Nat)(ha:a<=4095)(hb:b<=4095):body prog c15 [am .i64 a,am .i64 b] [] (λr m=>r=aD (zl a b)):=by
 refine IV a ha ?_;refine IV b hb ?_;refine ni (λk=>k<=12/\∀i,i<k->(a.testBit i&& !b.testBit i)=false) (λk=>[(12,am .i64 (k:Nat)),(7,.aA),(9,.aA),(11,.aA),(13,.aA),(14,.aA),(15,.aA),(16,.aA),(17,.aA),(18,.aA),(19,.aA),(20,.aA),(21,.aA),(22,.aA),(23,.aA),(24,.aA)])
  (λk=>[.var ((mD a 12).map CC.ah),.var ((mD b 12).map CC.ah)]) (λk=>12-k) 0 ⟨aaj _,λi h=>absurd h (aaU i)⟩ ?_ (λk hk=>?_)
 .refine View.o1 2 [0,1] [] ?_
  .exact .put (by simp[br]) rfl (.gC rfl) (.put (by simp[br]) rfl (.gC rfl) (.nil _))
 .refine aG (λh=>?_) (λh=>?_)
  .have aC:k<12:=by have h:(k:Int)<12:=of_decide_eq_true h;omega
   have gQ:(a.testBit k&& !b.testBit k)=true->zl a b=false:=by
    intro h;rw[zl,adB];exact⟨k,by simpa using aC,by simp only[h];decide⟩
   have go:(a.testBit k&& !b.testBit k)=false->∀i,i<k+1->(a.testBit i&& !b.testBit i)=false:=by
    intro h i hi;rcases aaf i k with h5|h5
    .exact hk.2 i h5
    .have:i=k:=om;rw[this];exact h
   refine af (bZ aC) ?_;refine af (Ez aC) ?_;refine aG (λh1=>?_) (λh1=>?_)
   .refine af (bZ aC) ?_;refine af (Ez aC) ?_;refine aG (λh2=>?_) (λh2=>?_)
    .show aD _=aD _;rw[gQ (by rw[h1];exact h2)]
    .refine⟨k+1,⟨aC,go (by rw[h1];exact h2)⟩,?_,View.o 2 [0,1] [] ?_ ?_⟩
     .show 12-(k+1)<12-k;omega
     .repeat(first|exact .nil|refine .aA ?_|refine .put (.bb (cj om).symm) ?_|refine .eq rfl ?_)
     .exact .put (by simp[br]) rfl (.gC rfl) (.put (by simp[br]) rfl (.gC rfl) (.nil _))
   .refine⟨k+1,⟨aC,go (by rw[h1];rfl)⟩,?_,View.o 2 [0,1] [] ?_ ?_⟩
    .show 12-(k+1)<12-k;omega
    .repeat(first|exact .nil|refine .aA ?_|refine .put (.bb (cj om).symm) ?_|refine .eq rfl ?_)
    .exact .put (by simp[br]) rfl (.gC rfl) (.put (by simp[br]) rfl (.gC rfl) (.nil _))
  .have d8:k=12:=by have h:¬(k:Int)<12:=of_decide_eq_false h;have:k<=12:=hk.1;omega
   subst d8;show aD _=aD _;have:zl a b=true:=by
    rw[zl,abd];intro i hi;rw[hk.2 i (by simpa using hi)];rfl
   rw[this]
theorem Hq(a b:Nat)(ha:a<=4095)(hb:b<=4095){m:Mem}{K:CV->Mem->Prop}(h:K (aD (zl a b)) m):ap prog 15 [am .i64 a,am .i64 b] m K:=
 bw func15 l15 rfl (aad rfl) (Ce a b ha hb) rfl rfl h
theorem Hr(a b:Nat)(ha:a<=4095)(hb:b<=4095):zl a b=Tb.cZ a b:=by
 have e1:BitVec.ofInt 64 (a:Int)=BitVec.ofNat 64 a:=aE;have e2:BitVec.ofInt 64 (b:Int)=BitVec.ofNat 64 b:=aE;have hx:∀i,((BitVec.ofNat 64 a&&& ~~~ BitVec.ofNat 64 b).toNat).testBit i=(a.testBit i&& !b.testBit i):=by
  intro i;rw[BitVec.testBit_toNat];rcases aaf i 64 with h|h
  .rw[BitVec.getLsbD_and,BitVec.getLsbD_not,BitVec.getLsbD_ofNat,BitVec.getLsbD_ofNat];simp[h]
  .have:a.testBit i=false:=Nat.testBit_lt_two_pow (aaI (by omega:a<2^12) (Nat.pow_le_pow_right om om))
   simp[this,BitVec.getLsbD_of_ge _ _ h]
 have acX:(BitVec.ofNat 64 a&&& ~~~ BitVec.ofNat 64 b).toNat<=a:=by rw[BitVec.toNat_and];refine abD Nat.and_le_left ?_;simp;omega
 rw[Tb.cZ,e1,e2,mr om];cases hs:zl a b
 .rw[zl,adB]at hs;obtain⟨k,_,hk⟩:=hs;have hk:(a.testBit k&& !b.testBit k)=true:=by
   cases h:(a.testBit k&& !b.testBit k)
   .rw[h]at hk;exact absurd rfl hk
   .rfl
  symm;rw[beq_eq_false_iff_ne];intro h0;have h0:(BitVec.ofNat 64 a&&& ~~~ BitVec.ofNat 64 b).toNat=0:=om;have:=hx k;rw[h0,hk]at this;simp at this
 .rw[zl,abd]at hs;symm;rw[beq_iff_eq];have:(BitVec.ofNat 64 a&&& ~~~ BitVec.ofNat 64 b).toNat=0:=by
   apply Nat.eq_of_testBit_eq;intro i;rw[hx i,Nat.zero_testBit];rcases aaf i 12 with h|h
   .have:=hs i (by simpa using h)
    cases h2:(a.testBit i&& !b.testBit i)
    .rfl
    .rw[h2]at this;cases this
   .have:a.testBit i=false:=Nat.testBit_lt_two_pow (aaI (by omega:a<2^12) (Nat.pow_le_pow_right om h))
    simp[this]
  omega
end Kn
namespace Kn
def nE(k v:Int):ME:=⟨.int .i64 k,.one (.ah (.val (.int .i64 v)))⟩
theorem IW(x:BitVec 64):BitVec.ofInt 64 (IntKind.i64.wrap (x.toNat:Int))=x:=by
 apply BitVec.eq_of_toNat_eq;have:=x.isLt;simp only[IntKind.wrap,IntKind.signed,IntKind.bits,BitVec.toNat_ofInt];simp only[adg,decide_eq_true_eq];split<;>omega
theorem rH{a b:Int}:Tb.cZ a b=true↔BitVec.ofInt 64 a&&& ~~~ BitVec.ofInt 64 b=0#64:=by
 unfold Tb.cZ;generalize BitVec.ofInt 64 a&&& ~~~ BitVec.ofInt 64 b=x;constructor
 .intro h;have h:IntKind.i64.wrap (x.toNat:Int)=0:=by simpa using h
  have e:=IW x;rw[h]at e;rw[<-e];rfl
 .intro h;rw[h];decide
theorem Zc{x y z:BitVec 64}(h:(x|||y)&&&z=0#64):x&&&z=0#64:=by
 apply BitVec.eq_of_getLsbD_eq;intro i hi;have hb:((x|||y)&&&z).getLsbD i=false:=by rw[h];simp
 rw[BitVec.getLsbD_and,BitVec.getLsbD_or]at hb;rw[BitVec.getLsbD_and];cases hx:x.getLsbD i with
 |false=>simp
 |true=>rw[hx]at hb;simp at hb;simp[hb]
theorem Zd(a b:Int):BitVec.ofInt 64 (Rk a b)=BitVec.ofInt 64 a|||BitVec.ofInt 64 b:=by rw[Rk,IW]
theorem pF{prog:List dH}{k:Kr}{c:Cl}(h:(iz prog k c).2.eS=0):∃p:Nat,c.ba=p/\∃hp:p<k.ps.length,k.ps[p].aL=true/\1<=c.ag/\c.ag<=22/\(eJ k p c).2.eS=0/\iz prog k c=(eB (eJ k p c).1,(eJ k p c).2):=by
 unfold iz at h|-;split at h
 .cases h
 rename_i h1;split at h
 .cases h
 rename_i h2;split at h
 .cases h
 rename_i h3;obtain⟨p,hc,hp,hl⟩:=ph (by simpa using h1)
 unfold P8 at h|-;split at h
 .rename_i h4;exact absurd h h4
 rename_i h4;rw[hc,Y6]at h h3 h4;rw[hc]at h1;refine⟨p,hc,hp,hl,om,om,h,?_⟩;rw[hc,if_neg h1,if_neg h2,Y6,if_neg h3,if_neg h4]
end Kn
namespace Kn
def LW(k:Kr):Prop:=eB k=k
theorem KI.NJ{k:Kr}(h:KI k):LW (eB k):=by obtain⟨a,c,h1,h2,h3⟩:=(gq h.kr).ex;obtain⟨b,hb⟩:=h2.left;obtain⟨a2,c2,g1,g2,g3⟩:=(gq h.O3.kr).ex;exact h3.NJ hb g1 g2 g3
theorem IX{k:Kr}(h:KI k):∃(y:Kr)(en:Bool),cW k.l k.ops k.ps y.l y.ops y.ps en:=by
 obtain⟨a,c,h1,h2,h3⟩:=(gq h.kr).ex;rcases BA h1 with rfl|⟨x,hx,_⟩
 .exact⟨c,_,h2⟩
 .exact⟨x,_,hx⟩
theorem LW.left{k:Kr}(hs:LW k)(h:KI k):∃b,Left k b:=by obtain⟨a,c,h1,h2,h3⟩:=(gq h.kr).ex;unfold LW at hs;rw[hs]at h3;obtain⟨b,hb⟩:=h2.left;obtain⟨y,en,hy⟩:=IX h;obtain⟨e1,e2,e3,rfl⟩:=h3.J7 hb hy;rw[e1,e2,e3]at hy;exact hy.left
theorem KI.Ze{x:Kr}(h:KI x)(hm:∀b,gY x.l x.ops x.ps b->(∀(i:Nat)o,x.l[i]? =some o->o.ag≠0->dp b.O i)/\(∀(i:Nat)o,x.ops[i]? =some o->¬dp b.P i->o=⟨-1,0⟩))(he:∀(t:Nat)y,x.ps[t]? =some y->iP x.l t y=false):eB x=Kb x:=by
 obtain⟨y,en,hy⟩:=IX h;have hid:y.l=x.l/\y.ops=x.ops/\y.ps=x.ps/\en=false:=by
  obtain⟨bd,hbd,hP1,CG⟩:=hy.ex;obtain⟨m1,m2⟩:=hm bd hbd;have jv:∀i,e7 bd x.l i=false:=λi=>by
   unfold e7;cases hi:x.l[i]? with
   |none=>rfl
   |some o=>
    by_cases hk:o.ag=0
    .simp[hk]
    .have:bd.O[i]? =some true:=m1 i o hi hk;simp[this]
  have hL:y.l=x.l:=hP1.id λt o _=>by
   unfold cD;rw[jv t];have:mz bd x.l x.l.length o.bp=false:=by unfold mz;rw[jv];simp
   rw[this];simp
  have vS:=hy.pr;have qD:=hy.en;rw[hL]at vS qD;refine⟨hL,CG.id λt o ho=>?_,vS.id λt o ho=>?_,?_⟩
  .unfold Bw;split
   .rename_i hh;have hn:¬dp bd.P t:=by intro NH;have NH:bd.P[t]? =some true:=NH;simp[NH]at hh
    exact(m2 t o ho hn).symm
   .rfl
  .simp[yL,he t o ho]
  .rw[qD];cases kL:jx x.l x.ps x.ps.length with
   |false=>rfl
   |true=>
    unfold jx at kL;rw[abc]at kL;obtain⟨t,ht,By⟩:=kL;have HS:t<x.ps.length:=by simpa using ht
    rw[vU HS]at By;have By:iP x.l t x.ps[t]=true:=By;rw[he t _ (vU HS)]at By;cases By
 obtain⟨e1,e2,e3,rfl⟩:=hid;rw[e1,e2,e3]at hy;exact J8.A8 (gq h.kr) ⟨x,x,.refl,hy,F9 x⟩
theorem yu{x:Kr}{t:Nat}{y:bi}(hy:x.ps[t]? =some y)(hl:y.aL=true):(Kb x).ps[t]? =some y:=by
 obtain⟨n1,n2,n3,P,t1,t2,hP,t3,e⟩:=(F9 x).ex;rw[e];have Ad:P[t]? =some y:=by rw[hP.2 t y hy];unfold tx qZ;simp[hl]
 show(P.take n3)[t]? =some y;rcases aaf t n3 with a|a
 .rw[abV a];exact Ad
 .have:=t3.t.dr t y a Ad;unfold qR at this;simp[hl]at this
theorem yv{l:List eh}{o r:Int}(h:(fw l o r).2.2=0):(⟨true,o,r⟩:eh)∈(fw l o r).1/\∀s,s∈l->s.has=true->s∈(fw l o r).1:=by
 unfold fw at h|-;simp only[]at h|-;unfold Tb.iR at h|-;split at h
 .cases h
 rename_i h1;rw[if_neg h1];split
 .rename_i k hk;obtain⟨a1,a2,a3⟩:=aaN.1 hk;refine⟨aal.2 ⟨⟨true,⟨o,r⟩⟩,List.mem_set a1 _,rfl⟩,λs hs hh=>?_⟩
  refine aal.2 ⟨jm s,?_,rfl⟩;obtain⟨i,hi⟩:=aaa (adP (f:=jm) hs);refine Tp (i:=i) ?_;rw[U7 λe=>?_]
  .exact hi
  .subst e;rw[vU a1]at hi;rw[adN hi]at a2;simp[jm,hh]at a2
 .rename_i hk;rw[hk]at h;simp only[]at h;split at h
  .cases h
  rename_i h2;rw[if_neg h2];refine⟨aal.2 ⟨⟨true,⟨o,r⟩⟩,aE,rfl⟩,λs hs hh=>aal.2 ⟨jm s,?_,rfl⟩⟩
  exact adO _ (adP hs)
structure TJ(k:Kr)(p:Nat)(x:bi)(bm bU:Int)(R:Kr)(i:Nat)(S:List eh):Prop where
 l:R.l=k.l
 o:∀m:Nat,R.ops[m]? =if m=i then some ⟨bm,0⟩else k.ops[m]?
 yS:∀o,k.ops[i]? =some o->o.bm<0
 ps:R.ps=cS k.ps p S
 new:(⟨true,i,bU⟩:eh)∈S
 old:∀s,s∈x.aQ->s.has=true->s∈S
 all:∀s,s∈S->s∈x.aQ\/s=⟨true,i,bU⟩
theorem jj{k:Kr}{p:Nat}{x:bi}(hp:k.ps[p]? =some x){bm bU:Int}(he:(aF k p bm bU).2.2=0):∃i S,TJ k p x bm bU (aF k p bm bU).1 i S:=by
 have uj:an k.ps p=x.aQ:=by rw[an,hp]
 unfold aF at he|-;split at he
 .cases he
 rename_i h1;rw[if_neg h1];split at he
 .rename_i h2;exact absurd he h2
 rename_i h2;rw[if_neg h2];have h2:(fw (an k.ps p) (cY k.ops) bU).2.2=0:=Yk h2;rw[uj]at h2|-;obtain⟨c1,c2,c3⟩:=oc h2;obtain⟨d1,d2⟩:=yv h2;refine⟨cY k.ops,(fw x.aQ (cY k.ops) bU).1,rfl,λn=>?_,λo hx=>?_,rfl,d1,d2,c3⟩
 .show(jy k.ops (cY k.ops) ⟨bm,0⟩)[n]? =_;unfold jy;split
  .rename_i e;rw[e];by_cases hn:n=k.ops.length
   .subst hn;rw[if_pos rfl,ZZ (Ym _)];simp
   .rw[if_neg hn];rcases aaf n k.ops.length with a|a
    .exact aac a
    .rw[ZZ a,aaE a];cases e2:n-k.ops.length with
     |zero=>omega
     |succ m=>rfl
  .rename_i e;have hi:cY k.ops<k.ops.length\/cY k.ops=k.ops.length:=by
    unfold cY;cases hf:EW k.ops with
    |none=>exact .inr rfl
    |some i=>exact .inl (BG hf)
   have aC:cY k.ops<k.ops.length:=om;by_cases hn:n=cY k.ops
   .subst hn;rw[if_pos rfl,TH aC]
   .rw[if_neg hn,U7 (λa=>hn a.symm)]
 .unfold cY at hx;cases hf:EW k.ops with
  |none=>
   rw[hf]at hx;rw[show(none:Option Nat).getD k.ops.length=k.ops.length from rfl,aaE (Ym _)]at hx;cases hx
  |some i=>
   rw[hf]at hx;obtain⟨a1,a2,_⟩:=aaN.1 hf;rw[show(some i).getD k.ops.length=i from rfl,vU a1]at hx;cases hx;simpa using a2
theorem kn{ps:List bi}{p t:Nat}(h:t≠p)(l:List eh):(cS ps p l)[t]? =ps[t]? :=by
 unfold cS;split
 .exact U7 λe=>h e.symm
 .rfl
theorem KI.Zf{k:Kr}(h:KI k){b:Mk}(hb:gY k.l k.ops k.ps b){c:Nat}(hc:dp b.P c){o:bH}(ho:k.ops[c]? =some o):0<=o.bm:=by
 have cap:∀(z r:Int),fO k z r->∀c,vP k.ops z c->∀o,k.ops[c]? =some o->0<=o.bm:=λz r hz c hv o ho=>by obtain⟨-,n,o',rfl,h1,j,x,h2,-⟩:=hz;have e:(n:Int)=c:=hv.1;have:n=c:=om;subst this;rw[h1]at ho;cases ho;omega
 have ir:=hb.oq (λ_=>True) (λc=>∀o,k.ops[c]? =some o->0<=o.bm) ⟨λ_ _ _ _ _ _ _ _=>trivial,λi o _ ho z c hz hv=>?_,λ_ _ _ _ _ _=>trivial⟩ ⟨λ_ _=>trivial,λp pr hp bC s hs hh c hv=>?_⟩
 .exact ir.2 c hc o ho
 .obtain⟨q,hq,hh,rfl⟩:=hz;exact cap _ _ (h.qu o (Tp ho) q hq hh) c hv
 .exact cap _ _ (h.cap pr (Tp hp) s hs hh) c hv
end Kn
namespace Kn
theorem Cf(k:Kr)(l:List Obj)(e:Int):(bv k l e).ps=k.ps:=by unfold bv;split<;>rfl
theorem uI(k:Kr)(f:R4)(o:Obj):(b7 k f o).1.ps=k.ps:=by
 unfold b7;split
 .rfl
 .exact Cf _ _ _
theorem Ln(k:Kr)(c:Cl)(f:R4):(bT k c f).1.ps=k.ps:=by
 unfold bT;split
 .rfl
 split
 .split
  .rfl
  .exact uI _ _ _
 split
 .rfl
 .rfl
theorem Po(k:Kr)(p:Nat)(c:Cl):(gg k p c).1.ps=k.ps:=by
 unfold gg kI;split
 .rfl
 split
 .unfold py;split<;>rfl
 split
 .unfold mP;split<;>rfl
 .unfold n8;split<;>rfl
theorem RU(k:Kr)(p:Nat)(c:Cl):(iJ k p c).1.ps=k.ps:=by
 unfold iJ OL il;simp only[];split
 .rfl
 split
 .rfl
 unfold mA;split
 .rfl
 split
 .rfl
 split
 .split
  .rfl
  .exact Cf _ _ _
 split
 .rfl
 split
 .exact uI _ _ _
 .exact uI _ _ _
theorem RW(k:Kr)(p:Nat)(c:Cl):(gF k p c).1.ps=k.ps:=by
 unfold gF s9;split
 .rfl
 unfold qI;split
 .split
  .rfl
  .exact Cf _ _ _
 .exact Cf _ _ _
theorem EA{k:Kr}(h:KI k):i5 k.ps (eB k).ps:=by obtain⟨a,c,h1,h2,h3⟩:=(gq h.kr).ex;exact(xH h.kr h1 h2 h3).2.1
theorem RX{prog:List dH}{k:Kr}(h:KI k)(hs:LW k)(c:Cl):LW (iz prog k c).1:=by
 by_cases he:(iz prog k c).2.eS=0
 .obtain⟨p,hc,hp,hl,-,-,ho,e⟩:=pF he;rw[e];exact(h.op (vU hp) hl (c:=c) ho).NJ
 .obtain⟨e,h2⟩:=wt he;rw[h2];exact hs
theorem Pp:LW dS:=by unfold LW;kernel_rfl
end Kn
namespace Kn
structure Sp where
 c:Int
 p:Int
 s:Int
 h:Int
 f:Int
 g:Int
 r:Int
 o:Int
def Sp.enc(x:Sp):List Dt:=[.val (.int .i64 x.c),.val (.int .i64 x.p),.val (.int .i64 x.s),.val (.int .i64 x.h),.val (.int .i64 x.f),.val (.int .i64 x.g),.val (.int .i64 x.r),.val (.int .i64 x.o)]
abbrev Wt:=List (Int×List (Int×Int))
def wE(e:Int×Int):List Dt:=[.val (.int .i64 e.1),.val (.int .i64 e.2)]
def wM(e:Int×List (Int×Int)):MO:=⟨.int .i64 e.1,.ei (e.2.map wE)⟩
def pG(W:Wt):List MO:=W.map wM
def gH(x:Int):Wt->Option (List (Int×Int))
 | []=>none
 |e::r=>if x=e.1 then some e.2 else gH x r
def E3(x:Int):Wt->Nat->Option (Nat×List (Int×Int))
 | [],_=>none
 |e::r,n=>if x=e.1 then some (n,e.2)else E3 x r (n+1)
def jO(x:Int)(v:List (Int×Int)):Wt->Wt
 | []=>[(x,v)]
 |e::r=>if x=e.1 then(x,v)::r else e::jO x v r
def gk(l:List Obj)(x:Int):Bool:=match l[x.toNat]? with|some o=>decide (o.ag=4)|none=>false
def tk(l:List Obj)(W:Wt):Wt:=W.filter λe=>gk l e.1
def dt(k:Kr)(c:Int)(p:Nat)(fd h f g:Int):List Sp:=
 if(cH (an k.ps p) fd).2≠0 then []else [⟨c,p,fd,h,f,g,(cH (an k.ps p) fd).1.2,dR k.ops (cH (an k.ps p) fd).1.1⟩]
def lO(l:List Obj)(z:Int):Int:=match l[z.toNat]? with|some o=>o.bp|none=>0
def lP(k:Kr)(p:Nat)(fd:Int):Int:=dR k.ops (cH (an k.ps p) fd).1.1
def zm(l:List eh):List Int:=Tb.l6 0 (l.map jm)
def eR(k:Kr)(c:Int)(n:Nat)(f:Int)(L:List Int):List Sp:=L.flatMap λfd=>dt k c n fd 3 f fd
def dK(i:Int)(p:Nat)(c:Cl)(a:An)(b k:Kr)(W:Wt):Wt×List Sp:=
 if c.ag=2 then(W,dt k i p a.n 1 (-1) 0)
 else if c.ag=3\/c.ag=8 then(W,dt k i p a.n 3 c.ba c.fd)
 else if c.ag=9 then(W,dt k i p c.fd 3 c.ba c.fd)
 else if c.ag=15 then(W,dt k i p a.n 2 (-1) 0++dt k i p a.m 2 (-1) 0)
 else if c.ag=16 then(jO (lO b.l (lP b p c.fd)) ((gH (lO b.l (lP b p c.fd)) W).getD []++ [(c.ba,c.fE)]) W,[])
 else if c.ag=17 then
  (match gH (lP b p c.fd) W with
   |some (x::r)=>(jO (lP b p c.fd) r W,if a.m>=0 then dt k i p a.m 3 x.1 x.2 else [])
   |_=>(W,[]))
 else if c.ag=18 then(W,eR k i a.n.toNat c.ba (zm (an b.ps p))++dt k i p a.m 2 (-1) 0)
 else(W,[])
structure Gs where
 k:Kr
 W:Wt
 out:List Sp
def kO(prog:List dH)(i:Nat)(c:Cl)(g:Gs):Gs:=
 let d:=iz prog g.k c;let s:=if d.2.eS=0 then dK i c.ba.toNat c d.2 g.k d.1 g.W else(g.W,[])
 ⟨d.1,tk d.1.l s.1,g.out++s.2⟩
def lQ(prog:List dH)(g:Gs):Nat->List Cl->Gs
 |_,[]=>g
 |i,c::r=>lQ prog (kO prog i c g) (i+1) r
theorem AG(prog:List dH):∀(cs:List Cl)(g:Gs)(i:Nat)(c:Cl),lQ prog g i (cs++ [c])=kO prog (i+cs.length) c (lQ prog g i cs)
 | [],g,i,c=>rfl
 |x::r,g,i,c=>by
  show lQ prog (kO prog i x g) (i+1) (r++ [c])=_;rw[AG prog r];show kO prog (i+1+r.length) c _=kO prog (i+(r.length+1)) c _;rw[show i+1+r.length=i+(r.length+1) by omega]
  rfl
theorem tm(x:Int):∀(W:Wt)(n:Nat),iV (.int .i64 x) (pG W) n=some ((E3 x W n).map λe=>(e.1,.ei (e.2.map wE)))
 | [],n=>rfl
 |e::r,n=>by
  have hq:gz (.int .i64 x) (wM e).key=some (x==e.1):=rfl;show(match gz (.int .i64 x) (wM e).key with|some true=>some (some (n,(wM e).val))|some false=>iV (.int .i64 x) (pG r) (n+1)|none=>none)=_
  rw[hq];by_cases h:x=e.1
  .rw[show(x==e.1)=true by simpa using h,E3,if_pos h];rfl
  .rw[show(x==e.1)=false by simpa using h,E3,if_neg h]
   exact tm x r (n+1)
theorem Cg(x:Int):∀(W:Wt)(n:Nat),(E3 x W n).map (·.2)=gH x W
 | [],_=>rfl
 |e::r,n=>by
  rw[E3,gH];split
  .rfl
  .exact Cg x r (n+1)
theorem Ch(x:Int):∀(W:Wt)(n i:Nat)(v:List (Int×Int)),E3 x W n=some (i,v)->n<=i/\W[i-n]? =some (x,v)
 | [],_,_,_,h=>by cases h
 |e::r,n,i,v,h=>by
  rw[E3]at h;split at h
  .rename_i hx;cases h;exact⟨Ym _,by obtain⟨a,b⟩:=e;simp at hx|-;exact hx.symm⟩
  .obtain⟨h1,h2⟩:=Ch x r (n+1) i v h;exact⟨om,by rw[show i-n=(i-(n+1))+1 by omega];exact h2⟩
theorem IY(x:Int)(v:List (Int×Int)):∀W:Wt,mU (.int .i64 x) (.ei (v.map wE)) (pG W)=some (pG (jO x v W))
 | []=>rfl
 |e::r=>by
  have ih:=IY x v r;rw[pG]at ih;rw[pG,aaL,jO,mU,show gz (.int .i64 x) (wM e).key=some (x==e.1)from rfl];by_cases h:x=e.1
  .rw[show(x==e.1)=true by simpa using h,if_pos h];rfl
  .rw[show(x==e.1)=false by simpa using h,if_neg h]
   simp only;rw[ih];rfl
theorem Ci(x:Int)(v:List (Int×Int))(m:MV):∀(W:Wt)(n i:Nat)(u:List (Int×Int)),E3 x W n=some (i,u)->
  mU (.int .i64 x) (.ei (v.map wE)) ((pG W).set (i-n) ⟨.int .i64 x,m⟩)=some (pG (jO x v W))
 | [],_,_,_,h=>by cases h
 |e::r,n,i,u,h=>by
  rw[E3]at h;split at h
  .rename_i hx;cases h;rw[ac3,pG,aaL,adW,jO,if_pos hx,mU,show gz (.int .i64 x) (.int .i64 x)=some (x==x)from rfl,show(x==x)=true by simp]
   rfl
  .rename_i hx;obtain⟨h1,h2⟩:=Ch x r (n+1) i u h;have ih:=Ci x v m r (n+1) i u h;rw[pG]at ih;rw[pG,aaL,show i-n=(i-(n+1))+1 by omega,List.set_cons_succ,jO,if_neg hx,mU,show gz (.int .i64 x) (wM e).key=some (x==e.1)from rfl,show(x==e.1)=false by simpa using hx]
   simp only;rw[ih];rfl
theorem EB(x:Int)(m:MV):∀(W:Wt)(n i:Nat)(u:List (Int×Int)),E3 x W n=some (i,u)->iV (.int .i64 x) ((pG W).set (i-n) ⟨.int .i64 x,m⟩) n=some (some (i,m))
 | [],_,_,_,h=>by cases h
 |e::r,n,i,u,h=>by
  rw[E3]at h;split at h
  .rename_i hx;cases h;rw[ac3,pG,aaL,adW,iV,show gz (.int .i64 x) (.int .i64 x)=some (x==x)from rfl,show(x==x)=true by simp]
  .rename_i hx;obtain⟨h1,h2⟩:=Ch x r (n+1) i u h;have ih:=EB x m r (n+1) i u h;rw[pG]at ih;rw[pG,aaL,show i-n=(i-(n+1))+1 by omega,List.set_cons_succ,iV,show gz (.int .i64 x) (wM e).key=some (x==e.1)from rfl,show(x==e.1)=false by simpa using hx]
   exact ih
end Kn
def c42:LF:= ⟨60,[],(.seq (.ai [qm 17 0,qu 18 (.aP 17),qf 19 0 18,qf 20 2 19,ql 21 20,qm 22 2,qu 23 (.cz 4 21 22),qf 24 3 23,ql 25 24,qm 26 3,qu 27 (qc 73 [25,26]),qm 16 27,qu 28 (.ext 16 0),qu 29 (.ext 16 1),qu 14 (.alloc [qd 0,qd 0]),qw (.store 2 14 28),qm 15 29]) (.seq (.seq (.ai [qm 30 15,qu 31 (.aJ .neq 30 (qi 0))]) (.cond 31 .ret .skip)) (.bV [qm 32 0,qm 33 0,qu 34 (.aP 33),qf 35 4 34,ql 36 35,qm 37 1,qm 38 2,qm 39 3,qm 40 4,qm 41 5,qm 42 6,qf 43 1 14,ql 44 43,qm 45 0,qu 46 (.aP 45),qf 47 0 46,qf 48 1 47,ql 49 48,qf 50 0 14,ql 51 50,qu 52 (.cz 2 49 51),qf 53 0 52,ql 54 53,qu 55 (.build [qd 0,qd 0,qd 0,qd 0,qd 0,qd 0,qd 0,qd 0] [(0,1,37),(1,1,38),(2,1,39),(3,1,40),(4,1,41),(5,1,42),(6,1,44),(7,1,54)]),qu 56 (.od 8 [qd 0,qd 0,qd 0,qd 0,qd 0,qd 0,qd 0,qd 0] 1 [(0,55)]),qu 57 (.pO 8 64 36 56),qu 58 (.aP 32),qf 59 4 58,qw (.store 1 59 57)] [(eK 24 0 (.cons 24 (some [4]) (.cons 25 (some []) (.cons 26 none (.cons 27 none (.cons 28 (some []) .nil))))))])))⟩
def c43:LF:= ⟨42,[.tmp 6,.tmp 7],(.seq (.ai [qu 6 (.aM (qi 0)),qu 7 (.aM (qi 0))]) (.seq (.ai [qm 12 0,qu 13 (.aP 12),qf 14 2 13,ql 15 14,qm 16 1,qu 17 (.cz 4 15 16),qf 18 3 17,ql 19 18,qm 20 2,qu 21 (qc 73 [19,20]),qm 11 21,qu 22 (.ext 11 0),qu 23 (.ext 11 1),qu 8 (.alloc [qd 0,qd 0]),qw (.store 2 8 22),qm 9 23]) (.seq (.bV [qm 24 0,qu 25 (.aP 24),qf 26 1 25,ql 27 26,qf 28 0 8,ql 29 28,qu 30 (.cz 2 27 29),qf 31 0 30,ql 32 31,qm 10 32] [eK 10 0 .nil]) (.seq (.bV [qm 33 10,qm 34 0,qu 35 (.aP 34),qf 36 0 35,ql 37 36,qm 38 10,qu 39 (.cz 9 37 38),qf 40 4 39,ql 41 40,qm 6 33,qm 7 41] [eK 11 0 .nil]) .ret))))⟩
namespace Kn
def gB(k:Kr)(i j:Nat):Bk:= .var [.ah (dm k.l),.ah (ff k.ops),.ah (gG k.ps),.map i,.row j 8 0 none]
def e8(l:List Sp):Bk:= .row 8 (aa (l.map Sp.enc))
theorem jA(k:Kr)(i j:Nat):gB k i j≠.aS:=by intro h;cases h
theorem KI.cH{k:Kr}(hk:KI k){p:Nat}(hp:p<k.ps.length){fd:Int}(h:(cH (an k.ps p) fd).2=0):∃(n j:Nat),(Kn.cH (an k.ps p) fd).1.1=n/\n<k.ops.length/\dR k.ops n=j/\j<k.l.length:=by
 obtain⟨i,s,_,hs,hh,he,_⟩:=iK h;have hs:=Tp hs;rw[eD hp]at hs;obtain⟨_,n,o,h1,h2,h3⟩:=hk.cap _ (aaw hp) s hs hh;obtain⟨j,h4,h5⟩:∃j:Nat,o.bm=j/\j<k.l.length:=by obtain⟨j,x,h4,h5,_⟩:=h3;exact⟨j,h4,(Km.1 h5).1⟩
 refine⟨n,j,by rw[he];exact h1,(Km.1 h2).1,?_,h5⟩
 rw[dR,Y6,h2];exact h4
def lR(W:Wt):Bk:= .mo 2 (pG W) none
theorem IZ(Y:Nat->Nat)(W:Wt):(pG W).map (MO.bb Y)=pG W:=by rw[pG,abF];rfl
theorem fG(Y:Nat->Nat)(W:Wt):(lR W).bb Y=lR W:=by show Bk.mo 2 ((pG W).map (MO.bb Y)) none=_;rw[IZ];rfl
theorem jP(W:Wt):lR W≠.aS:=by intro h;cases h
def CQ(k:Kr)(W:Wt)(l:List Sp)(T:List Sp)(r:CV)(m:Mem):Prop:=
 ∃r' m',View 3 ⟨[r],m⟩ ⟨[r'],m'⟩/\r'= .bD []/\((T=[]/\m'=[gB k 1 2,lR W,e8 l])\/(∃x,T=[x]/\m'=[gB k 1 3,lR W,.aS,e8 (l++ [x])]))
theorem l42:bz prog f42=some c42.er:=by kernel_rfl
theorem Lo(k:Kr)(hk:KI k)(W:Wt)(l:List Sp)(hl:l.length<=100000)(c:Int)(p:Nat)(hp:p<k.ps.length)(fd h f g:Int):
  body prog c42 [.rv (.one (.ptr 0 0)),am .i64 c,am .i64 (p:Nat),am .i64 fd,am .i64 h,am .i64 f,am .i64 g] [gB k 1 2,lR W,e8 l] (CQ k W l (dt k c p fd h f g)):=by
 have hg:=dG hp;rw[<-eD hp]at hg;have hc:dt k c p fd h f g=if(cH (an k.ps p) fd).2≠0 then []else [⟨c,p,fd,h,f,g,(cH (an k.ps p) fd).1.2,dR k.ops (cH (an k.ps p) fd).1.1⟩]:=rfl
 rw[hc];clear hc;have hh:= @KI.cH k hk p hp fd;refine af hg ?_;refine BZ _ fd ?_;generalize cH (an k.ps p) fd=w at hh|-;obtain⟨⟨o,r⟩,e⟩:=w;refine bx (λhe=>?_) (λhe=>?_)
 .have he:e≠0:=he;rw[if_pos he];exact⟨_,_,View.o 4 [0,1,2] [] (.eq rfl .nil) (.pt rfl rfl (.eq rfl (jA _ _ _)) (.pt rfl rfl (.eq (fG _ _) (jP _)) (.pn rfl rfl rfl))),rfl,.inl ⟨rfl,rfl⟩⟩
 .have he:e=0:=he;subst he;rw[if_neg aE];obtain⟨n,j,h1,h2,h3,h4⟩:=hh rfl;have h1:o=n:=h1;subst h1;have ho:dR k.ops (n:Int)=k.ops[n].bm:=by rw[dR,Y6,vU h2]
  refine af (pZ h2) ?_;refine⟨⟨rfl,trivial⟩,?_⟩;refine⟨by simp only[b9,aa,Pj,aau,abl];omega,trivial,trivial,?_⟩
  rw[show dR k.ops ((n:Int),r).1=k.ops[n].bm from ho];refine⟨_,[gB k 1 3,lR W,.aS,e8 (l++ [⟨c,p,fd,h,f,g,r,k.ops[n].bm⟩])],View.o 6 [0,1,2,5] [] (.eq rfl .nil) (.pt rfl rfl (.eq rfl (jA _ _ _)) (.pt rfl rfl (.eq (fG _ _) (jP _)) (.aS (.pt rfl rfl ?_ (.nil _))))),rfl,.inr ⟨_,rfl,rfl⟩⟩;rw[e8,abm];exact .bL (dx (List.map Sp.enc l) (List.map Sp.enc [⟨c,p,fd,h,f,g,r,k.ops[n].bm⟩])).symm
theorem l43:bz prog f43=some c43.er:=by kernel_rfl
theorem Pq(b:Kr)(hk:KI b)(p:Nat)(hp:p<b.ps.length)(fd:Int)(he:(cH (an b.ps p) fd).2=0):
  body prog c43 [.rv (.one (.ptr 0 0)),am .i64 (p:Nat),am .i64 fd] [kB b] (λr m=>r= .bD [cK (lP b p fd),cK (lO b.l (lP b p fd))]/\∃ex,m=kB b::ex):=by
 have hg:=dG hp;rw[<-eD hp]at hg;rw[lP];have hh:= @KI.cH b hk p hp fd he;refine af hg ?_;refine BZ _ fd ?_;generalize cH (an b.ps p) fd=w at hh he|-;obtain⟨⟨o,r⟩,e⟩:=w;have he:e=0:=he;subst he;obtain⟨n,j,h1,h2,h3,h4⟩:=hh;have h1:o=n:=h1;subst h1;have ho:dR b.ops (n:Int)=b.ops[n].bm:=by rw[dR,Y6,vU h2]
 have ZT:b.ops[n].bm=(j:Int):=by rw[<-ho];exact h3
 have yV:lO b.l (j:Nat)=b.l[j].bp:=by rw[lO,Y6,vU h4]
 refine af (pZ h2) ?_;have hj:=Bq h4;rw[<-ZT]at hj;refine af hj ?_;show _=CV.bD [cK (dR b.ops (n:Int)),cK (lO b.l (dR b.ops (n:Int)))]/\_;rw[h3,yV,ZT];exact⟨rfl,_,rfl⟩
end Kn
def c20:LF:= ⟨200,[],(.seq (.ai [qm 18 2,qu 19 (.aP 18),qf 20 0 19,ql 21 20,qm 10 21]) (.seq (.ai [qm 22 2,qu 23 (.aP 22),qf 24 1 23,ql 25 24]) (.block 0 (.seq (.ai [qu 27 (.aJ .eql 25 (qi 2)),qm 26 27]) (.cond 26 (.ai [qm 28 0,qm 29 1,qm 30 10,qm 31 3,qu 32 (.aP 31),qf 33 1 32,ql 34 33,qu 35 (qc 42 [28,29,30,34,qi 1,(qi (-1)),qi 0])]) (.seq (.seq (.ai [qu 37 (.aJ .eql 25 (qi 3)),qm 36 37]) (.cond 36 .skip (.ai [qu 38 (.aJ .eql 25 (qi 8)),qm 36 38]))) (.cond 36 (.bV [qm 39 0,qm 40 1,qm 41 10,qm 42 3,qu 43 (.aP 42),qf 44 1 43,ql 45 44,qm 46 10,qm 47 2,qu 48 (.aP 47),qf 49 2 48,ql 50 49,qu 51 (qc 42 [39,40,41,45,qi 3,46,50])] [(eK 12 0 (.cons 12 (some []) .nil))]) (.seq (.ai [qu 53 (.aJ .eql 25 (qi 9)),qm 52 53]) (.cond 52 (.bV [qm 54 0,qm 55 1,qm 56 10,qm 57 2,qu 58 (.aP 57),qf 59 2 58,ql 60 59,qm 61 10,qm 62 2,qu 63 (.aP 62),qf 64 2 63,ql 65 64,qu 66 (qc 42 [54,55,56,60,qi 3,61,65])] [(eK 12 0 (.cons 12 (some []) .nil))]) (.seq (.ai [qu 68 (.aJ .eql 25 (qi 15)),qm 67 68]) (.cond 67 (.seq (.ai [qm 69 0,qm 70 1,qm 71 10,qm 72 3,qu 73 (.aP 72),qf 74 1 73,ql 75 74,qu 76 (qc 42 [69,70,71,75,qi 2,(qi (-1)),qi 0])]) (.ai [qm 77 0,qm 78 1,qm 79 10,qm 80 3,qu 81 (.aP 80),qf 82 2 81,ql 83 82,qu 84 (qc 42 [77,78,79,83,qi 2,(qi (-1)),qi 0])])) (.seq (.ai [qu 86 (.aJ .eql 25 (qi 16)),qm 85 86]) (.cond 85 (.seq (.ai [qm 88 4,qm 89 10,qm 90 2,qu 91 (.aP 90),qf 92 2 91,ql 93 92,qu 94 (qc 43 [88,89,93]),qm 87 94,qu 95 (.ext 87 0),qu 96 (.ext 87 1),qm 11 95,qm 12 96]) (.bV [qm 97 0,qu 98 (.aP 97),qf 99 3 98,ql 100 99,qm 101 12,qm 102 0,qu 103 (.aP 102),qf 104 3 103,ql 105 104,qm 106 12,qu 107 (.yQ (.one .aO) (.i .i64) 105 106 false),qm 108 10,qm 109 2,qu 110 (.aP 109),qf 111 3 110,ql 112 111,qu 113 (.build [qd 0,qd 0] [(0,1,108),(1,1,112)]),qu 114 (.od 2 [qd 0,qd 0] 1 [(0,113)]),qu 115 (.pO 2 16 107 114),qw (.tz (.i .i64) 100 101 115)] [(eK 10 0 (eK 6 11 (.ww (.cons 10 (some [15,3]) (.cons 17 (some [8,3]) (.cons 18 (some [3]) (.cons 19 (some []) .nil)))) (.cons 17 (some [8,3]) (.cons 10 (some [15,3]) (.cons 18 (some [3]) (.cons 19 (some []) .nil)))))))])) (.seq (.ai [qu 117 (.aJ .eql 25 (qi 17)),qm 116 117]) (.cond 116 (.seq (.ai [qm 119 4,qm 120 10,qm 121 2,qu 122 (.aP 121),qf 123 2 122,ql 124 123,qu 125 (qc 43 [119,120,124]),qm 118 125,qu 126 (.ext 118 0),qu 127 (.ext 118 1),qm 13 126,qm 14 127]) (.seq (.ai [qm 128 0,qu 129 (.aP 128),qf 130 3 129,ql 131 130,qm 132 13,qu 133 (.yQ (.one .aO) (.i .i64) 131 132 false),qu 134 (.cz 2 133 (qi 0)),qL 135 2 134,qu 15 (.alloc [qd 0,qd 0]),qw (.store 2 15 135)]) (.seq (.bV [qm 136 0,qu 137 (.aP 136),qf 138 3 137,ql 139 138,qm 140 13,qm 141 0,qu 142 (.aP 141),qf 143 3 142,ql 144 143,qm 145 13,qu 146 (.yQ (.one .aO) (.i .i64) 144 145 false),qu 147 (.oG 2 146 (some (qi 1)) none none),qw (.tz (.i .i64) 139 140 147)] [(eK 10 0 (.cons 10 (some [3]) (.cons 11 none (.cons 12 (some []) .nil))))]) (.seq (.ai [qm 148 3,qu 149 (.aP 148),qf 150 2 149,ql 151 150,qu 152 (.aJ .geq 151 (qi 0))]) (.cond 152 (.bV [qm 153 0,qm 154 1,qm 155 10,qm 156 3,qu 157 (.aP 156),qf 158 2 157,ql 159 158,qf 160 0 15,ql 161 160,qf 162 1 15,ql 163 162,qu 164 (qc 42 [153,154,155,159,qi 3,161,163])] [(eK 11 0 (.cons 11 (some []) .nil))]) .skip))))) (.seq (.ai [qu 166 (.aJ .eql 25 (qi 18)),qm 165 166]) (.cond 165 (.seq (.seq (.ai [qm 167 4,qu 168 (.aP 167),qf 169 2 168,ql 170 169,qm 171 10,qu 172 (.cz 4 170 171),qf 173 3 172,ql 174 173,qu 175 (qc 44 [174]),qu 176 (.len 1 175),qu 177 (.aM (qi 0))]) (.block 1 (.loop (.seq (.ai [qu 178 (.aJ .lss 177 176)]) (.seq (.cond 178 .skip (.exit 1)) (.seq (.block 2 (.seq (.ai [qu 179 (.cz 1 175 177),ql 180 179,qm 17 180]) (.ai [qm 181 0,qm 182 1,qm 183 3,qu 184 (.aP 183),qf 185 1 184,ql 186 185,qm 187 17,qm 188 10,qm 189 17,qu 190 (qc 42 [181,182,186,187,qi 3,188,189])]))) (.ai [qu 191 (.aJ .add 177 (qi 1)),qm 177 191]))))))) (.ai [qm 192 0,qm 193 1,qm 194 10,qm 195 3,qu 196 (.aP 195),qf 197 2 196,ql 198 197,qu 199 (qc 42 [192,193,194,198,qi 2,(qi (-1)),qi 0])])) .skip)))))))))))))))))⟩
namespace Kn
def aB(a:An):Bk:= .var (a.enc.map .ah)
theorem yw(a:An):aB a≠.aS:=by intro h;cases h
theorem jk(k:Kr):kB k≠.aS:=by intro h;cases h
theorem yx(Y:Nat->Nat)(l:List Sp):(e8 l).bb Y=e8 l:=Bk.jG _ _
theorem jV(k:Kr)(hk:KI k)(W:Wt)(l:List Sp)(hl:l.length<=100000)(c:Int)(z:Int)(p:Nat)(hz:z=p)(hp:p<k.ps.length)(fd h f g:Int){m:Mem}(R n:Nat)(hn:m.length=n)(hd:fJ [0,1,R]=true)(ha:eP n [0,1,R]=true)(h0:cF m 0=some (gB k 1 R))(h1:cF m 1=some (lR W))(h2:cF m R=some (e8 l)){K:CV->Mem->Prop}(Ur:dt k c p fd h f g=[]->K (.bD []) (c6 m [0,1,R] [gB k 1 R,lR W,e8 l]))(hK2:∀x,dt k c p fd h f g=[x]->K (.bD []) (c6 m [0,1,R] [gB k 1 n,lR W,.aS,e8 (l++ [x])])):
  ap prog 42 [.rv (.one (.ptr 0 0)),am .i64 c,am .i64 z,am .i64 fd,am .i64 h,am .i64 f,am .i64 g] m K:=by
 subst hz;refine bu [0,1,R] n hn rfl hd ha (args0:=[.rv (.one (.ptr 0 0)),am .i64 c,am .i64 (p:Nat),am .i64 fd,am .i64 h,am .i64 f,am .i64 g]) rfl (λi b' hi=>?_)
  (bJ (ct func42 l42 (Lo k hk W l hl c p hp fd h f g)) λr m1⟨r',m',hv,hq⟩=>⟨r',m',hv,hq⟩) (λr1 m1 xm=>?_)
 .rw[aT]at h0 h1 h2
  match i,hi with
  |0,hi=>cases hi;exact .inr ⟨λh=>h,_,h0,.eq rfl (jA _ _ _)⟩
  |1,hi=>cases hi;exact .inr ⟨λh=>h,_,h1,.eq (fG _ _) (jP _)⟩
  |2,hi=>cases hi;exact .inr ⟨λh=>h,_,h2,.bL rfl⟩
  |i+3,hi=>simp at hi
 .obtain⟨rfl,⟨he,rfl⟩|⟨x,he,rfl⟩⟩:=xm
  .refine⟨Ym _,?_⟩;have:nh (sg [0,1,R] n) [gB k 1 2,lR W,e8 l]=[gB k 1 R,lR W,e8 l]:=by simp only[nh,fG,yx];rfl
   rw[this];exact Ur he
  .refine⟨aE,?_⟩;have:nh (sg [0,1,R] n) [gB k 1 3,lR W,.aS,e8 (l++ [x])]=[gB k 1 n,lR W,.aS,e8 (l++ [x])]:=by simp only[nh,fG,yx];rfl
   rw[this];exact hK2 x he
theorem Ps(b:Kr)(hk:KI b)(z:Int)(p:Nat)(hz:z=p)(hp:p<b.ps.length)(fd:Int)(he:(cH (an b.ps p) fd).2=0){m:Mem}(id:Nat)(hb:cF m id=some (kB b)){K:CV->Mem->Prop}(hK:K (.bD [cK (lP b p fd),cK (lO b.l (lP b p fd))]) m):
  ap prog 43 [.rv (.one (.ptr id 0)),am .i64 z,am .i64 fd] m K:=by
 subst hz;exact fA (args0:=[.rv (.one (.ptr 0 0)),am .i64 (p:Nat),am .i64 fd]) (cs:=kC b.l b.ops b.ps) id hb rfl rfl
  (λ_ hK=>eY rfl (ct func43 l43 (Pq b hk p hp fd he)) hK) hK
theorem RY(l:List eh)(hl:l.length<=2097152){m:Mem}{K:CV->Mem->Prop}(h:K (Tb.NV (zm l)) m):ap prog 44 [nu l] m K:=by
 rw[uu];exact Tb.UO _ (by simpa using hl) h
def vD(x:Int):Prop:=x=2\/x=3\/x=8\/x=9\/x=15\/x=17\/x=18
structure Cj(c:Cl)(a:An)(b k:Kr)(W:Wt)(p:Nat):Prop where
 kb:KI b
 kk:KI k
 pc:c.ba=p
 pb:p<b.ps.length
 pk:vD c.ag->p<k.ps.length
 Zg:c.ag=16\/c.ag=17->(cH (an b.ps p) c.fd).2=0
 ws:∀e,e∈W->e.2.length<=100000
 got:c.ag=17->∃x r,gH (lP b p c.fd) W=some (x::r)
 Zh:c.ag=18->∃n:Nat,a.n=n/\n<k.ps.length
def SQ(c:Cl)(a:An)(b k:Kr)(out:List Sp)(x:Wt×List Sp)(r:CV)(m:Mem):Prop:=
 ∃r' m',View 6 ⟨[r],m⟩ ⟨[r'],m'⟩/\r'= .bD []/\m'=[gB k 1 6,lR x.1,.aS,cB c,aB a,kB b,e8 (out++x.2)]
theorem iq{c:Cl}{a:An}{b k:Kr}{W:Wt}{out:List Sp}{ex:Mem}(hx:eP (6+ex.length) [0,1,2,3,4,5]=true):SQ c a b k out (W,[]) (.bD []) ([gB k 1 2,lR W,e8 out,cB c,aB a,kB b]++ex):=by
 refine⟨_,[gB k 1 6,lR W,.aS,cB c,aB a,kB b,e8 out],View.of2 (6+ex.length) 2 [0,1,2,3,4,5] (by simp;omega) rfl rfl rfl rfl hx rfl rfl (.eq rfl .nil)
  (.pt rfl rfl (.eq rfl (jA _ _ _)) (.pt rfl rfl (.eq (fG _ _) (jP _)) (.aS (.pt rfl rfl (.eq rfl (jz _)) (.pt rfl rfl (.eq rfl (yw _)) (.pt rfl rfl (.eq rfl (jk _)) (.pn rfl rfl rfl))))))),rfl,?_⟩
 rw[abO]
theorem mS{c:Cl}{a:An}{b k:Kr}{W:Wt}{out T:List Sp}{m:Mem}(N M:Nat)(hm:m.length=M)(hd:fJ [0,1,2,3,4,5,N]=true)(ha:eP M [0,1,2,3,4,5,N]=true)(h0:cF m 0=some (gB k 1 N))(h1:cF m 1=some (lR W))(h3:cF m 3=some (cB c))(h4:cF m 4=some (aB a))(h5:cF m 5=some (kB b))(h6:cF m N=some (e8 (out++T))):SQ c a b k out (W,T) (.bD []) m:=
 ⟨_,[gB k 1 6,lR W,.aS,cB c,aB a,kB b,e8 (out++T)],View.of M [0,1,2,3,4,5,N] [] hm rfl rfl rfl hd ha (.eq rfl .nil)
  (.put (dE rfl) h0 (.eq rfl (jA _ _ _)) (.put (dE rfl) h1 (.eq (fG _ _) (jP _)) (.aS (.put (dE rfl) h3 (.eq rfl (jz _)) (.put (dE rfl) h4 (.eq rfl (yw _)) (.put (dE rfl) h5 (.eq rfl (jk _)) (.put (dE rfl) h6 (.bL rfl) (.nil _)))))))),rfl,rfl⟩
theorem l20:bz prog Tryz.f20=some c20.er:=by kernel_rfl
theorem ur(i:Int)(c:Cl)(a:An)(b k:Kr)(W:Wt)(out:List Sp)(ho:out.length<=90000)(p:Nat)(h:Cj c a b k W p):
  body prog c20 [.rv (.one (.ptr 0 0)),am .i64 i,.rv (.one (.ptr 3 0)),.rv (.one (.ptr 4 0)),.rv (.one (.ptr 5 0))] [gB k 1 2,lR W,e8 out,cB c,aB a,kB b] (SQ c a b k out (dK i p c a b k W)):=by
 have LX:=h.pc;refine bs (λh2=>?_) (λh2=>?_)
 .have h2:c.ag=2:=h2;have Hs:=h.pk (.inl h2);rw[dK,if_pos h2];refine jV (m:=[gB k 1 2,lR W,e8 out,cB c,aB a,kB b]) k h.kk W out om i c.ba p LX Hs a.n 1 (-1) 0 2 6 rfl rfl rfl rfl rfl rfl (λhe=>?_) (λx he=>?_)
  .rw[he];exact iq (ex:=[]) rfl
  .rw[he];exact mS 6 7 rfl rfl rfl rfl rfl rfl rfl rfl rfl
 have h2:¬c.ag=2:=h2;have s38:∀(hk:c.ag=3\/c.ag=8),dK i p c a b k W=(W,dt k i p a.n 3 c.ba c.fd):=λhk=>by rw[dK,if_neg h2,if_pos hk]
 refine bs (λh3=>?_) (λh3=>?_)
 .have Hs:=h.pk (.inr (.inl h3));rw[s38 (.inl h3)];refine jV (m:=[gB k 1 2,lR W,e8 out,cB c,aB a,kB b]) k h.kk W out om i c.ba p LX Hs a.n 3 c.ba c.fd 2 6 rfl rfl rfl rfl rfl rfl (λhe=>⟨trivial,?_⟩) (λx he=>⟨trivial,?_⟩)
  .rw[he];exact iq (ex:=[]) rfl
  .rw[he];exact mS 6 7 rfl rfl rfl rfl rfl rfl rfl rfl rfl
 have h3:¬c.ag=3:=h3;refine bs (λh8=>?_) (λh8=>?_)
 .have Hs:=h.pk (.inr (.inr (.inl h8)));rw[s38 (.inr h8)];refine jV (m:=[gB k 1 2,lR W,e8 out,cB c,aB a,kB b]) k h.kk W out om i c.ba p LX Hs a.n 3 c.ba c.fd 2 6 rfl rfl rfl rfl rfl rfl (λhe=>⟨trivial,?_⟩) (λx he=>⟨trivial,?_⟩)
  .rw[he];exact iq (ex:=[]) rfl
  .rw[he];exact mS 6 7 rfl rfl rfl rfl rfl rfl rfl rfl rfl
 have h8:¬c.ag=8:=h8;clear s38;have Wn:¬(c.ag=3\/c.ag=8):=λh=>h.elim h3 h8
 refine bs (λh9=>?_) (λh9=>?_)
 .have Hs:=h.pk (.inr (.inr (.inr (.inl h9))));rw[dK,if_neg h2,if_neg Wn,if_pos h9];refine jV (m:=[gB k 1 2,lR W,e8 out,cB c,aB a,kB b]) k h.kk W out om i c.ba p LX Hs c.fd 3 c.ba c.fd 2 6 rfl rfl rfl rfl rfl rfl (λhe=>⟨trivial,?_⟩) (λx he=>⟨trivial,?_⟩)
  .rw[he];exact iq (ex:=[]) rfl
  .rw[he];exact mS 6 7 rfl rfl rfl rfl rfl rfl rfl rfl rfl
 have h9:¬c.ag=9:=h9;refine bs (λRZ=>?_) (λRZ=>?_)
 .have Hs:=h.pk (.inr (.inr (.inr (.inr (.inl RZ)))));rw[dK,if_neg h2,if_neg Wn,if_neg h9,if_pos RZ];refine jV (m:=[gB k 1 2,lR W,e8 out,cB c,aB a,kB b]) k h.kk W out om i c.ba p LX Hs a.n 2 (-1) 0 2 6 rfl rfl rfl rfl rfl rfl (λhe=>?_) (λx he=>?_)
  .refine jV (m:=[gB k 1 2,lR W,e8 out,cB c,aB a,kB b]) k h.kk W out om i c.ba p LX Hs a.m 2 (-1) 0 2 6 rfl rfl rfl rfl rfl rfl (λkL=>?_) (λy kL=>?_)
   .rw[he,kL];exact iq (ex:=[]) rfl
   .rw[he,kL];exact mS 6 7 rfl rfl rfl rfl rfl rfl rfl rfl rfl
  .refine jV (m:=[gB k 1 6,lR W,.aS,cB c,aB a,kB b,e8 (out++ [x])]) k h.kk W (out++ [x]) (by simp;omega) i c.ba p LX Hs a.m 2 (-1) 0 6 7 rfl rfl rfl rfl rfl rfl (λkL=>?_) (λy kL=>?_)
   .rw[he,kL];exact mS 6 7 rfl rfl rfl rfl rfl rfl rfl rfl rfl
   .rw[he,kL];have e:out++([x]++ [y])=out++ [x]++ [y]:=aE;refine mS 7 8 rfl rfl rfl rfl rfl rfl rfl rfl ?_;rw[e];rfl
 have RZ:¬c.ag=15:=RZ;refine bs (λCI=>?_) (λCI=>?_)
 .rw[dK,if_neg h2,if_neg Wn,if_neg h9,if_neg RZ,if_pos CI];refine Ps b h.kb c.ba p LX h.pb c.fd (h.Zg (.inl CI)) 5 rfl ?_;generalize lO b.l (lP b p c.fd)=q;have hF:=tm q W 0;have hG:=Cg q W 0;cases hx:E3 q W 0 with
  |none=>
   rw[hx]at hF hG;have hG:none=gH q W:=hG;rw[<-hG];have hS:=IY q [(c.ba,c.fE)] W;refine⟨?_,?_⟩
   .refine af hF ?_;refine⟨⟨rfl,rfl,trivial⟩,⟨rfl,rfl,trivial⟩,(show(0+1)*16<=140737488355328 by decide),⟨rfl,trivial⟩,?_⟩
    exact⟨[wE (c.ba,c.fE)],_,rfl,hS,trivial,iq (ex:=[.aS,.aS]) rfl⟩
   .refine⟨⟨rfl,rfl,trivial⟩,?_⟩;refine af hF ?_;refine⟨⟨rfl,rfl,trivial⟩,(show(0+1)*16<=140737488355328 by decide),⟨rfl,trivial⟩,?_⟩
    exact⟨[wE (c.ba,c.fE)],_,rfl,hS,trivial,iq (ex:=[.aS,.aS]) rfl⟩
  |some r=>
   obtain⟨j,v⟩:=r;rw[hx]at hF hG;have hG:some v=gH q W:=hG;rw[<-hG];obtain⟨_,FK⟩:=Ch q W 0 j v hx;have hv:v.length<=100000:=h.ws _ (Tp FK);have hS:∀n,mU (.int .i64 q) (.ei ((v++ [(c.ba,c.fE)]).map wE)) (aV (pG W) j ⟨.int .i64 q,.row n⟩)=some (pG (jO q (v++ [(c.ba,c.fE)]) W)):=λn=>by rw[aY];exact Ci q _ (.row n) W 0 j v hx
   have hR:b9 ((v.map wE).map λds=>ds.map CC.ah) 0 none++b9 [[CC.ah (.val (.int .i64 c.ba)),CC.ah (.val (.int .i64 c.fE))]] 0 none=((v++ [(c.ba,c.fE)]).map wE).map λd=>d.map CC.ah:=by rw[abm,abm];rfl
   have dk:((b9 ((v.map wE).map λds=>ds.map CC.ah) 0 none).length+(b9 [[CC.ah (.val (.int .i64 c.ba)),CC.ah (.val (.int .i64 c.fE))]] 0 none).length)*16<=140737488355328:=by simp only[b9,Pj,aau,abl];omega
   refine⟨?_,?_⟩
   .refine af hF ?_;refine⟨⟨rfl,rfl,trivial⟩,⟨rfl,rfl,trivial⟩,dk,⟨rfl,trivial⟩,?_⟩;exact⟨(v++ [(c.ba,c.fE)]).map wE,_,hR,hS 6,trivial,iq (ex:=[.aS,.aS,.aS]) rfl⟩
   .refine⟨⟨rfl,rfl,trivial⟩,?_⟩;refine af hF ?_;refine⟨⟨rfl,rfl,trivial⟩,dk,⟨rfl,trivial⟩,?_⟩;exact⟨(v++ [(c.ba,c.fE)]).map wE,_,hR,hS 7,trivial,iq (ex:=[.aS,.aS,.aS]) rfl⟩
 have CI:¬c.ag=16:=CI;refine bs (λyM=>?_) (λyM=>?_)
 .have Hs:=h.pk (.inr (.inr (.inr (.inr (.inr (.inl yM))))));obtain⟨x,r,hw⟩:=h.got yM;obtain⟨T,hT⟩:∃T,T=if a.m>=0 then dt k i p a.m 3 x.1 x.2 else []:=⟨_,rfl⟩
  rw[show dK i p c a b k W=(jO (lP b p c.fd) r W,T) by rw[dK,if_neg h2,if_neg Wn,if_neg h9,if_neg RZ,if_neg CI,if_pos yM,hw,hT]]
  refine Ps b h.kb c.ba p LX h.pb c.fd (h.Zg (.inr yM)) 5 rfl ?_;generalize lO b.l (lP b p c.fd)=q0;generalize lP b p c.fd=q at hw|-;have hF:=tm q W 0;have hG:=Cg q W 0;rw[hw]at hG;obtain⟨⟨j,v⟩,hx,hv⟩:=aaz.1 hG;have hv:v=x::r:=hv;subst hv;rw[hx]at hF;have hFT:iV (.int .i64 q) (aV (pG W) j ⟨.int .i64 q,.row 6⟩) 0=some (some (j,.row 6)):=by rw[aY];exact EB q (.row 6) W 0 j _ hx
  have hS:mU (.int .i64 q) (.ei (b9 ((x::r).map wE) 1 (some (List.length (((x::r).map wE).map λds=>ds.map CC.ah))))) (aV (pG W) j ⟨.int .i64 q,.row 6⟩)=some (pG (jO q r W)):=by
   rw[aY,show b9 ((x::r).map wE) 1 (some (List.length (((x::r).map wE).map λds=>ds.map CC.ah)))=r.map wE by simp[b9];rw[abM aE]]
   exact Ci q r (.row 6) W 0 j _ hx
  refine af hF ?_;refine af hFT ?_;refine⟨⟨rfl,trivial⟩,?_⟩;refine cN (by simp[lenOf]) ?_
  refine⟨(x::r).map wE,_,rfl,hS,trivial,?_⟩;refine aN (λhm=>?_) (λhm=>?_)
  .have hm:a.m>=0:=hm;rw[if_pos hm]at hT;subst hT;refine jV (m:=[gB k 1 2,lR (jO q r W),e8 out,cB c,aB a,kB b,.aS,.var [.ah (.val (.int .i64 x.1)),.ah (.val (.int .i64 x.2))]]) k h.kk (jO q r W) out om i c.ba p LX Hs a.m 3 x.1 x.2 2 8 rfl rfl rfl rfl rfl rfl (λhe=>⟨trivial,?_⟩) (λy he=>⟨trivial,?_⟩)
   .rw[he];exact iq (ex:=[.aS,.var _]) rfl
   .rw[he];exact mS 8 9 rfl rfl rfl rfl rfl rfl rfl rfl rfl
  .have hm:¬a.m>=0:=hm;rw[if_neg hm]at hT;subst hT;exact iq (ex:=[.aS,.var _]) rfl
 have yM:¬c.ag=17:=yM;refine bs (λLY=>?_) (λLY=>?_)
 .have Hs:=h.pk (.inr (.inr (.inr (.inr (.inr (.inr LY))))));obtain⟨n,hn,hnk⟩:=h.Zh LY;rw[dK,if_neg h2,if_neg Wn,if_neg h9,if_neg RZ,if_neg CI,if_neg yM,if_pos LY,show a.n.toNat=n by rw[hn];rfl]
  have hg:=dG h.pb;rw[<-eD h.pb,<-LX]at hg;have zK:(an b.ps p).length<=10:=by rw[eD h.pb];exact h.kb.sl _ (aaw h.pb)
  have hL:(zm (an b.ps p)).length<=10:=by have:=Tb.sM ((an b.ps p).map jm) 0;rw[Pj]at this;exact abD this zK
  refine af hg ?_;refine RY _ om ?_;generalize zm (an b.ps p)=L at hL|-;have Qk:∀(m:List Int),(eR k i n c.ba m).length<=m.length:=λm=>by
   induction m with
   |nil=>simp[eR]
   |cons y r ih=>
    have h1:eR k i n c.ba (y::r)=dt k i n y 3 c.ba y++eR k i n c.ba r:=by simp[eR]
    have h2:(dt k i n y 3 c.ba y).length<=1:=by unfold dt;split<;>simp
    rw[h1,aa3,aau];omega
  refine bc (λj=>j<=L.length) [0,1,3,10,175,176] (λj=>[(177,am .i64 (j:Nat))])
   (λj=>[gB k 1 6,lR W,.aS,cB c,aB a,kB b,e8 (out++eR k i n c.ba (L.take j))]) (λj=>L.length-j) 0 (aaj _) ?_ (λj hj=>?_)
  .refine View.of2 6 2 [0,1,2,3,4,5] rfl rfl rfl rfl rfl rfl rfl rfl ?_ (.pt rfl rfl (.eq rfl (jA _ _ _)) (.pt rfl rfl (.eq (fG _ _) (jP _)) (.aS (.pt rfl rfl (.eq rfl (jz _)) (.pt rfl rfl (.eq rfl (yw _)) (.pt rfl rfl (.eq rfl (jk _)) (.pt rfl rfl (.bL ?_) (.nil _))))))))
   .repeat(first|exact .nil|refine .aA ?_|refine .eq rfl ?_)
   .simp[eR]
  have hj:j<=L.length:=hj;refine aN (λaC=>?_) (λaC=>?_)
  .have aC:j<L.length:=by have aC:(j:Int)<((Tb.pd L).length:Int):=aC;rw[Tb.pd,Pj]at aC;omega
   have kD:dD (Tb.pd L) ((j:Nat):Int)=some [.val (.int .i64 L[j])]:=by rw[bG,Tb.pd,Tm,vU aC];rfl
   have ht:eR k i n c.ba (L.take (j+1))=eR k i n c.ba (L.take j)++dt k i n L[j] 3 c.ba L[j]:=by rw[eR,eR,sD (vU aC),List.flatMap_append,ad0,List.flatMap_nil,abO]
   have zB:=Qk (L.take j);rw[aaA]at zB;refine af kD ?_;refine jV (m:=[gB k 1 6,lR W,.aS,cB c,aB a,kB b,e8 (out++eR k i n c.ba (L.take j))]) k h.kk W (out++eR k i n c.ba (L.take j)) (by rw[aa3];omega) i a.n n hn hnk L[j] 3 c.ba L[j] 6 7 rfl rfl rfl rfl rfl rfl (λhe=>?_) (λx he=>?_)
   .refine⟨j+1,aC,(show L.length-(j+1)<L.length-j by omega),View.o2 7 [0,1,2,3,4,5,6] [] (.pt rfl rfl (.eq rfl (jA _ _ _)) (.pt rfl rfl (.eq (fG _ _) (jP _)) (.aS (.pt rfl rfl (.eq rfl (jz _)) (.pt rfl rfl (.eq rfl (yw _)) (.pt rfl rfl (.eq rfl (jk _)) (.pt rfl rfl (.bL ?_) (.nil _))))))))⟩
    .rw[ht,he,abO]
   .refine⟨j+1,aC,(show L.length-(j+1)<L.length-j by omega),View.o2 8 [0,1,2,3,4,5,7] [] (.pt rfl rfl (.eq rfl (jA _ _ _)) (.pt rfl rfl (.eq (fG _ _) (jP _)) (.aS (.pt rfl rfl (.eq rfl (jz _)) (.pt rfl rfl (.eq rfl (yw _)) (.pt rfl rfl (.eq rfl (jk _)) (.pt rfl rfl (.bL ?_) (.nil _))))))))⟩
    .rw[ht,he,ac0]
  .have ET:j=L.length:=by have aC:¬(j:Int)<((Tb.pd L).length:Int):=aC;rw[Tb.pd,Pj]at aC;omega
   subst ET;rw[aaV];have zB:=Qk L;refine jV (m:=[gB k 1 6,lR W,.aS,cB c,aB a,kB b,e8 (out++eR k i n c.ba L)]) k h.kk W (out++eR k i n c.ba L) (by rw[aa3];omega) i c.ba p LX Hs a.m 2 (-1) 0 6 7 rfl rfl rfl rfl rfl rfl (λhe=>?_) (λx he=>?_)
   .rw[he,abO];exact mS 6 7 rfl rfl rfl rfl rfl rfl rfl rfl rfl
   .rw[he];refine mS 7 8 rfl rfl rfl rfl rfl rfl rfl rfl ?_;rw[<-ac0];rfl
 have LY:¬c.ag=18:=LY;rw[dK,if_neg h2,if_neg Wn,if_neg h9,if_neg RZ,if_neg CI,if_neg yM,if_neg LY];exact iq (ex:=[]) rfl
theorem BU(i:Int)(c:Cl)(a:An)(b k:Kr)(W:Wt)(out:List Sp)(ho:out.length<=90000)(p:Nat)(h:Cj c a b k W p)(X:Bk)(x:Wt×List Sp)(hx:x=dK i p c a b k W){K:CV->Mem->Prop}(hK:K (.bD []) [gB k 1 7,lR x.1,.aS,cB c,aB a,kB b,X,e8 (out++x.2)]):
  ap prog 20 [.rv (.one (.ptr 0 0)),am .i64 i,.rv (.one (.ptr 3 0)),.rv (.one (.ptr 4 0)),.rv (.one (.ptr 5 0))] [gB k 1 2,lR W,e8 out,cB c,aB a,kB b,X] K:=by
 refine bu [0,1,2,3,4,5] 7 rfl rfl rfl rfl (args0:=[.rv (.one (.ptr 0 0)),am .i64 i,.rv (.one (.ptr 3 0)),.rv (.one (.ptr 4 0)),.rv (.one (.ptr 5 0))]) rfl (λj b' hi=>?_)
  (bJ (ct func20 l20 (ur i c a b k W out ho p h)) λr m1⟨r',m',hv,hq⟩=>⟨r',m',hv,hq⟩) (λr1 m1 xm=>?_)
 .match j,hi with
  |0,hi=>cases hi;exact .inr ⟨λh=>h,_,rfl,.eq rfl (jA _ _ _)⟩
  |1,hi=>cases hi;exact .inr ⟨λh=>h,_,rfl,.eq (fG _ _) (jP _)⟩
  |2,hi=>cases hi;exact .inr ⟨λh=>h,_,rfl,.bL rfl⟩
  |3,hi=>cases hi;exact .inr ⟨λh=>h,_,rfl,.eq rfl (jz _)⟩
  |4,hi=>cases hi;exact .inr ⟨λh=>h,_,rfl,.eq rfl (yw _)⟩
  |5,hi=>cases hi;exact .inr ⟨λh=>h,_,rfl,.eq rfl (jk _)⟩
  |j+6,hi=>simp at hi
 .obtain⟨rfl,rfl⟩:=xm;refine⟨aE,?_⟩;rw[<-hx];have:nh (sg [0,1,2,3,4,5] 7) [gB k 1 6,lR x.1,.aS,cB c,aB a,kB b,e8 (out++x.2)]=[gB k 1 7,lR x.1,.aS,cB c,aB a,kB b,e8 (out++x.2)]:=by simp only[nh,fG,yx];rfl
  rw[this];exact hK
end Kn
namespace Kn
def wL(L:List ((Int×List (Int×Int))×Nat)):Wt:=L.map (·.1)
theorem Pu(x:Int):∀(W:Wt)(n i:Nat)(e:Int×List (Int×Int)),(W.map (·.1)).Nodup->W[i]? =some e->e.1=x->E3 x W n=some (n+i,e.2)
 | [],_,_,_,_,h,_=>by simp at h
 |y::r,n,0,e,_,h,he=>by simp only[ab9,aav]at h;subst h;rw[E3,if_pos he.symm];rfl
 |y::r,n,i+1,e,hn,h,he=>by
  rw[aaL,abH]at hn;have h:r[i]? =some e:=by simpa using h
  have dh:¬x=y.1:=λh2=>hn.1 (by rw[<-h2,<-he];exact aal.2 ⟨e,Tp h,rfl⟩)
  rw[E3,if_neg dh,Pu x r (n+1) i e hn.2 h he,show n+1+i=n+(i+1) by omega]
abbrev Pr:=List ((Int×List (Int×Int))×Nat)
def vZ(l:List Obj)(L0:Pr)(seen:List Nat):Pr:=L0.filter λx=>gk l x.1.1|| !seen.contains x.2
theorem R0(l:List Obj)(L0:Pr):vZ l L0 []=L0:=adf.2 aE
theorem Ck:∀{L:Pr}{x y:(Int×List (Int×Int))×Nat},(L.map (·.2)).Nodup->x∈L->y∈L->x.2=y.2->x=y
 | [],_,_,_,h,_,_=>by cases h
 |z::r,x,y,hn,hx,hy,he=>by
  rw[aaL,abH]at hn;rcases aaJ.1 hx with h1|h1<;>rcases aaJ.1 hy with h2|h2
  .rw[h1,h2]
  .rw[h1]at he;exact absurd (he▸aal.2 ⟨y,h2,rfl⟩) hn.1
  .rw[h2]at he;exact absurd (he▸aal.2 ⟨x,h1,rfl⟩) hn.1
  .exact Ck hn.2 h1 h2 he
theorem I0{α:Type}{p q:α->Bool}(h:∀z,p z=true->q z=true):∀r:List α,(r.filter p).length<=(r.filter q).length
 | []=>Ym _
 |z::r=>by
  have ih:=I0 h r;rw[ab0,ab0];by_cases hp:p z=true
  .rw[if_pos hp,if_pos (h z hp),aau,aau];omega
  .rw[if_neg hp];split
   .rw[aau];omega
   .exact ih
theorem R1{l:List Obj}{L0:Pr}{seen:List Nat}{s:Nat}{x:(Int×List (Int×Int))×Nat}(hx:x∈L0)(hs:x.2=s)(hn:(L0.map (·.2)).Nodup)(hk:gk l x.1.1=true):vZ l L0 (s::seen)=vZ l L0 seen:=by
 refine ad1 λy hy=>?_
 by_cases h:y.2=s
 .have:=Ck hn hy hx (h.trans hs.symm);subst this;rw[hk];simp
 .congr 1;simp[h]
theorem EC:∀{L:Pr}{i:Nat}{x:(Int×List (Int×Int))×Nat},L[i]? =some x->(L.map (·.2)).Nodup->L.filter (λy=>!(y.2==x.2))=L.eraseIdx i
 | [],i,e,h,_=>by simp at h
 |x::r,0,e,h,hn=>by
  simp only[ab9,aav]at h;subst h;rw[aaL,abH]at hn;rw[ab0,if_neg aE,List.eraseIdx_zero,List.tail_cons];refine adf.2 λy hy=>?_
  have:y.2≠x.2:=λhe=>hn.1 (he▸aal.2 ⟨y,hy,rfl⟩)
  simpa using this
 |x::r,i+1,e,h,hn=>by
  simp only[abK]at h;rw[aaL,abH]at hn;have:x.2≠e.2:=λhe=>hn.1 (he▸aal.2 ⟨e,Tp h,rfl⟩)
  rw[ab0,if_pos (by simpa using this),List.eraseIdx_cons_succ,EC h hn.2]
theorem R2{l:List Obj}{L0:Pr}{seen:List Nat}{i:Nat}{x:(Int×List (Int×Int))×Nat}(hx:(vZ l L0 seen)[i]? =some x)(hn:(L0.map (·.2)).Nodup)(hk:gk l x.1.1=false):vZ l L0 (x.2::seen)=(vZ l L0 seen).eraseIdx i:=by
 have Qz:((vZ l L0 seen).map (·.2)).Nodup:=(List.filter_sublist.map _).nodup hn
 rw[<-EC hx Qz,vZ,vZ,List.filter_filter];have Vw:x∈L0:=(aca.1 (Tp hx)).1;refine ad1 λy hy=>?_
 by_cases h:y.2=x.2
 .have:=Ck hn hy Vw h;subst this;rw[hk];simp
 .simp[h]
theorem VE{l:List Obj}{L0:Pr}{seen:List Nat}(h:∀s,s∈(vZ l L0 seen).map (·.2)->s∈seen):wL (vZ l L0 seen)=tk l (wL L0):=by
 have:vZ l L0 seen=L0.filter λx=>gk l x.1.1:=by
  refine ad1 λy hy=>?_
  cases hk:gk l y.1.1 with
  |true=>rfl
  |false=>
   simp only[acZ];cases hc:seen.contains y.2 with
   |true=>rfl
   |false=>
    have:=h y.2 (aal.2 ⟨y,aca.2 ⟨hy,by rw[hc];simp⟩,rfl⟩)
    rw[List.contains_eq_mem]at hc;simp at hc;exact absurd this hc
 rw[this,wL,wL,tk,List.filter_map];rfl
def left(L0:Pr)(seen:List Nat):Nat:=(L0.filter λx=>!seen.contains x.2).length
theorem R3{L0:Pr}{seen:List Nat}{x:(Int×List (Int×Int))×Nat}(hx:x∈L0)(hs:¬x.2∈seen):left L0 (x.2::seen)<left L0 seen:=by
 unfold left
 induction L0 with
 |nil=>cases hx
 |cons y r ih=>
  have mono:(r.filter λz=>!(x.2::seen).contains z.2).length<=(r.filter λz=>!seen.contains z.2).length:=by exact I0 (λz hz=>by simp at hz|-;exact hz.2) r
  rw[ab0,ab0];rcases aaJ.1 hx with rfl|hx
  .rw[if_neg aE,if_pos (by simpa using hs),aau]
   omega
  .have:=ih hx;by_cases h1:(!(x.2::seen).contains y.2)=true
   .have h2:(!seen.contains y.2)=true:=by simp at h1|-;exact h1.2
    rw[if_pos h1,if_pos h2,aau,aau];omega
   .rw[if_neg h1];split
    .rw[aau];omega
    .exact this
end Kn
namespace Kn
structure oF(k x:Kr):Prop where
 o:∀(i:Nat)o,k.l[i]? =some o->o.ag≠0->∃o':Obj,x.l[i]? =some o'/\o'.ag=o.ag/\o'.ba=o.ba/\(∀z,sE o z->sE o' z)/\
  (∀z,sQ o z->sQ o' z\/∃(t:Nat)(y:bi)(s:eh),x.ps[t]? =some y/\y.aL=true/\s∈y.aQ/\s.has=true/\s.dF=z)
 p:∀(c:Nat)o,k.ops[c]? =some o->0<=o.bm->∃o':bH,x.ops[c]? =some o'/\o'.bm=o.bm
 s:∀(t:Nat)y,k.ps[t]? =some y->y.aL=true->∃y':bi,x.ps[t]? =some y'/\y'.aL=true/\∀s,s∈y.aQ->s.has=true->∃s',s'∈y'.aQ/\s'.has=true/\s'.dF=s.dF
 nl:∀(i:Nat)o,x.l[i]? =some o->o.ag≠0->(∃o0,k.l[i]? =some o0/\o0.ag≠0)\/∃(t:Nat)(y:bi)(s:eh)(c:Nat)(o1:bH),x.ps[t]? =some y/\y.aL=true/\s∈y.aQ/\s.has=true/\s.dF=c/\x.ops[c]? =some o1/\o1.bm=i
 no:∀(c:Nat)o,x.ops[c]? =some o->k.ops[c]? =some o\/∃(t:Nat)(y:bi)(s:eh),x.ps[t]? =some y/\y.aL=true/\s∈y.aQ/\s.has=true/\s.dF=c
 np:∀(t:Nat)y,x.ps[t]? =some y->y.aL=true->(∃y0,k.ps[t]? =some y0/\y0.aL=true)\/∃o,o∈x.l/\dJ (t:Int) o=true
theorem oF.vO{k x:Kr}(e:oF k x){z:Int}{n:Nat}(h:_root_.Go.Proofs.YtodckkkbiidffaaGreatDoor.vO k.l z n):_root_.Go.Proofs.YtodckkkbiidffaaGreatDoor.vO x.l z n:=by
 obtain⟨rfl,o,ho,hk⟩:=h;obtain⟨o',h1,h2,-⟩:=e.o n o ho hk;exact⟨rfl,o',h1,by rw[h2];exact hk⟩
theorem oF.NI{k x:Kr}(e:oF k x)(hk:KI k){b b2:Mk}(hb:gY k.l k.ops k.ps b)(hx:gY x.l x.ops x.ps b2):
  (∀i,dp b.O i->dp b2.O i)/\∀(c:Nat),dp b.P c->∀o,k.ops[c]? =some o->0<=o.bm->dp b2.P c:=by
 have hvP:∀(c:Nat)o,k.ops[c]? =some o->0<=o.bm->∀z:Int,z=c->vP x.ops z c:=λc o ho h0 z hz=>by obtain⟨o',h1,_⟩:=e.p c o ho h0;exact⟨hz,(Km.1 h1).1⟩
 have ir:=hb.oq (λi=>dp b2.O i) (λc=>∀o,k.ops[c]? =some o->0<=o.bm->dp b2.P c) ⟨λi o hi ho z n hz hv=>?_,λi o hi ho z c hz hv o1 T2 h0=>?_,λc o hc ho n hv=>?_⟩
  ⟨λn hv=>hx.nw.1 n (e.vO hv),λp pr hp bC s hs hh c hv o1 T2 h0=>?_⟩
 .exact⟨ir.1,ir.2⟩
 .have h0:o.ag≠0:=λh0=>by rw[hk.z o (Tp ho) h0]at hz;obtain⟨nm,ML⟩:=hz;simp[ij]at ML
  obtain⟨o',h1,-,-,h4,-⟩:=e.o i o ho h0;exact hx.cl.e i o' hi h1 z n (h4 z hz) (e.vO hv)
 .have H3:o.ag≠0:=λh0=>by rw[hk.z o (Tp ho) h0]at hz;obtain⟨q,hq,-⟩:=hz;simp[ij]at hq
  obtain⟨o',h1,-,-,-,h5⟩:=e.o i o ho H3;rcases h5 z hz with h6|⟨t,y,s,g1,g2,g3,g4,g5⟩
  .exact hx.cl.q i o' hi h1 z c h6 (hvP c o1 T2 h0 z hv.1)
  .exact hx.nw.2 t y g1 g2 s g3 g4 c (hvP c o1 T2 h0 _ (by rw[g5];exact hv.1))
 .have h0:0<=o.bm:=by have:=hv.1;omega
  obtain⟨o',h1,h2⟩:=e.p c o ho h0;exact hx.cl.p c o' (hc o ho h0) h1 n (by rw[h2];exact e.vO hv)
 .obtain⟨y',h1,h2,h3⟩:=e.s p pr hp bC;obtain⟨s',h4,h5,h6⟩:=h3 s hs hh;exact hx.nw.2 p y' h1 h2 s' h4 h5 c (hvP c o1 T2 h0 _ (by rw[h6];exact hv.1))
theorem KI.Zi{k x:Kr}(h:KI k)(hs:LW k)(hx:KI x)(e:oF k x):eB x=Kb x:=by
 obtain⟨b,hb⟩:=hs.left h;refine hx.Ze (λb2 fI=>?_) (λt y hy=>?_)
 .obtain⟨m1,m2⟩:=e.NI h hb.ok fI;have TK:∀(t:Nat)(y:bi)(s:eh)(c:Nat),x.ps[t]? =some y->y.aL=true->s∈y.aQ->s.has=true->s.dF=c->c<x.ops.length->dp b2.P c:=λt y s c g1 g2 g3 g4 g5 g6=>
   fI.nw.2 t y g1 g2 s g3 g4 c ⟨g5,g6⟩
  refine⟨λn o ho hk=>?_,λn o ho hn=>?_⟩
  .rcases e.nl n o ho hk with⟨o0,h1,h2⟩|⟨t,y,s,c,o1,g1,g2,g3,g4,g5,g6,g7⟩
   .exact m1 n (hb.all n o0 h1 h2)
   .exact fI.cl.p c o1 (TK t y s c g1 g2 g3 g4 g5 (Km.1 g6).1) g6 n ⟨g7,o,ho,hk⟩
  .rcases e.no n o ho with h1|⟨t,y,s,g1,g2,g3,g4,g5⟩
   .by_cases qy:dp b.P n
    .exact absurd (m2 n qy o h1 (h.Zf hb.ok qy h1)) hn
    .exact hb.ops n o h1 qy
   .exact absurd (TK t y s n g1 g2 g3 g4 g5 (Km.1 ho).1) hn
 .cases ZS:y.aL with
  |false=>simp[iP,ZS]
  |true=>
   by_cases h0:t=0
   .subst h0;simp[iP]
   have held:∃o,o∈x.l/\dJ (t:Int) o=true:=by
    rcases e.np t y hy ZS with⟨y',Vr,A2⟩|h1
    .have:=hb.prs t y' Vr;unfold iP at this;simp only[A2,adg,adm,decide_eq_false_iff_not,Bool.not_eq_false',abc]at this;rcases this with h3|⟨o,ho,hh⟩
     .omega
     .obtain⟨n,hn⟩:=aaa ho;obtain⟨o',g1,g2,g3,-⟩:=e.o n o hn (xI hh);refine⟨o',Tp g1,?_⟩;unfold dJ at hh|-;rw[g2,g3];exact hh
    .exact h1
   have ha:(x.l.any (dJ (t:Int)))=true:=by rw[abc];exact held
   unfold iP;rw[ha];simp
end Kn
namespace Kn
structure OX(N:Nat->Prop)(l l':List Obj):Prop where
 m:∀(i:Nat)o,l[i]? =some o->o.ag≠0->∃o':Obj,l'[i]? =some o'/\o'.ag=o.ag/\o'.ba=o.ba/\o'.ar=o.ar
 n:∀(i:Nat)o',l'[i]? =some o'->o'.ag≠0->(∃o,l[i]? =some o/\o.ag≠0)\/(N i/\o'.ar=[])
def OE(l l':List Obj):Prop:=∀(i:Nat)o o',l[i]? =some o->o.ag≠0->l'[i]? =some o'->∀z,sE o z->sE o' z
theorem OX.refl(N:Nat->Prop)(l:List Obj):OX N l l:=⟨λi o h _=>⟨o,h,rfl,rfl,rfl⟩,λi o h hk=>.inl ⟨o,h,hk⟩⟩
theorem OE.refl(l:List Obj):OE l l:=λi o o' h _ h' z hz=>by rw[h]at h';cases h';exact hz
theorem OX.trans{N:Nat->Prop}{a b c:List Obj}(h:OX N a b)(g:OX N b c):OX N a c:=by
 refine⟨λi o ho hk=>?_,λi o ho hk=>?_⟩
 .obtain⟨o1,h1,h2,h3,h4⟩:=h.m i o ho hk;obtain⟨o2,g1,g2,g3,g4⟩:=g.m i o1 h1 (by rw[h2];exact hk)
  exact⟨o2,g1,g2.trans h2,g3.trans h3,g4.trans h4⟩
 .rcases g.n i o ho hk with⟨o1,g1,g2⟩|g1
  .rcases h.n i o1 g1 g2 with h1|⟨h1,h2⟩
   .exact .inl h1
   .obtain⟨o2,q1,_,_,q4⟩:=g.m i o1 g1 g2;rw[ho]at q1;cases q1;exact .inr ⟨h1,q4.trans h2⟩
  .exact .inr g1
theorem OE.trans{N:Nat->Prop}{a b c:List Obj}(hx:OX N a b)(h:OE a b)(g:OE b c):OE a c:=λi o o2 ho hk ia z hz=>by
 obtain⟨o1,h1,h2,_⟩:=hx.m i o ho hk;exact g i o1 o2 h1 (by rw[h2];exact hk) ia z (h i o o1 ho hk h1 z hz)
theorem OX.set(N:Nat->Prop){l:List Obj}{n:Nat}{o o':Obj}(ho:l[n]? =some o)(h:o'.ag=o.ag/\o'.ba=o.ba/\o'.ar=o.ar):OX N l (l.set n o'):=by
 have hn:=(Km.1 ho).1;refine⟨λi a ha hk=>?_,λi a ha hk=>?_⟩
 .by_cases e:n=i
  .subst e;rw[ho]at ha;cases ha;exact⟨o',TH hn,h.1,h.2.1,h.2.2⟩
  .exact⟨a,by rw[U7 e];exact ha,rfl,rfl,rfl⟩
 .by_cases e:n=i
  .subst e;rw[TH hn]at ha;cases ha;exact .inl ⟨o,ho,by rw[<-h.1];exact hk⟩
  .rw[U7 e]at ha;exact .inl ⟨a,ha,hk⟩
theorem OE.set{l:List Obj}{n:Nat}{o o':Obj}(ho:l[n]? =some o)(h:o'.ak=o.ak):OE l (l.set n o'):=λi a b ha _ hb z hz=>by
 have hn:=(Km.1 ho).1;by_cases e:n=i
 .subst e;rw[ho]at ha;cases ha;rw[TH hn]at hb;cases hb;unfold sE;rw[h];exact hz
 .rw[U7 e,ha]at hb;cases hb;exact hz
theorem OX.make{l:List Obj}{o:Obj}(h:(aH l o).2.2=0)(hl:l.length<=40)(hq:o.ar=[]):∃j:Nat,(aH l o).2.1=j/\OX (λi=>i=j) l (aH l o).1/\OE l (aH l o).1/\(aH l o).1[j]? =some o:=by
 obtain⟨j,h1,h2,h3,h4,_,_⟩:=gh h hl;have dh:∀i a,l[i]? =some a->a.ag≠0->i≠j:=λi a ha hk e=>hk (h4 a (e▸ha))
 refine⟨j,h1,⟨λi a ha hk=>⟨a,by rw[h3 i (dh i a ha hk)];exact ha,rfl,rfl,rfl⟩,λi a ha hk=>?_⟩,λi a b ha hk hb z hz=>?_,h2⟩
 .by_cases e:i=j
  .subst e;rw[h2]at ha;cases ha;exact .inr ⟨rfl,hq⟩
  .rw[h3 i e]at ha;exact .inl ⟨a,ha,hk⟩
 .rw[h3 i (dh i a ha hk),ha]at hb;cases hb;exact hz
theorem OX.two(N:Nat->Prop){l l':List Obj}{n p:Nat}{o q o' q':Obj}(hn:l[n]? =some o)(hp:l[p]? =some q)(h1:l'[n]? =some o')(h2:l'[p]? =some q')(h3:∀j,j≠n->j≠p->l'[j]? =l[j]?)(ho:o'.ag=o.ag/\o'.ba=o.ba/\o'.ar=o.ar)(hq:q'.ag=q.ag/\q'.ba=q.ba/\q'.ar=q.ar):OX N l l':=by
 refine⟨λi a ha hk=>?_,λi a ha hk=>?_⟩
 .by_cases e:i=n
  .subst e;rw[hn]at ha;cases ha;exact⟨o',h1,ho.1,ho.2.1,ho.2.2⟩
  by_cases e2:i=p
  .subst e2;rw[hp]at ha;cases ha;exact⟨q',h2,hq.1,hq.2.1,hq.2.2⟩
  .exact⟨a,by rw[h3 i e e2];exact ha,rfl,rfl,rfl⟩
 .by_cases e:i=n
  .subst e;rw[h1]at ha;cases ha;exact .inl ⟨o,hn,by rw[<-ho.1];exact hk⟩
  by_cases e2:i=p
  .subst e2;rw[h2]at ha;cases ha;exact .inl ⟨q,hp,by rw[<-hq.1];exact hk⟩
  .rw[h3 i e e2]at ha;exact .inl ⟨a,ha,hk⟩
theorem OX.enter(N:Nat->Prop){b:Bool}{l:List Obj}{cL bm:Int}{name:ByteArray}(dh:∀(p:Nat)q,bm=p->l[p]? =some q->q.al=0)(h:(cQ b l cL name bm).2=0):OX N l (cQ b l cL name bm).1/\OE l (cQ b l cL name bm).1:=by
 obtain⟨n,p,o,q,rfl,rfl,hn,hp,hq,ho,Bd,_,_,_,e⟩:=pC h;rw[e];have Ca:n≠p:=λe=>by subst e;rw[hn]at hp;cases hp;exact Bd (dh n o rfl hn)
 obtain⟨g1,g2,g3,_⟩:=uA hn hp Ca name;refine⟨OX.two N hn hp g1 g2 g3 ⟨rfl,rfl,rfl⟩ ⟨rfl,rfl,rfl⟩,λi a a' ha hk To z hz=>?_⟩
 by_cases e1:i=n
 .subst e1;rw[hn]at ha;cases ha;rw[g1]at To;cases To;obtain⟨nm,hm⟩:=hz;refine⟨nm,?_⟩;show gl (nm,z)∈(iZ (name,((p:Nat):Int)) (dO o)).map gl;refine aal.2 ⟨(nm,z),yo ?_,rfl⟩;refine aal.2 ⟨gl (nm,z),hm,rfl⟩
 by_cases e2:i=p
 .subst e2;rw[hp]at ha;cases ha;rw[g2]at To;cases To;exact hz
 .rw[g3 i e1 e2,ha]at To;cases To;exact hz
theorem uJ{k:Kr}(h:KI k){f:R4}{o:Obj}(ho:Hg o)(he:(b7 k f o).2.2=0):∃j:Nat,(b7 k f o).2.1=j/\OX (λi=>i=j) k.l (b7 k f o).1.l/\OE k.l (b7 k f o).1.l/\(b7 k f o).1.ops=k.ops/\(b7 k f o).1.ps=k.ps:=by
 obtain⟨j,C⟩:=ti h.ll he;obtain⟨j',e1,g1,g2,g3⟩:=OX.make C.em h.ll (show(gS o).ar=[]from(ho.RF k).q);have:j'=j:=by have:=C.ej;omega
 subst this;obtain⟨q1,q2⟩:=OX.enter (λi=>i=j') (λp q hp hq=>by have:p=j':=om;subst this;rw[g3]at hq;cases hq;exact(ho.RF k).l) C.ee
 rw[C.R];exact⟨j',rfl,g1.trans q1,OE.trans g1 g2 q2,rfl,rfl⟩
end Kn
namespace Kn
theorem Lp{k:Kr}(h:KI k)(N:Nat->Prop){cL:Int}{name:ByteArray}(he:(cT k.l cL name).2.2=0):OX N k.l (cT k.l cL name).1:=by
 obtain⟨n,p,o,q,rfl,hn,fC,hf,hp,OY,hR,_⟩:=th he;obtain⟨e0,Ax,ML,Z5⟩:∃e0,e0∈dO o/\e0.1.toList=name.toList/\e0.2=(p:Int):=by
  rcases i3 (dO o) name with⟨e,a1,a2,a3⟩|⟨a3,_⟩
  .exact⟨e,a1,a2,om⟩
  .omega
 have Ca:n≠p:=λe=>by
  subst e;rw[hn]at hp;cases hp;have:o.ak=[]:=aag (by have:=λh=>OY ⟨fC,h⟩;omega)
  rw[dO,this]at Ax;cases Ax
 rw[hR];obtain⟨g1,g2,g3,_⟩:=AB hn hp Ca name;exact OX.two N hn hp g1 g2 g3 ⟨rfl,rfl,rfl⟩ ⟨rfl,rfl,rfl⟩
theorem Pv(N:Nat->Prop)(l:List Obj)(z:Int):OX N l (lH l z)/\OE l (lH l z):=by
 unfold lH;split
 .rename_i o ho;exact⟨OX.set N ho ⟨rfl,rfl,rfl⟩,OE.set ho rfl⟩
 .exact⟨.refl _ _,.refl _⟩
theorem Lq{k:Kr}(h:KI k){c:Cl}{f:R4}(hf:f.eS=0->f.bm= -1\/gn k.l f.bm)(he:(bT k c f).2.2=0):
  ∃j:Nat,(bT k c f).2.1=j/\OX (λi=>i=j) k.l (bT k c f).1.l/\OE k.l (bT k c f).1.l/\(bT k c f).1.ops=k.ops/\(bT k c f).1.ps=k.ps:=by
 unfold Kn.bT at he|-;split at he
 .rename_i h1;exact absurd he h1
 rename_i h1;rw[if_neg h1];have hf:=hf (Yk h1);split at he
 .rename_i h2;rw[if_pos h2];split at he
  .cases he
  .rename_i h3;rw[if_neg h3];exact uJ h IP he
 .rename_i h2;rw[if_neg h2];split at he
  .cases he
  .rename_i h3;rw[if_neg h3];rcases hf with hf|⟨j,x,hj,_,_⟩
   .exact absurd (by show f.bm<0;omega) h2
   .exact⟨j,hj,.refl _ _,.refl _,rfl,rfl⟩
theorem jQ{ps:List bi}{p:Nat}{y:bi}(hp:ps[p]? =some y)(S:List eh)(t:Nat):(cS ps p S)[t]? =if t=p then some {y with aQ:=S}else ps[t]? :=by
 by_cases e:t=p
 .subst e;rw[if_pos rfl];exact fy hp S
 .rw[if_neg e];exact kn e S
theorem yy{k:Kr}{p:Nat}{y:bi}(hp:k.ps[p]? =some y)(bC:y.aL=true){l1 l2:List Obj}{bm:Nat}(hox:OX (λi=>i=bm) k.l l2)(hoe:OE k.l l2){bU:Int}{R:Kr}{i:Nat}{S:List eh}(O:TJ ⟨l1,k.ops,k.ps⟩ p y bm bU R i S):oF k ⟨l2,R.ops,R.ps⟩:=by
 have eo:∀m:Nat,R.ops[m]? =if m=i then some ⟨(bm:Int),0⟩else k.ops[m]? :=O.o
 have ep:R.ps=cS k.ps p S:=O.ps;have TM:R.ps[p]? =some {y with aQ:=S}:=by rw[ep];exact fy hp S
 refine⟨λj o ho hk=>?_,λm o ho h0=>?_,λt z hz hl=>?_,λj o ho hk=>?_,λm o ho=>?_,λt z hz hl=>?_⟩
 .obtain⟨o',h1,h2,h3,h4⟩:=hox.m j o ho hk;exact⟨o',h1,h2,h3,hoe j o o' ho hk h1,λz hz=>.inl (by unfold sQ;rw[h4];exact hz)⟩
 .refine⟨o,?_,rfl⟩;show R.ops[m]? =_;rw[eo,if_neg λe=>?_]
  .exact ho
  .subst e;have:=O.yS o ho;omega
 .by_cases e:t=p
  .subst e;rw[hp]at hz;cases hz;exact⟨_,TM,hl,λs hs hh=>⟨s,O.old s hs hh,hh,rfl⟩⟩
  .exact⟨z,by show R.ps[t]? =_;rw[ep,kn e];exact hz,hl,λs hs hh=>⟨s,hs,hh,rfl⟩⟩
 .rcases hox.n j o ho hk with h1|⟨rfl,_⟩
  .exact .inl h1
  .exact .inr ⟨p,_,⟨true,i,bU⟩,i,⟨(j:Int),0⟩,TM,bC,O.new,rfl,rfl,by show R.ops[i]? =_;rw[eo,if_pos rfl],rfl⟩
 .have ho:R.ops[m]? =some o:=ho;rw[eo]at ho;split at ho
  .rename_i e;subst e;exact .inr ⟨p,_,⟨true,m,bU⟩,TM,bC,O.new,rfl,rfl⟩
  .exact .inl ho
 .have hz:R.ps[t]? =some z:=hz;rw[ep,jQ hp]at hz;split at hz
  .rename_i e;subst e;exact .inl ⟨y,hp,bC⟩
  .exact .inl ⟨z,hz,hl⟩
theorem Lr{k:Kr}{p:Nat}{y:bi}(hp:k.ps[p]? =some y)(bC:y.aL=true){S:List eh}(hS:∀s,s∈y.aQ->s.has=true->∃s',s'∈S/\s'.has=true/\s'.dF=s.dF):oF k ⟨k.l,k.ops,cS k.ps p S⟩:=by
 refine⟨λj o ho hk=>⟨o,ho,rfl,rfl,λ_ h=>h,λ_ h=>.inl h⟩,λm o ho h0=>⟨o,ho,rfl⟩,λt z hz hl=>?_,λj o ho hk=>.inl ⟨o,ho,hk⟩,λm o ho=>.inl ho,λt z hz hl=>?_⟩
 .by_cases e:t=p
  .subst e;rw[hp]at hz;cases hz;exact⟨_,fy hp S,hl,hS⟩
  .exact⟨z,by show(cS k.ps p S)[t]? =_;rw[kn e];exact hz,hl,λs hs hh=>⟨s,hs,hh,rfl⟩⟩
 .have hz:(cS k.ps p S)[t]? =some z:=hz;rw[jQ hp]at hz;split at hz
  .rename_i e;subst e;exact .inl ⟨y,hp,bC⟩
  .exact .inl ⟨z,hz,hl⟩
theorem AH{k:Kr}(h:KI k){p:Nat}{y:bi}(hp:k.ps[p]? =some y)(bC:y.aL=true){c:Cl}{aq:Int}{ax:Bool}(he:(eM k p c aq ax).2.eS=0):
  (∃N,OX N k.l (eM k p c aq ax).1.l)/\oF k (eM k p c aq ax).1/\∃z,(eM k p c aq ax).1.ps[p]? =some z/\z.aL=true:=by
 unfold eM jd at he|-;split at he
 .rename_i h1;exact absurd he h1
 rename_i h1;rw[if_neg h1];obtain⟨j,g1,g2,g3,g4,g5⟩:=Lq h (h.RC aq c.cE ax true) (Yk h1);generalize bT k c (gV k aq c.cE ax true)=X at*
 obtain⟨K1,z,e1⟩:=X;obtain⟨l1,o1,p1⟩:=K1;have g4:o1=k.ops:=g4;have g5:p1=k.ps:=g5;have g1:z=j:=g1;subst g4 g5 g1;simp only at he h1 g2 g3|-;split at he
 .rename_i h2;exact absurd he h2
 rename_i h2;rw[if_neg h2];obtain⟨i,S,O⟩:=jj (k:=⟨l1,k.ops,k.ps⟩) hp (Yk h2);generalize aF ⟨l1,k.ops,k.ps⟩ p (j:Nat) c.aW=RR at*
 obtain⟨⟨rl,ro,rp⟩,fd,e2⟩:=RR;have hl:rl=l1:=O.l;subst hl;have qk:∃z,rp[p]? =some z/\z.aL=true:=⟨{y with aQ:=S},by rw[show rp=cS k.ps p S from O.ps];exact fy hp S,bC⟩
 split
 .obtain⟨t1,t2⟩:=Pv (λi=>i=j) rl (j:Nat)
  exact⟨⟨_,g2.trans t1⟩,yy hp bC (g2.trans t1) (OE.trans g2 g3 t2) O,qk⟩
 .exact⟨⟨_,g2⟩,yy hp bC g2 g3 O,qk⟩
theorem pH{k:Kr}(h:KI k){p:Nat}{y:bi}(hp:k.ps[p]? =some y)(bC:y.aL=true){c:Cl}(he:(fx k p c).2.eS=0):
  (∃N,OX N k.l (fx k p c).1.l)/\oF k (fx k p c).1/\∃z,(fx k p c).1.ps[p]? =some z/\z.aL=true:=by
 unfold fx at he|-;split at he
 .cases he
 rename_i h1;rw[if_neg h1];split at he
 .rename_i h2;rw[if_pos h2];exact AH h hp bC he
 rename_i h2;rw[if_neg h2];split at he
 .rename_i h3;exact absurd he h3
 rename_i h3;rw[if_neg h3];exact AH h hp bC he
end Kn
end Go.Proofs.YtodckkkbiidffaaGreatDoor
