/- Part 15 of 16. -/
import Derived.Test.YtodckkkbiidffaaGreatDoorJ11
import Derived.Test.YtodckkkbiidffaaGreatDoorJ12
import Derived.Test.YtodckkkbiidffaaGreatDoorJ13
import Derived.Test.YtodckkkbiidffaaGreatDoorJ14
import Derived.Shelf.SlSortCmp.WholeK
import Derived.Shelf.SlicesG.Cmp
import Derived.WalkKit
import Derived.OwnWalkIn
set_option linter.unusedVariables false
set_option linter.unusedSimpArgs false
set_option maxRecDepth 100000
set_option maxHeartbeats 0
namespace Go.Proofs.YtodckkkbiidffaaGreatDoor
open Proofs.Tryz
open Go.AM Go.ChangeShapes Go.WideShapes Go.ChangeAt Go.RowKit
namespace Kn
def dQ(o:Obj):List NE:=o.ak.map ou
structure Sk where
 ag:Int
 up:Int
 am:Int
 es:List NE
def vW(o:Obj):Sk:=⟨o.ag,o.up,o.am,dQ o⟩
def skZ:Sk:=⟨0,0,0,[]⟩
inductive Lk(t:List Sk):Nat->Prop
 |aj:Lk t 0
 |step {i j:Nat} {d:Sk} {e:NE} (h:Lk t i) (hd:t[i]? =some d) (he:e∈d.es) (hj:e.2=(j:Nat)):Lk t j
structure Tree(t:List Sk):Prop where
 z:∀(i:Nat)d,t[i]? =some d->d.ag=0->d=skZ
 r0:∃d,t[0]? =some d/\d.ag=2/\d.am=1/\d.up=0
 tr:∀(i:Nat)d e,t[i]? =some d->e∈d.es->∃(j:Nat)(x:Sk),e.2=j/\j≠0/\t[j]? =some x/\x.ag≠0/\x.am=1/\(x.ag=2->x.up=i)
 un:∀(i i':Nat)d d' e e',t[i]? =some d->t[i']? =some d'->e∈d.es->e'∈d'.es->e.2=e'.2->i=i'/\e=e'
 lk:∀(i:Nat)d,t[i]? =some d->d.am≠0->Lk t i
 em:∀(i:Nat)d,t[i]? =some d->d.am=0->d.es=[]
 lr:∀(i:Nat)d,t[i]? =some d->d.am=0\/d.am=1
 ux:∀(i:Nat)d,t[i]? =some d->d.up=i\/d.up=0\/d.ag=2/\∃(u:Nat)(x:Sk)(e:NE),d.up=u/\t[u]? =some x/\e∈x.es/\e.2=i
theorem Tree.YS{t:List Sk}(h:Tree t){i:Nat}{d:Sk}(hd:t[i]? =some d):0<=d.up/\d.up<t.length:=by
 have hi:=(Ki.1 hd).1;rcases h.ux i d hd with h1|h1|⟨_,u,x,e,h1,h2,_⟩
 .omega
 .omega
 .have:=(Ki.1 h2).1;omega
theorem Lk.mono{t t':List Sk}(h:∀(i:Nat)d,t[i]? =some d->d.es≠[]->∃d',t'[i]? =some d'/\∀e,e∈d.es->e∈d'.es){i:Nat}(hl:Lk t i):Lk t' i:=by
 induction hl with
 |aj=>exact .aj
 |step _ hd he hj ih=>
  obtain⟨d',h1,h2⟩:=h _ _ hd (λe=>by rw[e]at he;cases he)
  exact .step ih h1 (h2 _ he) hj
theorem Tree.new{t t':List Sk}(h:Tree t){k:Nat}{s:Sk}(hs:s.ag≠0/\s.am=0/\s.es=[]/\(s.up=0\/s.up=k))(h1:t'[k]? =some s)(h2:∀j,j≠k->t'[j]? =t[j]?)(h3:∀d,t[k]? =some d->d.ag=0):Tree t':=by
 obtain⟨hk,hl,he,hu⟩:=hs;have old:∀(i:Nat)d,t[i]? =some d->d.ag≠0->t'[i]? =some d:=λi d hd hn=>by rw[h2 i λe=>hn (h3 d (e▸hd))];exact hd
 have YT:∀(i:Nat)d e,t[i]? =some d->e∈d.es->t'[i]? =some d:=λi d e hd he=>old i d hd λhz=>by rw[h.z i d hd hz]at he;cases he
 have qj:∀(i:Nat)d,t'[i]? =some d->(i=k/\d=s)\/t[i]? =some d:=λi d hd=>by
  by_cases e:i=k
  .subst e;rw[h1]at hd;cases hd;exact .inl ⟨rfl,rfl⟩
  .rw[h2 i e]at hd;exact .inr hd
 have hE:∀(i:Nat)d e,t'[i]? =some d->e∈d.es->t[i]? =some d:=λi d e hd hx=>by
  rcases qj i d hd with⟨_,rfl⟩|h
  .rw[he]at hx;cases hx
  .exact h
 have Qi:∀i,Lk t i->Lk t' i:=λi hi=>hi.mono λi d hd hn=>by obtain⟨e,hx⟩:=adv _ hn;exact⟨d,YT i d e hd hx,λ_ h=>h⟩
 refine⟨λi d hd hz=>?_,?_,λi d e hd hx=>?_,λi i' d d' e e' hd yT hx tK nT=>h.un i i' d d' e e' (hE i d e hd hx) (hE i' d' e' yT tK) hx tK nT,λi d hd hn=>?_,λi d hd hn=>?_,λi d hd=>?_,λi d hd=>?_⟩
 .rcases qj i d hd with⟨_,rfl⟩|h'
  .exact absurd hz hk
  .exact h.z i d h' hz
 .obtain⟨d,a1,a2,a3⟩:=h.r0;exact⟨d,old 0 d a1 om,a2,a3⟩
 .obtain⟨j,x,a1,a2,a3,a4,a5⟩:=h.tr i d e (hE i d e hd hx) hx;exact⟨j,x,a1,a2,old j x a3 a4,a4,a5⟩
 .rcases qj i d hd with⟨_,rfl⟩|h'
  .exact absurd hl hn
  .exact Qi i (h.lk i d h' hn)
 .rcases qj i d hd with⟨_,rfl⟩|h'
  .exact he
  .exact h.em i d h' hn
 .rcases qj i d hd with⟨_,rfl⟩|h'
  .exact .inl hl
  .exact h.lr i d h'
 .rcases qj i d hd with⟨rfl,rfl⟩|h'
  .exact hu.elim (λe=>.inr (.inl e)) .inl
  .rcases h.ux i d h' with a|a|⟨a0,u,x,e,a1,a2,a3,a4⟩
   .exact .inl a
   .exact .inr (.inl a)
   .exact .inr (.inr ⟨a0,u,x,e,a1,YT u x e a2 a3,a3,a4⟩)
theorem Tree.enter{t t':List Sk}(h:Tree t){n p:Nat}{d q d' q':Sk}(hn:t[n]? =some d)(hp:t[p]? =some q)(my:d.am≠0)(Ia:q.am=0)(KX:q.ag≠0){nm:ByteArray}(h1:t'[n]? =some d')(h2:t'[p]? =some q')(h3:∀j,j≠n->j≠p->t'[j]? =t[j]?)(hd:d'.ag=d.ag/\d'.up=d.up/\d'.am=d.am)(TF:∀e,e∈d'.es↔e∈d.es\/e=(nm,(p:Int)))(hq:q'.ag=q.ag/\q'.am=1/\q'.es=q.es/\q'.up=if q.ag=2 then(n:Int)else q.up):Tree t':=by
 have BY:n≠p:=λe=>by subst e;rw[hn]at hp;cases hp;exact my Ia
 have O5:q.es=[]:=h.em p q hp Ia;have yY:d.ag≠0:=λe=>by rw[h.z n d hn e]at my;exact my rfl
 have zc:p≠0:=λe=>by obtain⟨r,a1,a2,a3,a4⟩:=h.r0;rw[e,a1]at hp;cases hp;omega
 have nop:∀(i:Nat)x e,t[i]? =some x->e∈x.es->e.2≠(p:Int):=λi x e hx he hc=>by obtain⟨j,y,a1,_,a3,_,a5,_⟩:=h.tr i x e hx he;have:j=p:=om;subst this;rw[hp]at a3;cases a3;omega
 have qj:∀(i:Nat)x,t'[i]? =some x->(i=n/\x=d')\/(i=p/\x=q')\/(i≠n/\i≠p/\t[i]? =some x):=λi x hx=>by
  by_cases e:i=n
  .subst e;rw[h1]at hx;cases hx;exact .inl ⟨rfl,rfl⟩
  .by_cases e2:i=p
   .subst e2;rw[h2]at hx;cases hx;exact .inr (.inl ⟨rfl,rfl⟩)
   .rw[h3 i e e2]at hx;exact .inr (.inr ⟨e,e2,hx⟩)
 have back:∀(i:Nat)x e,t'[i]? =some x->e∈x.es->(∃y,t[i]? =some y/\e∈y.es)\/(i=n/\e=(nm,(p:Int))):=λi x e hx he=>by
  rcases qj i x hx with⟨rfl,rfl⟩|⟨rfl,rfl⟩|⟨_,_,hx⟩
  .rcases(TF e).1 he with he|he
   .exact .inl ⟨d,hn,he⟩
   .exact .inr ⟨rfl,he⟩
  .rw[hq.2.2.1,O5]at he;cases he
  .exact .inl ⟨x,hx,he⟩
 have fwd:∀(i:Nat)x,t[i]? =some x->∃x',t'[i]? =some x'/\x'.ag=x.ag/\∀e,e∈x.es->e∈x'.es:=λi x hx=>by
  by_cases e:i=n
  .subst e;rw[hn]at hx;cases hx;exact⟨d',h1,hd.1,λe he=>(TF e).2 (.inl he)⟩
  .by_cases e2:i=p
   .subst e2;rw[hp]at hx;cases hx;exact⟨q',h2,hq.1,λe he=>by rw[O5]at he;cases he⟩
   .exact⟨x,by rw[h3 i e e2];exact hx,rfl,λ_ h=>h⟩
 have Qi:∀i,Lk t i->Lk t' i:=λi hi=>hi.mono λi x hx _=>by obtain⟨x',a1,_,a2⟩:=fwd i x hx;exact⟨x',a1,a2⟩
 refine⟨λi x hx hz=>?_,?_,λi x e hx he=>?_,λi i' x x' e e' hx tK he mT nT=>?_,λi x hx P2=>?_,λi x hx hz=>?_,λi x hx=>?_,λi x hx=>?_⟩
 .rcases qj i x hx with⟨rfl,rfl⟩|⟨rfl,rfl⟩|⟨_,_,hx⟩
  .exact absurd (hd.1▸hz) yY
  .exact absurd (hq.1▸hz) KX
  .exact h.z i x hx hz
 .obtain⟨r,a1,a2,a3,a4⟩:=h.r0;by_cases e:(0:Nat)=n
  .subst e;rw[a1]at hn;cases hn;exact⟨d',h1,by rw[hd.1];exact a2,by rw[hd.2.2];exact a3,by rw[hd.2.1];exact a4⟩
  .exact⟨r,by rw[h3 0 e (λe=>zc e.symm)];exact a1,a2,a3,a4⟩
 .rcases back i x e hx he with⟨y,hy,RG⟩|⟨rfl,rfl⟩
  .obtain⟨j,z,a1,a2,a3,a4,a5,a6⟩:=h.tr i y e hy RG;by_cases ej:j=n
   .subst ej;rw[hn]at a3;cases a3;exact⟨j,d',a1,a2,h1,by rw[hd.1];exact a4,by rw[hd.2.2];exact a5,by rw[hd.1,hd.2.1];exact a6⟩
   .have ejp:j≠p:=λe=>by subst e;rw[hp]at a3;cases a3;omega
    exact⟨j,z,a1,a2,by rw[h3 j ej ejp];exact a3,a4,a5,a6⟩
  .refine⟨p,q',rfl,zc,h2,by rw[hq.1];exact KX,hq.2.1,λhk=>?_⟩
   rw[hq.2.2.2,if_pos (by rw[<-hq.1];exact hk)]
 .rcases back i x e hx he with⟨y,hy,RG⟩|⟨rfl,rfl⟩
  .rcases back i' x' e' tK mT with⟨y',Vp,O6⟩|⟨rfl,rfl⟩
   .exact h.un i i' y y' e e' hy Vp RG O6 nT
   .exact absurd nT (nop i y e hy RG)
  .rcases back i' x' e' tK mT with⟨y',Vp,O6⟩|⟨rfl,rfl⟩
   .exact absurd nT.symm (nop i' y' e' Vp O6)
   .exact⟨rfl,rfl⟩
 .rcases qj i x hx with⟨rfl,rfl⟩|⟨rfl,rfl⟩|⟨_,_,hx⟩
  .exact Qi _ (h.lk _ d hn my)
  .exact .step (Qi _ (h.lk _ d hn my)) h1 ((TF _).2 (.inr rfl)) rfl
  .exact Qi _ (h.lk i x hx P2)
 .rcases qj i x hx with⟨rfl,rfl⟩|⟨rfl,rfl⟩|⟨_,_,hx⟩
  .exact absurd (hd.2.2▸hz) my
  .rw[hq.2.1]at hz;omega
  .exact h.em i x hx hz
 .rcases qj i x hx with⟨rfl,rfl⟩|⟨rfl,rfl⟩|⟨_,_,hx⟩
  .rw[hd.2.2];exact h.lr i d hn
  .exact .inr hq.2.1
  .exact h.lr i x hx
 .have key:∀(i:Nat)(y:Sk),t[i]? =some y->(y.up=i\/y.up=0\/y.ag=2/\∃(u:Nat)(x:Sk)(e:NE),y.up=u/\t'[u]? =some x/\e∈x.es/\e.2=i):=λi y hy=>by
   rcases h.ux i y hy with a|a|⟨a0,u,z,e,a1,a2,a3,a4⟩
   .exact .inl a
   .exact .inr (.inl a)
   .obtain⟨z',b1,_,b2⟩:=fwd u z a2;exact .inr (.inr ⟨a0,u,z',e,a1,b1,b2 e a3,a4⟩)
  rcases qj i x hx with⟨rfl,rfl⟩|⟨rfl,rfl⟩|⟨_,_,hx⟩
  .rw[hd.2.1,hd.1];exact key i d hn
  .rw[hq.2.2.2,hq.1];by_cases e2:q.ag=2
   .rw[if_pos e2];exact .inr (.inr ⟨e2,n,d',_,rfl,h1,(TF _).2 (.inr rfl),rfl⟩)
   .rw[if_neg e2];exact key i q hp
  .exact key i x hx
theorem Tree.Hc{t t':List Sk}(h:Tree t){n p:Nat}{d q d' q':Sk}{e0:NE}(hn:t[n]? =some d)(Al:e0∈d.es)(Z2:e0.2=(p:Int))(hp:t[p]? =some q)(O5:q.es=[])(h1:t'[n]? =some d')(h2:t'[p]? =some q')(h3:∀j,j≠n->j≠p->t'[j]? =t[j]?)(hd:d'.ag=d.ag/\d'.up=d.up/\d'.am=d.am)(TF:∀e,e∈d'.es↔e∈d.es/\e≠e0)(hq:q'.ag=q.ag/\q'.am=0/\q'.es=[]/\q'.up=if q.ag=2 then(p:Int)else q.up):Tree t':=by
 have BY:n≠p:=λe=>by subst e;rw[hn]at hp;cases hp;rw[O5]at Al;cases Al
 obtain⟨p',q2,b1,zc,b3,KX,Ia,_⟩:=h.tr n d e0 hn Al;have:p'=p:=om;subst this;rw[hp]at b3;cases b3;have yY:d.ag≠0:=λe=>by rw[h.z n d hn e]at Al;cases Al
 have qj:∀(i:Nat)x,t'[i]? =some x->(i=n/\x=d')\/(i=p'/\x=q')\/(i≠n/\i≠p'/\t[i]? =some x):=λi x hx=>by
  by_cases e:i=n
  .subst e;rw[h1]at hx;cases hx;exact .inl ⟨rfl,rfl⟩
  .by_cases e2:i=p'
   .subst e2;rw[h2]at hx;cases hx;exact .inr (.inl ⟨rfl,rfl⟩)
   .rw[h3 i e e2]at hx;exact .inr (.inr ⟨e,e2,hx⟩)
 have back:∀(i:Nat)x e,t'[i]? =some x->e∈x.es->∃y,t[i]? =some y/\e∈y.es/\e≠e0:=λi x e hx he=>by
  rcases qj i x hx with⟨rfl,rfl⟩|⟨rfl,rfl⟩|⟨c1,_,hx⟩
  .exact⟨d,hn,((TF e).1 he).1,((TF e).1 he).2⟩
  .rw[hq.2.2.1]at he;cases he
  .exact⟨x,hx,he,λe1=>by subst e1;exact c1 (h.un i n x d e e hx hn he Al rfl).1⟩
 have fwd:∀(i:Nat)x,t[i]? =some x->∃x',t'[i]? =some x'/\x'.ag=x.ag/\∀e,e∈x.es->e≠e0->e∈x'.es:=λi x hx=>by
  by_cases e:i=n
  .subst e;rw[hn]at hx;cases hx;exact⟨d',h1,hd.1,λe he dy=>(TF e).2 ⟨he,dy⟩⟩
  .by_cases e2:i=p'
   .subst e2;rw[hp]at hx;cases hx;exact⟨q',h2,hq.1,λe he=>by rw[O5]at he;cases he⟩
   .exact⟨x,by rw[h3 i e e2];exact hx,rfl,λ_ h _=>h⟩
 have Qi:∀i,Lk t i->i≠p'->Lk t' i:=λi hi=>by
  induction hi with
  |aj=>exact λ_=>.aj
  | @step i j x e hl hx he hj ih=>
   intro hjp;have V4:i≠p':=λe1=>by subst e1;rw[hp]at hx;cases hx;rw[O5]at he;cases he
   obtain⟨x',a1,_,a2⟩:=fwd i x hx;exact .step (ih V4) a1 (a2 e he λe1=>hjp (by subst e1;omega)) hj
 refine⟨λi x hx hz=>?_,?_,λi x e hx he=>?_,λi i' x x' e e' hx tK he mT nT=>?_,λi x hx P2=>?_,λi x hx hz=>?_,λi x hx=>?_,λi x hx=>?_⟩
 .rcases qj i x hx with⟨rfl,rfl⟩|⟨rfl,rfl⟩|⟨_,_,hx⟩
  .exact absurd (hd.1▸hz) yY
  .exact absurd (hq.1▸hz) KX
  .exact h.z i x hx hz
 .obtain⟨r,a1,a2,a3,a4⟩:=h.r0;by_cases e:(0:Nat)=n
  .subst e;rw[a1]at hn;cases hn;exact⟨d',h1,by rw[hd.1];exact a2,by rw[hd.2.2];exact a3,by rw[hd.2.1];exact a4⟩
  .exact⟨r,by rw[h3 0 e (λe=>zc e.symm)];exact a1,a2,a3,a4⟩
 .obtain⟨y,hy,RG,dy⟩:=back i x e hx he;obtain⟨j,z,a1,a2,a3,a4,a5,a6⟩:=h.tr i y e hy RG;by_cases ej:j=n
  .subst ej;rw[hn]at a3;cases a3;exact⟨j,d',a1,a2,h1,by rw[hd.1];exact a4,by rw[hd.2.2];exact a5,by rw[hd.1,hd.2.1];exact a6⟩
  .have ejp:j≠p':=λe1=>by subst e1;exact dy (h.un i n y d e e0 hy hn RG Al (a1.trans Z2.symm)).2
   exact⟨j,z,a1,a2,by rw[h3 j ej ejp];exact a3,a4,a5,a6⟩
 .obtain⟨y,hy,RG,_⟩:=back i x e hx he;obtain⟨y',Vp,O6,_⟩:=back i' x' e' tK mT;exact h.un i i' y y' e e' hy Vp RG O6 nT
 .rcases qj i x hx with⟨rfl,rfl⟩|⟨rfl,rfl⟩|⟨_,c2,hx⟩
  .exact Qi _ (h.lk _ d hn λe=>by rw[h.em i d hn e]at Al;cases Al) BY
  .exact absurd hq.2.1 P2
  .exact Qi _ (h.lk i x hx P2) c2
 .rcases qj i x hx with⟨rfl,rfl⟩|⟨rfl,rfl⟩|⟨_,_,hx⟩
  .rw[h.em i d hn (hd.2.2▸hz)]at Al;cases Al
  .exact hq.2.2.1
  .exact h.em i x hx hz
 .rcases qj i x hx with⟨rfl,rfl⟩|⟨rfl,rfl⟩|⟨_,_,hx⟩
  .rw[hd.2.2];exact h.lr i d hn
  .exact .inl hq.2.1
  .exact h.lr i x hx
 .have key:∀(i:Nat)(y:Sk),t[i]? =some y->i≠p'->(y.up=i\/y.up=0\/y.ag=2/\∃(u:Nat)(x:Sk)(e:NE),y.up=u/\t'[u]? =some x/\e∈x.es/\e.2=i):=λi y hy V4=>by
   rcases h.ux i y hy with a|a|⟨a0,u,z,e,a1,a2,a3,a4⟩
   .exact .inl a
   .exact .inr (.inl a)
   .obtain⟨z',b1,_,b2⟩:=fwd u z a2;exact .inr (.inr ⟨a0,u,z',e,a1,b1,b2 e a3 λe1=>V4 (by subst e1;omega),a4⟩)
  rcases qj i x hx with⟨rfl,rfl⟩|⟨rfl,rfl⟩|⟨_,c2,hx⟩
  .rw[hd.2.1,hd.1];exact key i d hn BY
  .rw[hq.2.2.2,hq.1];by_cases e2:q.ag=2
   .rw[if_pos e2];exact .inl rfl
   .rw[if_neg e2];rcases h.ux i q hp with a|a|⟨a0,_⟩
    .exact .inl a
    .exact .inr (.inl a)
    .exact absurd a0 e2
  .exact key i x hx c2
theorem Tree.sub{t t':List Sk}(h:Tree t){M:Nat->Prop}(h0:M 0)(iB:∀(i:Nat)d e(j:Nat),M i->t[i]? =some d->e∈d.es->e.2=(j:Nat)->M j)(h1:∀(i:Nat)d,M i->t[i]? =some d->d.ag≠0->t'[i]? =some d)(h2:∀(i:Nat)d',t'[i]? =some d'->d'=skZ\/t[i]? =some d'/\M i):Tree t':=by
 have hM:∀i,Lk t i->M i:=λi hi=>by
  induction hi with
  |aj=>exact h0
  |step _ hd he hj ih=>exact iB _ _ _ _ ih hd he hj
 have kE:∀(i:Nat)d e,t[i]? =some d->e∈d.es->d.ag≠0:=λi d e hd he hz=>by rw[h.z i d hd hz]at he;cases he
 have oE:∀(i:Nat)d e,t[i]? =some d->e∈d.es->M i:=λi d e hd he=>hM i (h.lk i d hd λhz=>by rw[h.em i d hd hz]at he;cases he)
 have Qi:∀i,Lk t i->Lk t' i:=λi hi=>hi.mono λi d hd hn=>by obtain⟨e,hx⟩:=adv _ hn;exact⟨d,h1 i d (oE i d e hd hx) hd (kE i d e hd hx),λ_ h=>h⟩
 have bk:∀(i:Nat)d e,t'[i]? =some d->e∈d.es->t[i]? =some d/\M i:=λi d e hd he=>by
  rcases h2 i d hd with rfl|h
  .cases he
  .exact h
 refine⟨λi d hd hz=>?_,?_,λi d e hd hx=>?_,λi i' d d' e e' hd yT hx tK nT=>h.un i i' d d' e e' (bk i d e hd hx).1 (bk i' d' e' yT tK).1 hx tK nT,λi d hd hn=>?_,λi d hd hn=>?_,λi d hd=>?_,λi d hd=>?_⟩
 .rcases h2 i d hd with h'|⟨h',_⟩
  .exact h'
  .exact h.z i d h' hz
 .obtain⟨d,a1,a2,a3⟩:=h.r0;exact⟨d,h1 0 d h0 a1 om,a2,a3⟩
 .obtain⟨yT,hm⟩:=bk i d e hd hx;obtain⟨j,x,a1,a2,a3,a4,a5⟩:=h.tr i d e yT hx;exact⟨j,x,a1,a2,h1 j x (iB i d e j hm yT hx a1) a3 a4,a4,a5⟩
 .rcases h2 i d hd with rfl|⟨h',_⟩
  .exact absurd rfl hn
  .exact Qi i (h.lk i d h' hn)
 .rcases h2 i d hd with rfl|⟨h',_⟩
  .rfl
  .exact h.em i d h' hn
 .rcases h2 i d hd with rfl|⟨h',_⟩
  .exact .inl rfl
  .exact h.lr i d h'
 .rcases h2 i d hd with rfl|⟨h',_⟩
  .exact .inr (.inl rfl)
  .rcases h.ux i d h' with a|a|⟨a0,u,x,e,a1,a2,a3,a4⟩
   .exact .inl a
   .exact .inr (.inl a)
   .exact .inr (.inr ⟨a0,u,x,e,a1,h1 u x (oE u x e a2 a3) a2 (kE u x e a2 a3),a3,a4⟩)
theorem Tree.take{t:List Sk}(h:Tree t){n:Nat}(hn:1<=n)(hz:∀(i:Nat)d,n<=i->t[i]? =some d->d.ag=0):Tree (t.take n):=by
 have get:∀(i:Nat)d,(t.take n)[i]? =some d->t[i]? =some d:=λi d hd=>by
  rw[aaS]at hd;split at hd
  .exact hd
  .cases hd
 have put:∀(i:Nat)d,t[i]? =some d->d.ag≠0->(t.take n)[i]? =some d:=λi d hd hk=>by
  rw[aaS,if_pos (adF λhle=>hk (hz i d hle hd))]
  exact hd
 have kE:∀(i:Nat)d e,t[i]? =some d->e∈d.es->d.ag≠0:=λi d e hd he hz=>by rw[h.z i d hd hz]at he;cases he
 refine⟨λi d hd hz=>h.z i d (get i d hd) hz,?_,λi d e hd hx=>?_,λi i' d d' e e' hd yT hx tK nT=>h.un i i' d d' e e' (get i d hd) (get i' d' yT) hx tK nT,λi d hd hn=>?_,λi d hd hn=>h.em i d (get i d hd) hn,λi d hd=>h.lr i d (get i d hd),λi d hd=>?_⟩
 .obtain⟨d,a1,a2,a3⟩:=h.r0;exact⟨d,put 0 d a1 om,a2,a3⟩
 .obtain⟨j,x,a1,a2,a3,a4,a5⟩:=h.tr i d e (get i d hd) hx;exact⟨j,x,a1,a2,put j x a3 a4,a4,a5⟩
 .refine(h.lk i d (get i d hd) hn).mono λi d hd dy=>?_
  obtain⟨e,hx⟩:=adv _ dy;exact⟨d,put i d hd (kE i d e hd hx),λ_ h=>h⟩
 .rcases h.ux i d (get i d hd)with a|a|⟨a0,u,x,e,a1,a2,a3,a4⟩
  .exact .inl a
  .exact .inr (.inl a)
  .exact .inr (.inr ⟨a0,u,x,e,a1,put u x a2 (kE u x e a2 a3),a3,a4⟩)
end Kn
namespace Kn
structure Hd(l:List Obj)(o:Obj):Prop where
 eq:o.ak=(dQ o).map gl
 E0:FV (dQ o)
 cL:o.ag≠2->o.ak=[]
 to:∀e,e∈dQ o->e.1.size<=12/\∃(j:Nat)(x:Obj),e.2=j/\l[j]? =some x/\x.ag≠0
def gn(l:List Obj)(z:Int):Prop:=∃(j:Nat)(x:Obj),z=j/\l[j]? =some x/\x.ag≠0
def fP(k:Kr)(z r:Int):Prop:=(0<=r/\r<=4095)/\∃(n:Nat)(o:bI),z=n/\k.ops[n]? =some o/\gn k.l o.bp
structure KI(k:Kr):Prop where
 ll:k.l.length<=40
 lo:k.ops.length<=60
 lp:k.ps.length<=8
 sm:∀o,o∈k.l->o.sm
 sl:∀x,x∈k.ps->x.aQ.length<=10
 ne:k.ps≠[]
 aU:∀x,x∈k.ps->x.aO=false->x.aQ=[]
 cap:∀x,x∈k.ps->∀s,s∈x.aQ->s.has=true->fP k s.dG s.bX
 qu:∀o,o∈k.l->∀q,q∈o.ax->q.has=true->fP k q.dG q.bX
 pr:∀o,o∈k.l->o.ag=5->∃n:Nat,o.be=n/\n<k.ps.length
 en:∀o,o∈k.l->Hd k.l o
 z:∀o,o∈k.l->o.ag=0->o=ij
 pe:∀(i:Nat)o,k.l[i]? =some o->o.ag=4->o.bs= -1\/∃(j:Nat)(x:Obj),o.bs=j/\k.l[j]? =some x/\x.ag=4/\x.bs=i
 dp:∀o,o∈k.ops->0<=o.dp/\o.dp<=64
 RH:∀o,o∈k.l->o.data.length<=60
 tf:Tree (k.l.map vW)
theorem KI.kr{k:Kr}(h:KI k):dP k.l k.ops k.ps:=⟨h.sm,by have:=h.ll;omega,by have:=h.lo;omega,by have:=h.lp;omega,h.sl,h.ne⟩
theorem gN{l:List Obj}{i:Nat}{o:Obj}(h:l[i]? =some o):(l.map vW)[i]? =some (vW o):=by rw[Tr,h];rfl
theorem pE{l:List Obj}{i:Nat}{d:Sk}(h:(l.map vW)[i]? =some d):∃o,l[i]? =some o/\d=vW o:=by
 rw[Tr]at h;cases ho:l[i]? with
 |none=>rw[ho]at h;cases h
 |some o=>rw[ho]at h;cases h;exact⟨o,rfl,rfl⟩
theorem KI.up{k:Kr}(h:KI k){o:Obj}(ho:o∈k.l):0<=o.up/\o.up<k.l.length:=by obtain⟨i,hi⟩:=aab ho;have:=h.tf.YS (gN hi);rwa [N7]at this
theorem KI.aj{k:Kr}(h:KI k):∃o,k.l[0]? =some o/\o.ag=2:=by obtain⟨d,h1,h2,_⟩:=h.tf.r0;obtain⟨o,h3,rfl⟩:=pE h1;exact⟨o,h3,h2⟩
theorem KI.pos{k:Kr}(h:KI k):0<k.l.length:=by obtain⟨o,h1,_⟩:=h.aj;exact(Ki.1 h1).1
theorem Hd.len{l:List Obj}{o:Obj}(h:Hd l o):(dQ o).length=o.ak.length:=by have:=congrArg List.length h.eq;rw[N7]at this;exact this.symm
theorem KI.E0{k:Kr}(h:KI k):xW k.l:=by
 refine⟨⟨by have:=h.ll;omega,λo ho=>(h.sm o ho).oD⟩,λo ho=>?_⟩
 have he:=h.en o ho;refine⟨dQ o,he.eq,he.E0,by rw[he.len];have:=(h.sm o ho).e;omega,λe hx=>?_⟩
 obtain⟨_,j,x,h1,h2,_⟩:=he.to e hx;have:=(Ki.1 h2).1;omega
theorem KI.lk{k:Kr}(h:KI k):n8 (k.l.map Obj.ob):=by
 refine⟨by rw[N7];have:=h.ll;omega,by rw[N7];exact h.pos,λo ho=>?_,λo ho=>?_,λo ho=>?_⟩
 .obtain⟨x,hx,rfl⟩:=aaz.1 ho;have he:=h.en x hx;refine⟨dQ x,he.eq,he.E0,λe hxe=>?_,λhk=>?_⟩
  .obtain⟨_,j,y,h1,h2,_⟩:=he.to e hxe;have:=(Ki.1 h2).1;rw[N7];omega
  .have:=he.cL hk;show x.ak.map ou=[];rw[this];rfl
 .obtain⟨x,hx,rfl⟩:=aaz.1 ho;have:=(h.sm x hx).e;show x.ak.length<=64;omega
 .obtain⟨x,hx,rfl⟩:=aaz.1 ho;have:=h.up hx;rw[N7];exact this
def Am(x o:Obj):Prop:=x=o\/x={o with bs:= -1}
theorem Am.all{x o:Obj}(h:Am x o):x.ag=o.ag/\x.data=o.data/\x.ak=o.ak/\x.target=o.target/\x.ax=o.ax/\x.be=o.be/\x.am=o.am/\x.up=o.up:=by
 rcases h with rfl|rfl<;>exact⟨rfl,rfl,rfl,rfl,rfl,rfl,rfl,rfl⟩
theorem Am.sk{x o:Obj}(h:Am x o):vW x=vW o:=by obtain⟨h1,_,h2,_,_,_,h3,h4⟩:=h.all;unfold vW dQ;rw[h1,h2,h3,h4]
theorem k8{l:List Obj}(hz:∀o,o∈l->o.ag=0->o=ij)(b:Mk){i:Nat}{o:Obj}(ho:l[i]? =some o):
  (cD b l l.length i o=ij/\(o.ag=0\/¬dz b.O i))\/(dz b.O i/\o.ag≠0/\((cD b l l.length i o=o/\(o.ag=4->∀(j:Nat)x,o.bs=j->l[j]? =some x->x.ag≠0->dz b.O j))\/
   (cD b l l.length i o={o with bs:= -1}/\o.ag=4/\∃(j:Nat)(x:Obj),o.bs=j/\l[j]? =some x/\¬dz b.O j))):=by
 have hi:=(Ki.1 ho).1;have NH:∀j,(b.O[j]? ==some true)=true↔dz b.O j:=λj=>by unfold dz;simp
 have js:∀(j:Nat)x,l[j]? =some x->(e8 b l j=true↔¬dz b.O j/\x.ag≠0):=λj x hx=>by unfold e8;rw[hx];simp only[aae,abU,bne_iff_ne,ne_eq];rw[<-NH j];simp
 unfold cD;by_cases h1:(e8 b l i&&decide (i<l.length))=true
 .rw[if_pos h1];rw[aae]at h1;exact .inl ⟨rfl,.inr ((js i o ho).1 h1.1).1⟩
 .rw[if_neg h1];have l5:¬e8 b l i=true:=λh=>h1 (by rw[h];simpa using hi)
  by_cases hk:o.ag=0
  .have:=hz o (Tu ho) hk;subst this;exact .inl ⟨rfl,.inl rfl⟩
  .have hM:dz b.O i:=Yl λhn=>l5 ((js i o ho).2 ⟨hn,hk⟩)
   refine .inr ⟨hM,hk,?_⟩;by_cases h2:(o.ag==4&&mA b l l.length o.bs)=true
   .rw[if_pos h2];rw[aae]at h2;refine .inr ⟨rfl,by simpa using h2.1,?_⟩
    have h3:=h2.2;unfold mA at h3;rw[aae,decide_eq_true_eq]at h3;obtain⟨⟨h4,h5⟩,h6⟩:=h3;refine⟨o.bs.toNat,l[o.bs.toNat],om,vR h5,((js _ _ (vR h5)).1 h6).1⟩
   .rw[if_neg h2];refine .inl ⟨rfl,λh4 j x hp hx hxk=>?_⟩
    refine Yl λhn=>h2 ?_
    have hj:=(Ki.1 hx).1;rw[h4,aae];refine⟨rfl,?_⟩;unfold mA;rw[hp,ZW,(js j x hx).2 ⟨hn,hxk⟩,Bool.and_true,decide_eq_true_eq];omega
theorem KY(L:List Obj)(k t:Nat)(x:bl):yI L k t x=gC\/yI L k t x=x:=by
 unfold yI;split
 .exact .inl rfl
 .exact .inr rfl
theorem RI:ij.data.length<=60:=by simp[ij]
theorem KI.J2{k c:Kr}{en:Bool}(h:KI k)(ho:cW k.l k.ops k.ps c.l c.ops c.ps en):KI c:=by
 obtain⟨b,hb,hL,hP⟩:=ho.ex;have hR:=ho.pr;have qj:∀(i:Nat)x,c.l[i]? =some x->x=ij\/∃o,k.l[i]? =some o/\dz b.O i/\o.ag≠0/\Am x o:=λi x hx=>by
  obtain⟨o,h1,h2⟩:=hL.get hx;rcases k8 h.z b h1 with⟨h3,_⟩|⟨h3,h4,h5⟩
  .exact .inl (h2.trans h3)
  .refine .inr ⟨o,h1,h3,h4,?_⟩;rcases h5 with⟨h5,_⟩|⟨h5,_⟩
   .exact .inl (h2.trans h5)
   .exact .inr (h2.trans h5)
 have eX:∀(i:Nat)o,k.l[i]? =some o->dz b.O i->o.ag≠0->∃x,c.l[i]? =some x/\Am x o:=λi o h1 hM hk=>by
  refine⟨_,hL.2 i o h1,?_⟩;rcases k8 h.z b h1 with⟨_,h4|h4⟩|⟨_,_,⟨h5,_⟩|⟨h5,_⟩⟩
  .exact absurd h4 hk
  .exact absurd hM h4
  .exact .inl h5
  .exact .inr h5
 have BZ:∀z,gn k.l z->(∀n:Nat,vO k.l z n->dz b.O n)->gn c.l z:=λz⟨j,x,h1,h2,h3⟩hm=>by
  obtain⟨y,h4,h5⟩:=eX j x h2 (hm j ⟨h1,x,h2,h3⟩) h3;exact⟨j,y,h1,h4,by rw[h5.all.1];exact h3⟩
 have eM:∀z r,fP k z r->(∀n:Nat,vP k.ops z n->dz b.P n)->fP c z r:=λz r⟨hr,n,o,h1,h2,h3⟩hm=>by
  have hn:=(Ki.1 h2).1;have hM:=hm n ⟨h1,hn⟩;refine⟨hr,n,o,h1,?_,BZ _ h3 λj hv=>hb.cl.p n o hM h2 j hv⟩
  rw[hP.2 n o h2,Bl,if_neg];have:(b.P[n]? ==some true)=true:=by unfold dz at hM;rw[hM];rfl
  rw[this];simp
 have hlen:c.l.length=k.l.length:=hL.1;have mem:∀x,x∈c.l->∃i:Nat,c.l[i]? =some x:=λx hx=>aab hx
 have O7:∀x,x∈c.ps->x=gC\/x∈k.ps:=λx hx=>by
  obtain⟨t,ht⟩:=aab hx;obtain⟨o,h1,h2⟩:=hR.get ht;rcases KY c.l k.ps.length t o with h3|h3
  .exact .inl (h2.trans h3)
  .exact .inr (by rw[h2,h3];exact Tu h1)
 refine⟨by rw[hlen];exact h.ll,by rw[hP.1];exact h.lo,by rw[hR.1];exact h.lp,(ho.kr h.kr).sm,(ho.kr h.kr).sl,(ho.kr h.kr).ne,λx hx hl=>?_,λx hx s hs hh=>?_,λo fl q hq hh=>?_,λo fl h5=>?_,λo fl=>?_,λo fl hk=>?_,λi o hi h4=>?_,λo fl=>?_,λo fl=>?_,?_⟩
 .rcases O7 x hx with rfl|hx
  .rfl
  .exact h.aU x hx hl
 .rcases O7 x hx with rfl|tK
  .cases hs
  .cases hl:x.aO with
   |false=>rw[h.aU x tK hl]at hs;cases hs
   |true=>
    obtain⟨p,hp⟩:=aab tK;exact eM _ _ (h.cap x tK s hs hh) λn hv=>hb.nu.2 p x hp hl s hs hh n hv
 .obtain⟨i,hi⟩:=mem o fl;rcases qj i o hi with rfl|⟨y,h1,hM,hk,hs⟩
  .cases hq
  .rw[hs.all.2.2.2.2.1]at hq;exact eM _ _ (h.qu y (Tu h1) q hq hh) λn hv=>hb.cl.q i y hM h1 q.dG n ⟨q,hq,hh,rfl⟩ hv
 .obtain⟨i,hi⟩:=mem o fl;rcases qj i o hi with rfl|⟨y,h1,hM,hk,hs⟩
  .cases h5
  .rw[hs.all.1]at h5;rw[hs.all.2.2.2.2.2.1,hR.1];exact h.pr y (Tu h1) h5
 .obtain⟨i,hi⟩:=mem o fl;rcases qj i o hi with rfl|⟨y,h1,hM,hk,hs⟩
  .exact⟨rfl,List.Pairwise.nil,λ_=>rfl,λe he=>by cases he⟩
  .have he:=h.en y (Tu h1);have nT:dQ o=dQ y:=by unfold dQ;rw[hs.all.2.2.1]
   refine⟨by rw[hs.all.2.2.1,nT];exact he.eq,by rw[nT];exact he.E0,λhn=>by rw[hs.all.2.2.1];exact he.cL (by rw[<-hs.all.1];exact hn),λe hx=>?_⟩
   rw[nT]at hx;obtain⟨h2,j,x,h3,h4,h5⟩:=he.to e hx;have vF:sE y e.2:=⟨e.1,by rw[he.eq];exact aaz.2 ⟨e,hx,rfl⟩⟩
   obtain⟨x',h6,h7⟩:=eX j x h4 (hb.cl.e i y hM h1 e.2 j vF ⟨h3,x,h4,h5⟩) h5;exact⟨h2,j,x',h3,h6,by rw[h7.all.1];exact h5⟩
 .obtain⟨i,hi⟩:=mem o fl;rcases qj i o hi with rfl|⟨y,h1,hM,oZ,hs⟩
  .rfl
  .exact absurd (hs.all.1▸hk) oZ
 .obtain⟨y,h1,h2⟩:=hL.get hi;rcases k8 h.z b h1 with⟨h3,_⟩|⟨hM,hk,h5⟩
  .rw[h2,h3]at h4;cases h4
  .rcases h5 with⟨h5,h6⟩|⟨h5,_⟩
   .rw[h2,h5]at h4|-;rcases h.pe i y h1 h4 with h7|⟨j,x,h7,h8,h9,Ve⟩
    .exact .inl h7
    .refine .inr ⟨j,cD b k.l k.l.length j x,h7,hL.2 j x h8,?_⟩;have V5:=h6 h4 j x h7 h8 om;rcases k8 h.z b h8 with⟨_,LX|LX⟩|⟨_,_,⟨LX,_⟩|⟨_,_,j',x',HH,E3,ON⟩⟩
     .omega
     .exact absurd V5 LX
     .rw[LX];exact⟨h9,Ve⟩
     .have:j'=i:=om;subst this;exact absurd hM ON
   .rw[h2,h5];exact .inl rfl
 .obtain⟨t,ht⟩:=aab fl;obtain⟨x,h1,h2⟩:=hP.get ht;rw[h2,Bl];split
  .exact⟨adq _,by show(0:Int)<=64;omega⟩
  .exact h.dp x (Tu h1)
 .obtain⟨i,hi⟩:=mem o fl;rcases qj i o hi with rfl|⟨y,h1,hM,hk,hs⟩
  .exact RI
  .rw[hs.all.2.1];exact h.RH y (Tu h1)
 .obtain⟨r,sr,rk⟩:=h.aj;refine h.tf.sub (M:=dz b.O) (hb.nu.1 0 ⟨rfl,r,sr,om⟩) (λi d e j hM hd he hj=>?_) (λi d hM hd hk=>?_) (λi d' yT=>?_)
  .obtain⟨o,h1,rfl⟩:=pE hd;have qA:=h.en o (Tu h1);obtain⟨_,j',x,h3,h4,h5⟩:=qA.to e he;have:j'=j:=om;subst this;exact hb.cl.e i o hM h1 e.2 j' ⟨e.1,by rw[qA.eq];exact aaz.2 ⟨e,he,rfl⟩⟩ ⟨h3,x,h4,h5⟩
  .obtain⟨o,h1,rfl⟩:=pE hd;obtain⟨x,h2,h3⟩:=eX i o h1 hM hk;rw[<-h3.sk];exact gN h2
  .obtain⟨x,h1,rfl⟩:=pE yT;rcases qj i x h1 with rfl|⟨y,h2,hM,hk,hs⟩
   .exact .inl rfl
   .exact .inr ⟨by rw[hs.sk];exact gN h2,hM⟩
theorem yh{α:Type}{l:List α}{n i:Nat}{x:α}(h:(l.take n)[i]? =some x):l[i]? =some x/\i<n:=by
 rw[aaS]at h;split at h
 .exact⟨h,by assumption⟩
 .cases h
theorem Eg{α:Type}{l:List α}{n i:Nat}{x:α}(h:l[i]? =some x)(hi:i<n):(l.take n)[i]? =some x:=by rw[aaS,if_pos hi];exact h
theorem KZ(O:List Obj)(k t:Nat)(x:bl):tx O k t x=gC\/tx O k t x=x:=by
 unfold tx;split
 .exact .inl rfl
 .exact .inr rfl
theorem KI.iu{c d:Kr}(h:KI c)(hf:gT c d):KI d:=by
 obtain⟨n1,n2,n3,P,h1,h2,h3,h4,rfl⟩:=hf.ex;have eX:∀(i:Nat)o,c.l[i]? =some o->o.ag≠0->(c.l.take n1)[i]? =some o:=λi o ho hk=>Eg ho (adF λhle=>hk (by simpa[qO]using h1.t.dr i o hle ho))
 have BZ:∀z,gn c.l z->gn (c.l.take n1) z:=λz⟨j,x,a1,a2,a3⟩=>⟨j,x,a1,eX j x a2 a3,a3⟩
 have eM:∀z r,fP c z r->fP ⟨c.l.take n1,c.ops.take n2,P.take n3⟩ z r:=λz r⟨hr,n,o,a1,a2,a3⟩=>by
  refine⟨hr,n,o,a1,Eg a2 (adF λhle=>?_),BZ _ a3⟩
  have hq:=h2.t.dr n o hle a2;obtain⟨j,_,e,_⟩:=a3;simp only[qP,decide_eq_true_eq]at hq;omega
 have cJ:=h.pos;have qW:1<=n1:=by have:=h1.t.mn;omega
 have ZL:P.length=c.ps.length:=h3.1;have p8:0<c.ps.length:=adQ.2 h.ne;have Yp:1<=n3:=by have:=h4.t.mn;omega
 have agW:=h4.t.le;have O7:∀x,x∈P.take n3->x=gC\/x∈c.ps:=λx hx=>by
  obtain⟨t,ht⟩:=aab (abq hx);obtain⟨o,a1,a2⟩:=h3.get ht;rcases KZ (c.l.take n1) c.ps.length t o with a3|a3
  .exact .inl (a2.trans a3)
  .exact .inr (by rw[a2,a3];exact Tu a1)
 have kr:=hf.kr h.kr;refine⟨?_,?_,?_,kr.sm,kr.sl,kr.ne,λx hx hl=>?_,λx hx s hs hh=>?_,λo ho q hq hh=>eM _ _ (h.qu o (abq ho) q hq hh),λo ho h5=>?_,λo ho=>?_,λo ho hk=>h.z o (abq ho) hk,λi o hi hk=>?_,λo ho=>h.dp o (abq ho),λo ho=>h.RH o (abq ho),?_⟩
 .show(c.l.take n1).length<=40;rw[aaE];have:=h.ll;omega
 .show(c.ops.take n2).length<=60;rw[aaE];have:=h.lo;omega
 .show(P.take n3).length<=8;rw[aaE];have:=h.lp;omega
 .rcases O7 x hx with rfl|hx
  .rfl
  .exact h.aU x hx hl
 .rcases O7 x hx with rfl|hx
  .cases hs
  .exact eM _ _ (h.cap x hx s hs hh)
 .obtain⟨n,a1,a2⟩:=h.pr o (abq ho) h5;refine⟨n,a1,?_⟩;show n<(P.take n3).length;rw[aaE];refine Nat.lt_min.2 ⟨adF λhle=>?_,om⟩
  have hq:=h4.t.dr n P[n] hle (vR om);simp only[qR,aae,abU]at hq;have:(c.l.take n1).any (dL (n:Int))=true:=abc.2 ⟨o,ho,by simp[dL,h5,a1]⟩
  rw[this]at hq;cases hq.2
 .have he:=h.en o (abq ho);refine⟨he.eq,he.E0,he.cL,λe hx=>?_⟩
  obtain⟨a0,j,x,a1,a2,a3⟩:=he.to e hx;exact⟨a0,j,x,a1,eX j x a2 a3,a3⟩
 .obtain⟨a1,a2⟩:=yh hi;rcases h.pe i o a1 hk with a3|⟨j,x,a3,a4,a5,a6⟩
  .exact .inl a3
  .exact .inr ⟨j,x,a3,eX j x a4 om,a5,a6⟩
 .show Tree ((c.l.take n1).map vW);rw[adg];refine h.tf.take qW λi d hle hd=>?_
  obtain⟨o,a1,rfl⟩:=pE hd;have:=h1.t.dr i o hle a1;show o.ag=0;simpa[qO]using this
theorem KI.to{k a:Kr}(h:KI k)(h1:iR k a):KI a:=by
 induction h1 with
 |refl=>exact h
 |step _ ho ih=>exact ih.J2 ho
theorem KI.O8{k:Kr}(h:KI k):KI (fa k):=by obtain⟨a,c,h1,h2,h3⟩:=(gp h.kr).ex;exact((h.to h1).J2 h2).iu h3
end Kn
namespace Kn
theorem wi{l:List Ob}{ar:Nat}{ay follow:Bool}{rec:Nat->List bO.dU->Nat->R4}{A:Nat->Prop}{Q:R4->Prop}(h0:∀e,e≠0->Q (R4.no e))(h1:∀a,A a->Q ⟨a,BD l a,[],0⟩)(h2:∀a w,A a->(l6 l a).ag=2->mN l a w<0->Q ⟨-1,a,w,0⟩)(h3:∀a w,A a->(l6 l a).ag=2->¬mN l a w<0->Q ⟨mN l a w,a,w,0⟩)(LG:∀a,A a->(l6 l a).ag=2->¬(ay=true/\a=ar)->A (BD l a))(RJ:∀a w,A a->(l6 l a).ag=2->¬mN l a w<0->A (mN l a w).toNat)(AZ:∀a rest k,A a->Q (rec a rest k)):∀(parts:List bO.dU)(a:Nat),A a->Q (Iv l ar ay follow rec parts a)
 | [],a,ha=>h1 a ha
 |w::rest,a,ha=>by
  rw[Iv];split
  .exact h0 11 (by decide)
  .rename_i hk;have hk:(l6 l a).ag=2:=by simpa using hk
   split
   .split
    .exact h0 14 (by decide)
    .rename_i hf;exact wi h0 h1 h2 h3 LG RJ AZ rest _ (LG a ha hk hf)
   .split
    .rename_i hn;split
     .exact h0 6 (by decide)
     .exact h2 a w ha hk hn
    .rename_i hn;split
     .exact AZ a rest _ ha
     .split
      .exact h3 a w ha hk hn
      .exact wi h0 h1 h2 h3 LG RJ AZ rest _ (RJ a w ha hk hn)
theorem IG{l:List Ob}{ar:Nat}{ay follow:Bool}{A:Nat->Prop}{Q:R4->Prop}(h0:∀e,e≠0->Q (R4.no e))(h1:∀a,A a->Q ⟨a,BD l a,[],0⟩)(h2:∀a w,A a->(l6 l a).ag=2->mN l a w<0->Q ⟨-1,a,w,0⟩)(h3:∀a w,A a->(l6 l a).ag=2->¬mN l a w<0->Q ⟨mN l a w,a,w,0⟩)(LG:∀a,A a->(l6 l a).ag=2->¬(ay=true/\a=ar)->A (BD l a))(RJ:∀a w,A a->(l6 l a).ag=2->¬mN l a w<0->A (mN l a w).toNat)(hr:ay=false->A 0):
  ∀(n:Nat)(parts:List bO.dU)(a:Nat),A a->Q (Cx l ar ay follow n parts a)
 |0,parts,a,ha=>wi h0 h1 h2 h3 LG RJ (λ_ _ _ _=>h0 13 (by decide)) parts a ha
 |n+1,parts,a,ha=>by
  refine wi h0 h1 h2 h3 LG RJ (λa rest k ha=>?_) parts a ha
  rw[Ri];split
  .rename_i h;exact h0 _ h
  .split
   .exact h0 14 (by decide)
   .rename_i hf;refine IG h0 h1 h2 h3 LG RJ hr n _ _ ?_;split
    .rename_i dK;exact hr (by cases ay with|false=>rfl|true=>exact absurd ⟨dK,rfl⟩ hf)
    .exact ha
theorem K2{l:List Ob}{ar:Int}{s:bO.dU}{ay follow:Bool}{A:Nat->Prop}{Q:R4->Prop}(h0:∀e,e≠0->Q (R4.no e))(h1:∀a,A a->Q ⟨a,BD l a,[],0⟩)(h2:∀a w,A a->(l6 l a).ag=2->mN l a w<0->Q ⟨-1,a,w,0⟩)(h3:∀a w,A a->(l6 l a).ag=2->¬mN l a w<0->Q ⟨mN l a w,a,w,0⟩)(LG:∀a,A a->(l6 l a).ag=2->¬(ay=true/\a=ar.toNat)->A (BD l a))(RJ:∀a w,A a->(l6 l a).ag=2->¬mN l a w<0->A (mN l a w).toNat)(hr:ay=false->A 0)(hb:∀n:Nat,ar=n->n<l.length->(l6 l n).ag=2->A n):Q (qD l ar s ay follow):=by
 rw[qD];split
 .rename_i hi;obtain⟨n,rfl,hn⟩:=Nx hi;split
  .exact h0 11 (by decide)
  .rename_i hk;have hk:(l6 l n).ag=2:=by simpa using hk
   split
   .rename_i h;exact h0 _ h
   .split
    .exact h0 14 (by decide)
    .rename_i hf;refine IG h0 h1 h2 h3 LG RJ hr 6 _ _ ?_;split
     .rename_i dK;exact hr (by cases ay with|false=>rfl|true=>exact absurd ⟨dK,rfl⟩ hf)
     .exact hb n rfl hn hk
 .exact h0 6 (by decide)
theorem O9{l:List Obj}{n:Nat}{o:Obj}(h:l[n]? =some o):l6 (l.map Obj.ob) n=o.ob:=by rw[l6,Tr,h];rfl
theorem YU{l:List Obj}{n:Nat}(h:(l6 (l.map Obj.ob) n).ag≠0):∃o,l[n]? =some o/\l6 (l.map Obj.ob) n=o.ob:=by
 cases ho:l[n]? with
 |none=>exfalso;apply h;rw[l6,Tr,ho];rfl
 |some o=>exact⟨o,rfl,O9 ho⟩
theorem Vq{l:List Obj}{n:Nat}{o:Obj}(h:l[n]? =some o):BD (l.map Obj.ob) n=o.up.toNat:=by rw[BD,O9 h];rfl
theorem Vr{l:List Obj}{n:Nat}{o:Obj}(h:l[n]? =some o)(w:bO.dU):mN (l.map Obj.ob) n w=fW (dQ o) (bO.cI w):=by rw[mN,O9 h];rfl
theorem RK{l:List Obj}{n:Nat}{o:Obj}(h:l[n]? =some o){w:bO.dU}(hf:¬mN (l.map Obj.ob) n w<0):∃e,e∈dQ o/\e.1.toList=(bO.cI w).toList/\mN (l.map Obj.ob) n w=e.2:=by
 rw[Vr h]at hf|-;rcases i3 (dQ o) (bO.cI w)with⟨e,h1,h2,h3⟩|⟨h3,_⟩
 .exact⟨e,h1,h2,h3⟩
 .omega
def Eh(l:List Obj)(a:Nat):Prop:=∃o,l[a]? =some o/\o.ag≠0
theorem KI.Pa{k:Kr}(h:KI k){a:Nat}(ha:Eh k.l a):Eh k.l (BD (k.l.map Obj.ob) a):=by
 obtain⟨o,h1,h2⟩:=ha;rw[Vq h1];rcases h.tf.ux a (vW o) (gN h1)with h3|h3|⟨_,u,x,e,h3,h4,h5,_⟩
 .have h3:o.up=a:=h3;rw[h3];exact⟨o,h1,h2⟩
 .have h3:o.up=0:=h3;rw[h3];obtain⟨r,h4,h5⟩:=h.aj;exact⟨r,h4,om⟩
 .have h3:o.up=u:=h3;rw[h3];obtain⟨y,h6,rfl⟩:=pE h4;refine⟨y,h6,λhz=>?_⟩
  have:=h.z y (Tu h6) hz;subst this;cases h5
theorem KI.Ao{k:Kr}(h:KI k){a:Nat}{w:bO.dU}(ha:Eh k.l a)(hf:¬mN (k.l.map Obj.ob) a w<0):Eh k.l (mN (k.l.map Obj.ob) a w).toNat/\0<=mN (k.l.map Obj.ob) a w:=by obtain⟨o,h1,_⟩:=ha;obtain⟨e,h3,_,h4⟩:=RK h1 hf;obtain⟨_,j,x,h5,h6,h7⟩:=(h.en o (Tu h1)).to e h3;rw[h4,h5];exact⟨⟨x,h6,h7⟩,om⟩
theorem KI.RL{k:Kr}(h:KI k)(ar:Int)(s:bO.dU)(ay follow:Bool):(gV k ar s ay follow).fp=0->(gV k ar s ay follow).bp= -1\/gn k.l (gV k ar s ay follow).bp:=by
 refine K2 (A:=Eh k.l) (Q:=λr=>r.fp=0->r.bp= -1\/gn k.l r.bp) (λe he h0=>absurd h0 he) (λa⟨o,h1,h2⟩ _=>.inr ⟨a,o,rfl,h1,h2⟩) (λ_ _ _ _ _ _=>.inl rfl) (λa w ha _ hf _=>?_)
  (λa ha _ _=>h.Pa ha) (λa w ha _ hf=>(h.Ao ha hf).1) (λ_=>?_) (λn _ hn hk=>?_)
 .obtain⟨⟨o,h1,h2⟩,h3⟩:=h.Ao ha hf;exact .inr ⟨_,o,by show mN _ _ _=_;omega,h1,h2⟩
 .obtain⟨r,h4,h5⟩:=h.aj;exact⟨r,h4,om⟩
 .obtain⟨o,h1,h2⟩:=YU (l:=k.l) (n:=n) (by rw[hk];decide)
  rw[h2]at hk;have hk:o.ag=2:=hk;exact⟨o,h1,om⟩
theorem fP.at{k:Kr}{z r:Int}(h:fP k z r):∃n j:Nat,z=n/\n<k.ops.length/\dM k.ops n=j/\j<k.l.length:=by obtain⟨_,n,o,h1,h2,j,x,h3,h4,_⟩:=h;refine⟨n,j,h1,(Ki.1 h2).1,?_,(Ki.1 h4).1⟩;rw[dM,ZW,h2];exact h3
theorem KI.eM{k:Kr}(h:KI k){p:Nat}{s:eA}(hs:s∈ap k.ps p)(hh:s.has=true):fP k s.dG s.bX:=by
 unfold ap at hs;cases hp:k.ps[p]? with
 |none=>rw[hp]at hs;cases hs
 |some x=>rw[hp]at hs;exact h.cap x (Tu hp) s hs hh
theorem KI.kw{k:Kr}(h:KI k){p:Nat}(hp:p<k.ps.length):KW k p:=
 ⟨h.kr,h.ll,h.E0,h.lk,λo ho e he=>((h.en o ho).to e he).1,hp,λs hs hh=>(h.eM hs hh).at⟩
end Kn
namespace Kn
theorem Hd.mono{l l':List Obj}{o:Obj}(h:Hd l o)(hm:∀(j:Nat)x,l[j]? =some x->x.ag≠0->∃y,l'[j]? =some y/\y.ag≠0):Hd l' o:=
 ⟨h.eq,h.E0,h.cL,λe he=>by obtain⟨h1,j,x,h2,h3,h4⟩:=h.to e he;obtain⟨y,h5,h6⟩:=hm j x h3 h4;exact⟨h1,j,y,h2,h5,h6⟩⟩
structure Vs(k:Kr)(l':List Obj)(x:Obj):Prop where
 sm:x.sm
 d:x.data.length<=60
 q:∀q,q∈x.ax->q.has=true->fP k q.dG q.bX
 p:x.ag=5->∃n:Nat,x.be=n/\n<k.ps.length
 e:Hd l' x
 z:x.ag=0->x=ij
theorem KI.bp{k:Kr}(h:KI k){l':List Obj}(hm:∀(j:Nat)x,k.l[j]? =some x->x.ag≠0->∃y,l'[j]? =some y/\y.ag≠0){x:Obj}(hx:x∈k.l):Vs k l' x:=
 ⟨h.sm x hx,h.RH x hx,h.qu x hx,h.pr x hx,(h.en x hx).mono hm,h.z x hx⟩
theorem fP.mono{k k':Kr}{z r:Int}(h:fP k z r)(ho:∀(n:Nat)o,k.ops[n]? =some o->gn k.l o.bp->∃o',k'.ops[n]? =some o'/\gn k'.l o'.bp):fP k' z r:=by obtain⟨h0,n,o,h1,h2,h3⟩:=h;obtain⟨o',h4,h5⟩:=ho n o h2 h3;exact⟨h0,n,o',h1,h4,h5⟩
theorem gn.mono{l l':List Obj}{z:Int}(h:gn l z)(hm:∀(j:Nat)x,l[j]? =some x->x.ag≠0->∃y,l'[j]? =some y/\y.ag≠0):gn l' z:=by obtain⟨j,x,h1,h2,h3⟩:=h;obtain⟨y,h4,h5⟩:=hm j x h2 h3;exact⟨j,y,h1,h4,h5⟩
theorem KI.BZ{k:Kr}(h:KI k){l':List Obj}(YL:l'.length<=40)(hm:∀(j:Nat)x,k.l[j]? =some x->x.ag≠0->∃y,l'[j]? =some y/\y.ag≠0)(hx:∀x,x∈l'->Vs k l' x)(yR:∀(i:Nat)o,l'[i]? =some o->o.ag=4->o.bs= -1\/∃(j:Nat)(x:Obj),o.bs=j/\l'[j]? =some x/\x.ag=4/\x.bs=i)(ht:Tree (l'.map vW)):KI ⟨l',k.ops,k.ps⟩:=by
 have eM:∀z r,fP k z r->fP ⟨l',k.ops,k.ps⟩ z r:=λz r hc=>hc.mono λn o ho hi=>⟨o,ho,hi.mono hm⟩
 exact⟨YL,h.lo,h.lp,λo ho=>(hx o ho).sm,h.sl,h.ne,h.aU,λx hx s hs hh=>eM _ _ (h.cap x hx s hs hh),λo ho q hq hh=>eM _ _ ((hx o ho).q q hq hh),λo ho=>(hx o ho).p,λo ho=>(hx o ho).e,λo ho=>(hx o ho).z,yR,h.dp,λo ho=>(hx o ho).d,ht⟩
theorem KI.KK{k:Kr}(h:KI k){n:Nat}{o o':Obj}(ho:k.l[n]? =some o)(hs:o'.ag=o.ag/\o'.ak=o.ak/\o'.up=o.up/\o'.am=o.am/\o'.bs=o.bs/\o'.be=o.be)(hk:o.ag≠0)(Fm:o'.sm)(hd:o'.data.length<=60)(hq:∀q,q∈o'.ax->q.has=true->fP k q.dG q.bX):KI ⟨k.l.set n o',k.ops,k.ps⟩:=by
 obtain⟨s1,s2,s3,s4,s5,s6⟩:=hs;have hn:=(Ki.1 ho).1;have get:∀i:Nat,(k.l.set n o')[i]? =if i=n then some o' else k.l[i]? :=λi=>by
  by_cases e:i=n
  .subst e;rw[if_pos rfl,TK hn]
  .rw[if_neg e,U9 (λx=>e x.symm)]
 have hm:∀(j:Nat)x,k.l[j]? =some x->x.ag≠0->∃y,(k.l.set n o')[j]? =some y/\y.ag≠0:=λj x hx hxk=>by
  rw[get];by_cases e:j=n
  .rw[if_pos e];exact⟨o',rfl,by rw[s1];exact hk⟩
  .rw[if_neg e];exact⟨x,hx,hxk⟩
 have K3:=Tu ho;refine h.BZ (by rw[aaI];exact h.ll) hm (λx hx=>?_) (λi x hx h4=>?_) ?_
 .rcases aaQ hx with hx|rfl
  .exact h.bp hm hx
  .have he:=(h.en o K3).mono hm;have nT:dQ x=dQ o:=by unfold dQ;rw[s2]
   exact⟨Fm,hd,hq,λh5=>by rw[s6];exact h.pr o K3 (s1▸h5),⟨by rw[nT,s2];exact he.eq,by rw[nT];exact he.E0,λhn=>by rw[s2];exact he.cL (s1▸hn),λe hx=>he.to e (nT▸hx)⟩,λhz=>absurd (s1▸hz) hk⟩
 .have key:∀y:Obj,k.l[i]? =some y->y.ag=4->y.bs= -1\/∃(j:Nat)(x:Obj),y.bs=j/\(k.l.set n o')[j]? =some x/\x.ag=4/\x.bs=i:=λy hy Pb=>by
   rcases h.pe i y hy Pb with h1|⟨j,z,h1,h2,h3,h4⟩
   .exact .inl h1
   .right;by_cases e:j=n
    .subst e;rw[ho]at h2;cases h2;exact⟨j,o',h1,by rw[get,if_pos rfl],by rw[s1];exact h3,by rw[s5];exact h4⟩
    .exact⟨j,z,h1,by rw[get,if_neg e];exact h2,h3,h4⟩
  rw[get]at hx;by_cases e:i=n
  .rw[if_pos e]at hx;cases hx;rw[s5];exact key o (e▸ho) (s1▸h4)
  .rw[if_neg e]at hx;exact key x hx h4
 .have:(k.l.set n o').map vW=k.l.map vW:=by
   apply abC;intro i;rw[Tr,Tr,get];by_cases e:i=n
   .subst e;rw[if_pos rfl,ho];show some _=some _;unfold vW dQ;rw[s1,s2,s3,s4]
   .rw[if_neg e]
  rw[this];exact h.tf
theorem gg{l:List Obj}{o:Obj}(h:(aG l o).2.2=0)(hl:l.length<=40):∃j:Nat,(aG l o).2.1=j/\(aG l o).1[j]? =some o/\(∀i,i≠j->(aG l o).1[i]? =l[i]?)/\(∀d,l[j]? =some d->d.ag=0)/\(aG l o).1.length<=40/\(∀x,x∈(aG l o).1->x∈l\/x=o):=by
 have hm:∀x,x∈(aG l o).1->x∈l\/x=o:=λx=>Aa
 revert h hm;unfold aG;split
 .rename_i k hk;intro _ hm;have oZ:=aaV.1 hk;refine⟨k,rfl,TK oZ.1,λi hi=>U9 (λe=>hi e.symm),λd hd=>?_,by rw[aaI];exact hl,λx hx=>hm x hx⟩
  rw[vR oZ.1]at hd;cases hd;simpa using oZ.2.1
 .split
  .intro h;cases h
  .rename_i YL;intro _ hm;refine⟨l.length,rfl,by rw[Y5 (Yj _)];simp,λi hi=>?_,λd hd=>?_,by simp only[aa5,aar,abm];omega,λx hx=>hm x hx⟩
   .rcases aag i l.length with h1|h1
    .exact aad h1
    .rw[Y5 h1,aaH h1];cases e:i-l.length with
     |zero=>omega
     |succ n=>rfl
   .rw[aaH (Yj _)]at hd;cases hd
structure RM(k:Kr)(o:Obj):Prop where
 sm:o.sm
 kd:o.ag≠0
 e:o.ak=[]
 q:o.ax=[]
 d:o.data.length<=60
 l:o.am=0
 u:o.up=0
 pe:o.ag=4->o.bs= -1
 p:o.ag=5->∃n:Nat,o.be=n/\n<k.ps.length
theorem KI.make{k:Kr}(h:KI k){o:Obj}(ho:RM k o)(he:(aG k.l o).2.2=0):KI ⟨(aG k.l o).1,k.ops,k.ps⟩:=by
 obtain⟨j,_,h2,h3,h4,h5,h6⟩:=gg he h.ll;have hm:∀(i:Nat)x,k.l[i]? =some x->x.ag≠0->∃y,(aG k.l o).1[i]? =some y/\y.ag≠0:=λi x hx hk=>by
  by_cases e:i=j
  .subst e;exact absurd (h4 x hx) hk
  .exact⟨x,by rw[h3 i e];exact hx,hk⟩
 refine h.BZ h5 hm (λx hx=>?_) (λi x hx h4'=>?_) ?_
 .rcases h6 x hx with hx|rfl
  .exact h.bp hm hx
  .exact⟨ho.sm,ho.d,λq hq=>(by rw[ho.q]at hq;cases hq),ho.p,⟨(by unfold dQ;rw[ho.e];rfl),(by unfold dQ;rw[ho.e];exact List.Pairwise.nil),λ_=>ho.e,λe he=>(by unfold dQ at he;rw[ho.e]at he;cases he)⟩,λhz=>absurd hz ho.kd⟩
 .by_cases e:i=j
  .subst e;rw[h2]at hx;cases hx;exact .inl (ho.pe h4')
  .rw[h3 i e]at hx;rcases h.pe i x hx h4' with a|⟨n,y,a1,a2,a3,a4⟩
   .exact .inl a
   .exact .inr ⟨n,y,a1,by rw[h3 n λe=>by subst e;have:=h4 y a2;omega];exact a2,a3,a4⟩
 .refine h.tf.new (k:=j) (s:=vW o) ⟨ho.kd,ho.l,by unfold vW dQ;rw[ho.e];rfl,.inl ho.u⟩ (gN h2) (λi hi=>by rw[Tr,Tr,h3 i hi]) λd hd=>?_
  obtain⟨x,a1,rfl⟩:=pE hd;exact h4 x a1
theorem rz{l:List Obj}{z:Int}(h:qa l z 0=true):gn l z:=by unfold qa pa at h;rw[aae,aae,decide_eq_true_eq,decide_eq_true_eq,N7]at h;obtain⟨h1,h2,h3⟩:=h;have hz:z.toNat<l.length:=om;rw[Tr,vR hz]at h3;simp only[aaG,aae]at h3;refine⟨z.toNat,l[z.toNat],om,vR hz,?_⟩;have:=h3.1;simpa[Obj.ob]using this
theorem pF{b:Bool}{l:List Obj}{cL bp:Int}{name:ByteArray}(h:(cQ b l cL name bp).2=0):∃(n p:Nat)(o q:Obj),cL=n/\bp=p/\l[n]? =some o/\l[p]? =some q/\q.ag≠0/\o.ag=2/\o.am≠0/\b=true/\
  ¬fW (dQ o) name>=0/\o.ak.length<8/\(cQ b l cL name bp).1=ke l n p name:=by
 have hr:=h;unfold cQ at hr;by_cases h1:qa l cL 0=true
 .rw[if_pos h1]at hr;by_cases h2:qa l bp 0=true
  .rw[if_pos h2]at hr;obtain⟨n,o,rfl,hn,_⟩:=rz h1;obtain⟨p,q,rfl,hp,hq⟩:=rz h2;rw[ZW,ZW,hn]at hr;simp only[]at hr;have hR:cQ b l n name p=Af b o (ke l n p name) name:=by unfold cQ;rw[if_pos h1,if_pos h2,ZW,ZW,hn]
   unfold Af at hr;by_cases a1:o.ag≠2
   .rw[if_pos a1]at hr;cases hr
   rw[if_neg a1]at hr;by_cases a2:o.am=0
   .rw[if_pos a2]at hr;cases hr
   rw[if_neg a2]at hr;by_cases a3:b=false
   .rw[if_pos a3]at hr;cases hr
   rw[if_neg a3]at hr;by_cases a4:fW (o.ak.map ou) name>=0
   .rw[if_pos a4]at hr;cases hr
   rw[if_neg a4]at hr;by_cases a5:o.ak.length>=8
   .rw[if_pos a5]at hr;cases hr
   exact⟨n,p,o,q,rfl,rfl,hn,hp,hq,by simpa using a1,a2,by simpa using a3,a4,om,by rw[hR,Af,if_neg a1,if_neg a2,if_neg a3,if_neg a4,if_neg a5]⟩
  .rw[if_neg h2]at hr;cases hr
 .rw[if_neg h1]at hr;cases hr
def th(o:Obj)(name:ByteArray)(p:Nat):Obj:={o with ak:=(iZ (name,(p:Int)) (dQ o)).map gl}
def IH(q:Obj)(n:Nat):Obj:={q with am:=IntKind.i64.wrap (q.am+1),up:=if q.ag=2 then(n:Int)else q.up}
theorem uB{l:List Obj}{n p:Nat}{o q:Obj}(hn:l[n]? =some o)(hp:l[p]? =some q)(BY:n≠p)(name:ByteArray):
  (ke l n p name)[n]? =some (th o name p)/\(ke l n p name)[p]? =some (IH q n)/\(∀j,j≠n->j≠p->(ke l n p name)[j]? =l[j]?)/\(ke l n p name).length=l.length:=by
 have jT:=(Ki.1 hn).1;have jY:=(Ki.1 hp).1;have yJ:(l.set n (th o name p))[p]? =some q:=by rw[U9 BY];exact hp
 have e:ke l n p name=(l.set n (th o name p)).set p (IH q n):=by
  unfold ke;rw[hn];simp only[];rw[show {o with ak:=(iZ (name,(p:Int)) (o.ak.map ou)).map gl}=th o name p from rfl,yJ]
  rfl
 rw[e];refine⟨?_,?_,λj h1 h2=>?_,aC⟩
 .rw[U9 BY.symm,TK jT]
 .rw[TK (by simpa using jY)]
 .rw[U9 (λe=>h2 e.symm),U9 (λe=>h1 e.symm)]
theorem Ap(x:NE):∀es:List NE,x∈iZ x es
 | []=>by simp[iZ]
 |e::r=>by
  rw[iZ];split
  .simp
  .exact abN _ (Ap x r)
theorem yi{x y:NE}:∀{es:List NE},y∈es->y∈iZ x es
 | [],h=>by cases h
 |e::r,h=>by
  rw[iZ];split
  .exact abN _ h
  .rcases aaL.1 h with rfl|h
   .simp
   .exact abN _ (yi h)
theorem He{es:List NE}{name:ByteArray}(cJ:∀e,e∈es->0<=e.2)(h:¬fW es name>=0):∀e,e∈es->e.1.toList≠name.toList:=by
 rcases i3 es name with⟨e,he,_,h2⟩|⟨_,h2⟩
 .have:=cJ e he;rw[h2]at h;omega
 .exact h2
theorem KI.enter{k:Kr}(h:KI k){b:Bool}{cL bp:Int}{name:ByteArray}(HU:b=true->name.size<=12)(u9:∀(p:Nat)q,bp=p->k.l[p]? =some q->q.am=0)(he:(cQ b k.l cL name bp).2=0):KI ⟨(cQ b k.l cL name bp).1,k.ops,k.ps⟩:=by
 obtain⟨n,p,o,q,rfl,rfl,hn,hp,KX,fA,A0,hb,hf,h8,hR⟩:=pF he;have Wi:=u9 p q rfl hp;have BY:n≠p:=λe=>by subst e;rw[hn]at hp;cases hp;exact A0 Wi
 rw[hR];obtain⟨g1,g2,g3,g4⟩:=uB hn hp BY name;have K3:=Tu hn;have RN:=Tu hp;have qA:=h.en o K3;have O5:q.ak=[]:=by have:=h.tf.em p (vW q) (gN hp) Wi;have h2:=(h.en q RN).eq;have this:dQ q=[]:=this;rw[this]at h2;exact h2
 have vz:dQ (th o name p)=iZ (name,(p:Int)) (dQ o):=by unfold dQ th;exact nV _
 have Pc:dQ (IH q n)=dQ q:=rfl;have hw:IntKind.i64.wrap (q.am+1)=1:=by rw[Wi];rfl
 have hm:∀(j:Nat)x,k.l[j]? =some x->x.ag≠0->∃y,(ke k.l n p name)[j]? =some y/\y.ag≠0:=λj x hx hk=>by
  by_cases e:j=n
  .subst e;rw[hn]at hx;cases hx;exact⟨_,g1,hk⟩
  .by_cases e2:j=p
   .subst e2;rw[hp]at hx;cases hx;exact⟨_,g2,hk⟩
   .exact⟨x,by rw[g3 j e e2];exact hx,hk⟩
 have qj:∀(i:Nat)x,(ke k.l n p name)[i]? =some x->(i=n/\x=th o name p)\/(i=p/\x=IH q n)\/(i≠n/\i≠p/\k.l[i]? =some x):=λi x hx=>by
  by_cases e:i=n
  .subst e;rw[g1]at hx;cases hx;exact .inl ⟨rfl,rfl⟩
  .by_cases e2:i=p
   .subst e2;rw[g2]at hx;cases hx;exact .inr (.inl ⟨rfl,rfl⟩)
   .rw[g3 i e e2]at hx;exact .inr (.inr ⟨e,e2,hx⟩)
 have cJ:∀e,e∈dQ o->0<=e.2:=λe hx=>by obtain⟨_,j,_,h1,_⟩:=qA.to e hx;omega
 refine h.BZ (by rw[g4];exact h.ll) hm (λx hx=>?_) (λi x hx h4=>?_) ?_
 .obtain⟨i,hi⟩:=aab hx;rcases qj i x hi with⟨rfl,rfl⟩|⟨rfl,rfl⟩|⟨_,_,hx⟩
  .have hO:=h.bp hm K3;refine⟨⟨⟨hO.sm.t.1,⟨_,rfl⟩,hO.sm.t.2.2⟩,hO.sm.d,?_,hO.sm.q,hO.sm.qd⟩,hO.d,hO.q,hO.p,?_,λhz=>absurd hz (by rw[show(th o name p).ag=o.ag from rfl,fA];decide)⟩
   .show((iZ (name,(p:Int)) (dQ o)).map gl).length<=8;rw[N7,Dq,qA.len];omega
   .refine⟨by rw[vz];rfl,by rw[vz];exact Nw qA.E0 (He cJ hf),λhk=>absurd fA hk,λe hx=>?_⟩
    rw[vz]at hx;rcases sI hx with hx|rfl
    .exact hO.e.to e hx
    .exact⟨HU hb,p,_,rfl,g2,KX⟩
  .have hO:=h.bp hm RN;exact⟨⟨hO.sm.t,hO.sm.d,hO.sm.e,hO.sm.q,hO.sm.qd⟩,hO.d,hO.q,hO.p,⟨hO.e.eq,hO.e.E0,hO.e.cL,hO.e.to⟩,λhz=>absurd hz KX⟩
  .exact h.bp hm (Tu hx)
 .have key:∀(i:Nat)y,k.l[i]? =some y->y.ag=4->y.bs= -1\/∃(j:Nat)(x:Obj),y.bs=j/\(ke k.l n p name)[j]? =some x/\x.ag=4/\x.bs=i:=λi y hy Pb=>by
   rcases h.pe i y hy Pb with h1|⟨j,z,h1,h2,h3,h4⟩
   .exact .inl h1
   .right;by_cases e:j=n
    .subst e;rw[hn]at h2;cases h2;omega
    .by_cases e2:j=p
     .subst e2;rw[hp]at h2;cases h2;exact⟨j,_,h1,g2,h3,h4⟩
     .exact⟨j,z,h1,by rw[g3 j e e2];exact h2,h3,h4⟩
  rcases qj i x hx with⟨rfl,rfl⟩|⟨rfl,rfl⟩|⟨_,_,hx⟩
  .exact key _ o hn h4
  .exact key _ q hp h4
  .exact key i x hx h4
 .refine h.tf.enter (nm:=name) (gN hn) (gN hp) A0 Wi KX (gN g1) (gN g2) (λj a b=>by rw[Tr,Tr,g3 j a b]) ⟨rfl,rfl,rfl⟩ (λe=>?_) ⟨rfl,hw,Pc,rfl⟩
  show e∈dQ (th o name p)↔_;rw[vz];exact⟨sI,λhx=>hx.elim yi λhx=>hx▸Ap _ _⟩
end Kn
namespace Kn
theorem ti{l:List Obj}{cL:Int}{name:ByteArray}(h:(cT l cL name).2.2=0):∃(n k:Nat)(o q:Obj),cL=n/\l[n]? =some o/\o.ag=2/\fW (dQ o) name=k/\l[k]? =some q/\¬(q.ag=2/\q.ak.length>0)/\
  (cT l cL name).1=lJ l n k name/\(cT l cL name).2.1=k:=by
 have hr:=h;unfold cT at hr;by_cases h1:qa l cL 0=true
 .rw[if_pos h1]at hr;obtain⟨n,o,rfl,hn,_⟩:=rz h1;rw[ZW,hn]at hr;simp only[]at hr;have hR:cT l n name=xX o l n name:=by unfold cT;rw[if_pos h1,ZW,hn]
  unfold xX at hr;by_cases a1:o.ag≠2
  .rw[if_pos a1]at hr;cases hr
  rw[if_neg a1]at hr;by_cases a2:fW (o.ak.map ou) name<0
  .rw[if_pos a2]at hr;cases hr
  rw[if_neg a2]at hr;cases hq:l[(fW (o.ak.map ou) name).toNat]? with
  |none=>rw[hq]at hr;cases hr
  |some q=>
   rw[hq]at hr;simp only[]at hr;by_cases a3:q.ag=2/\q.ak.length>0
   .rw[if_pos a3]at hr;cases hr
   have hk:fW (o.ak.map ou) name=((fW (o.ak.map ou) name).toNat:Nat):=om;refine⟨n,_,o,q,rfl,hn,by simpa using a1,hk,hq,a3,?_,?_⟩
   .rw[hR,xX,if_neg a1,if_neg a2,hq];simp only[if_neg a3]
   .rw[hR,xX,if_neg a1,if_neg a2,hq];simp only[if_neg a3];exact hk
 .rw[if_neg h1]at hr;cases hr
def vA(o:Obj)(name:ByteArray):Obj:={o with ak:=((dQ o).filter λe=>decide (e.1.toList≠name.toList)).map gl}
def II(q:Obj)(p:Nat):Obj:={q with am:=IntKind.i64.wrap (q.am-1),up:=if q.ag=2 then(p:Int)else q.up}
theorem Aq{l:List Obj}{n p:Nat}{o q:Obj}(hn:l[n]? =some o)(hp:l[p]? =some q)(BY:n≠p)(name:ByteArray):
  (lJ l n p name)[n]? =some (vA o name)/\(lJ l n p name)[p]? =some (II q p)/\(∀j,j≠n->j≠p->(lJ l n p name)[j]? =l[j]?)/\(lJ l n p name).length=l.length:=by
 have jT:=(Ki.1 hn).1;have jY:=(Ki.1 hp).1;have yJ:(l.set n (vA o name))[p]? =some q:=by rw[U9 BY];exact hp
 have e:lJ l n p name=(l.set n (vA o name)).set p (II q p):=by
  unfold lJ;rw[hn];simp only[];rw[show {o with ak:=((o.ak.map ou).filter λe=>decide (e.1.toList≠name.toList)).map gl}=vA o name from rfl,yJ]
  rfl
 rw[e];refine⟨?_,?_,λj h1 h2=>?_,aC⟩
 .rw[U9 BY.symm,TK jT]
 .rw[TK (by simpa using jY)]
 .rw[U9 (λe=>h2 e.symm),U9 (λe=>h1 e.symm)]
theorem KI.Hc{k:Kr}(h:KI k){cL:Int}{name:ByteArray}(he:(cT k.l cL name).2.2=0):KI ⟨(cT k.l cL name).1,k.ops,k.ps⟩:=by
 obtain⟨n,p,o,q,rfl,hn,fA,hf,hp,O5,hR,_⟩:=ti he;have K3:=Tu hn;have RN:=Tu hp;have qA:=h.en o K3;obtain⟨e0,Al,MM,Z2⟩:∃e0,e0∈dQ o/\e0.1.toList=name.toList/\e0.2=(p:Int):=by
  rcases i3 (dQ o) name with⟨e,a1,a2,a3⟩|⟨a3,_⟩
  .exact⟨e,a1,a2,om⟩
  .omega
 have Wi:q.ak=[]:=by
  by_cases hk:q.ag=2
  .exact aaq (by
    have:=λh=>O5 ⟨hk,h⟩
    omega)
  .exact(h.en q RN).cL hk
 have hqn:dQ q=[]:=by unfold dQ;rw[Wi];rfl
 have BY:n≠p:=λe=>by subst e;rw[hn]at hp;cases hp;rw[hqn]at Al;cases Al
 obtain⟨p',x,b1,_,b3,KX,Ia,_⟩:=h.tf.tr n (vW o) e0 (gN hn) Al;have:p'=p:=om;subst this;rw[gN hp]at b3;cases b3;have KX:q.ag≠0:=KX;have Ia:q.am=1:=Ia;rw[hR];obtain⟨g1,g2,g3,g4⟩:=Aq hn hp BY name;have vz:dQ (vA o name)=(dQ o).filter λe=>decide (e.1.toList≠name.toList):=by
  show((((dQ o).filter λe=>decide (e.1.toList≠name.toList)).map gl).map ou)=_
  exact nV _
 have iv:∀e,e∈dQ (vA o name)↔e∈dQ o/\e≠e0:=λe=>by rw[vz,acL,decide_eq_true_eq];refine⟨λ⟨a,b⟩=>⟨a,λe1=>by subst e1;exact b MM⟩,λ⟨a,b⟩=>⟨a,λe1=>b (xl qA.E0 a Al (e1.trans MM.symm))⟩⟩
 have Pc:dQ (II q p')=[]:=hqn;have hw:IntKind.i64.wrap (q.am-1)=0:=by rw[Ia];rfl
 have hm:∀(j:Nat)x,k.l[j]? =some x->x.ag≠0->∃y,(lJ k.l n p' name)[j]? =some y/\y.ag≠0:=λj x hx hk=>by
  by_cases e:j=n
  .subst e;rw[hn]at hx;cases hx;exact⟨_,g1,hk⟩
  .by_cases e2:j=p'
   .subst e2;rw[hp]at hx;cases hx;exact⟨_,g2,hk⟩
   .exact⟨x,by rw[g3 j e e2];exact hx,hk⟩
 have qj:∀(i:Nat)x,(lJ k.l n p' name)[i]? =some x->(i=n/\x=vA o name)\/(i=p'/\x=II q p')\/(i≠n/\i≠p'/\k.l[i]? =some x):=λi x hx=>by
  by_cases e:i=n
  .subst e;rw[g1]at hx;cases hx;exact .inl ⟨rfl,rfl⟩
  .by_cases e2:i=p'
   .subst e2;rw[g2]at hx;cases hx;exact .inr (.inl ⟨rfl,rfl⟩)
   .rw[g3 i e e2]at hx;exact .inr (.inr ⟨e,e2,hx⟩)
 refine h.BZ (by rw[g4];exact h.ll) hm (λx hx=>?_) (λi x hx h4=>?_) ?_
 .obtain⟨i,hi⟩:=aab hx;rcases qj i x hi with⟨rfl,rfl⟩|⟨rfl,rfl⟩|⟨_,_,hx⟩
  .have hO:=h.bp hm K3;refine⟨⟨⟨hO.sm.t.1,⟨_,rfl⟩,hO.sm.t.2.2⟩,hO.sm.d,?_,hO.sm.q,hO.sm.qd⟩,hO.d,hO.q,hO.p,?_,λhz=>absurd hz (by rw[show(vA o name).ag=o.ag from rfl,fA];decide)⟩
   .show(((dQ o).filter λe=>decide (e.1.toList≠name.toList)).map gl).length<=8
    rw[N7];have:=acY (λe:NE=>decide (e.1.toList≠name.toList)) (dQ o)
    have:=qA.len;have:=hO.sm.e;omega
   .exact⟨by rw[vz];rfl,by rw[vz];exact qA.E0.filter _,λhk=>absurd fA hk,λe hx=>hO.e.to e ((iv e).1 hx).1⟩
  .have hO:=h.bp hm RN;exact⟨⟨hO.sm.t,hO.sm.d,hO.sm.e,hO.sm.q,hO.sm.qd⟩,hO.d,hO.q,hO.p,⟨hO.e.eq,hO.e.E0,hO.e.cL,hO.e.to⟩,λhz=>absurd hz KX⟩
  .exact h.bp hm (Tu hx)
 .have key:∀(i:Nat)y,k.l[i]? =some y->y.ag=4->y.bs= -1\/∃(j:Nat)(x:Obj),y.bs=j/\(lJ k.l n p' name)[j]? =some x/\x.ag=4/\x.bs=i:=λi y hy Pb=>by
   rcases h.pe i y hy Pb with h1|⟨j,z,h1,h2,h3,h4⟩
   .exact .inl h1
   .right;by_cases e:j=n
    .subst e;rw[hn]at h2;cases h2;omega
    .by_cases e2:j=p'
     .subst e2;rw[hp]at h2;cases h2;exact⟨j,_,h1,g2,h3,h4⟩
     .exact⟨j,z,h1,by rw[g3 j e e2];exact h2,h3,h4⟩
  rcases qj i x hx with⟨rfl,rfl⟩|⟨rfl,rfl⟩|⟨_,_,hx⟩
  .exact key _ o hn h4
  .exact key _ q hp h4
  .exact key i x hx h4
 .exact h.tf.Hc (gN hn) Al Z2 (gN hp) hqn (gN g1) (gN g2) (λj a b=>by rw[Tr,Tr,g3 j a b]) ⟨rfl,rfl,rfl⟩ iv ⟨rfl,hw,Pc,rfl⟩
theorem Pd(k:Kr):RM k (bR (-1)):=⟨⟨⟨⟨[],rfl⟩,⟨[],rfl⟩,by simp[bR]⟩,by simp[bR],by simp[bR],by simp[bR],by simp[bR]⟩,by simp[bR],rfl,rfl,by simp[bR],rfl,rfl,λ_=>rfl,λh=>by simp[bR]at h⟩
structure YV(l:List Obj)(P:List Obj×(Int×Int)×Int)(a b:Nat):Prop where
 ea:P.2.1.1=a
 eb:P.2.1.2=b
 ab:a≠b
 za:∀d,l[a]? =some d->d.ag=0
 zb:∀d,l[b]? =some d->d.ag=0
 ga:P.1[a]? =some (bR b)
 gb:P.1[b]? =some (bR a)
 go:∀i,i≠a->i≠b->P.1[i]? =l[i]?
 m:∀x,x∈P.1->x∈l\/x=bR b\/x=bR a
 ll:P.1.length<=40
theorem yj{l:List Obj}(hl:l.length<=40)(h:(fG l).2.2=0):(aG l (bR (-1))).2.2=0/\∃a b:Nat,(aG l (bR (-1))).2.1=a/\YV l (fG l) a b/\(∀d,(aG l (bR (-1))).1[b]? =some d->d.ag=0):=by
 unfold fG at h;by_cases h1:(aG l (bR (-1))).2.2=0
 .refine⟨h1,?_⟩;rw[if_neg (by simp[h1])]at h
  obtain⟨a,e1,a2,a3,a4,a5,a6⟩:=gg h1 hl;by_cases h2:(aG (aG l (bR (-1))).1 (bR (aG l (bR (-1))).2.1)).2.2=0
  .obtain⟨b,b1,b2,b3,b4,b5,b6⟩:=gg h2 a5;have EW:a≠b:=λe=>by subst e;have:=b4 _ a2;simp[bR]at this
   have hP:fG l=(mz (aG (aG l (bR (-1))).1 (bR (aG l (bR (-1))).2.1)).1 a b,((a:Int),(b:Int)),0):=by
    rw[fG,if_neg (by simp[h1]),if_neg (by simp[h2]),e1]
    rw[e1]at b1;rw[b1,ZW]
   rw[e1]at b2 b3 hP b5 b6;have ha:(aG (aG l (bR (-1))).1 (bR (a:Int))).1[a]? =some (bR (-1)):=by rw[b3 a EW];exact a2
   have Uh:=(Ki.1 ha).1;have A4:mz (aG (aG l (bR (-1))).1 (bR (a:Int))).1 a b=(aG (aG l (bR (-1))).1 (bR (a:Int))).1.set a (bR b):=by rw[mz,ha];rfl
   rw[A4]at hP;refine⟨a,b,e1,?_,b4⟩;rw[hP];refine⟨rfl,rfl,EW,a4,λd hd=>b4 d (by rw[a3 b (λe=>EW e.symm)];exact hd),TK Uh,by rw[U9 EW];exact b2,λi h3 h4=>by rw[U9 (λe=>h3 e.symm),b3 i h4,a3 i h3],λx hx=>?_,by rw[aaI];exact b5⟩
   rcases aaQ hx with hx|hx
   .rcases b6 x hx with hx|hx
    .rcases a6 x hx with hx|hx
     .exact .inl hx
     .obtain⟨i,hi⟩:=aab (show x∈(aG (aG l (bR (-1))).1 (bR (a:Int))).1.set a (bR b)from by assumption)
      by_cases ea:i=a
      .subst ea;rw[TK Uh]at hi;cases hi;exact .inr (.inl rfl)
      .rw[U9 (λe=>ea e.symm)]at hi
       by_cases eb:i=b
       .subst eb;rw[b2]at hi;cases hi;exact .inr (.inr rfl)
       .rw[b3 i eb,a3 i ea]at hi;exact .inl (Tu hi)
    .exact .inr (.inr hx)
   .exact .inr (.inl hx)
  .rw[if_pos h2]at h;exact absurd h h2
 .rw[if_pos h1]at h;exact absurd h h1
theorem KI.Vt{k:Kr}(h:KI k)(he:(fG k.l).2.2=0):KI ⟨(fG k.l).1,k.ops,k.ps⟩/\gn (fG k.l).1 (fG k.l).2.1.1/\gn (fG k.l).1 (fG k.l).2.1.2:=by
 obtain⟨h1,a,b,e1,P,ZV⟩:=yj h.ll he;have h2:=h.make (Pd k) h1;obtain⟨a',e1',a2,a3,a4,a5,a6⟩:=gg h1 h.ll;have:a'=a:=om;subst this;have hEK:∀p:Int,Vs k (fG k.l).1 (bR p):=λp=>⟨⟨⟨⟨[],rfl⟩,⟨[],rfl⟩,by simp[bR]⟩,by simp[bR],by simp[bR],by simp[bR],by simp[bR]⟩,by simp[bR],by simp[bR],λh=>by simp[bR]at h,⟨rfl,List.Pairwise.nil,λ_=>rfl,λe he=>by cases he⟩,λh=>by simp[bR]at h⟩
 have hm:∀(j:Nat)x,k.l[j]? =some x->x.ag≠0->∃y,(fG k.l).1[j]? =some y/\y.ag≠0:=λj x hx hk=>by
  have ea:j≠a':=λe=>by subst e;exact hk (P.za x hx)
  have eb:j≠b:=λe=>by subst e;exact hk (P.zb x hx)
  exact⟨x,by rw[P.go j ea eb];exact hx,hk⟩
 refine⟨h.BZ P.ll hm (λx hx=>?_) (λi x hx h4=>?_) ?_,⟨a',_,P.ea,P.ga,by simp[bR]⟩,⟨b,_,P.eb,P.gb,by simp[bR]⟩⟩
 .rcases P.m x hx with hx|rfl|rfl
  .exact h.bp hm hx
  .exact hEK _
  .exact hEK _
 .by_cases ea:i=a'
  .subst ea;rw[P.ga]at hx;cases hx;exact .inr ⟨b,_,rfl,P.gb,rfl,rfl⟩
  .by_cases eb:i=b
   .subst eb;rw[P.gb]at hx;cases hx;exact .inr ⟨a',_,rfl,P.ga,rfl,rfl⟩
   .rw[P.go i ea eb]at hx;rcases h.pe i x hx h4 with c|⟨j,y,c1,c2,c3,c4⟩
    .exact .inl c
    .refine .inr ⟨j,y,c1,?_,c3,c4⟩;rw[P.go j (λe=>by subst e;have:=P.za y c2;omega) (λe=>by subst e;have:=P.zb y c2;omega)]
     exact c2
 .refine h2.tf.new (k:=b) (s:=vW (bR a')) ⟨by simp[vW,bR],rfl,rfl,.inl rfl⟩ (gN P.gb) (λj hj=>?_) λd hd=>?_
  .rw[Tr,Tr];by_cases ea:j=a'
   .subst ea;rw[P.ga,a2];rfl
   .rw[P.go j ea hj,a3 j ea]
  .obtain⟨x,c1,rfl⟩:=pE hd;exact ZV x c1
theorem yk{l:List Obj}{e:Int}{m:dn}(h:(fj l e m).2=0):∃(n p:Nat)(o q:Obj),e=n/\l[n]? =some o/\o.ag=4/\o.bs=p/\l[p]? =some q/\q.ag=4/\m.data.length<=60/\q.ax.length<4/\(fj l e m).1=l.set p {q with ax:=q.ax++ [m]}:=by
 have hr:=h;unfold fj at hr;by_cases h1:e<0\/e>=l.length
 .rw[if_pos h1]at hr;cases hr
 rw[if_neg h1]at hr;have hn:e.toNat<l.length:=om;have kz:=vR hn;rw[kz]at hr;simp only[]at hr;by_cases h2:l[e.toNat].ag≠4
 .rw[if_pos h2]at hr;cases hr
 rw[if_neg h2]at hr;by_cases h3:l[e.toNat].bs<0\/l[e.toNat].bs>=l.length
 .rw[if_pos h3]at hr;cases hr
 rw[if_neg h3]at hr;have hp:l[e.toNat].bs.toNat<l.length:=om;have hpo:=vR hp;rw[hpo]at hr;simp only[]at hr;by_cases h4:l[l[e.toNat].bs.toNat].ag≠4
 .rw[if_pos h4]at hr;cases hr
 rw[if_neg h4]at hr;by_cases h5:m.data.length>60
 .rw[if_pos h5]at hr;cases hr
 rw[if_neg h5]at hr;by_cases h6:l[l[e.toNat].bs.toNat].ax.length>=4
 .rw[if_pos h6]at hr;cases hr
 refine⟨e.toNat,l[e.toNat].bs.toNat,_,_,om,kz,by simpa using h2,om,hpo,by simpa using h4,om,om,?_⟩
 rw[fj,if_neg h1,kz];simp only[];rw[if_neg h2,if_neg h3,hpo];simp only[];rw[if_neg h4,if_neg h5,if_neg h6]
theorem KI.send{k:Kr}(h:KI k){e:Int}{m:dn}(ht:m.Tc)(hc:m.has=true->fP k m.dG m.bX)(he:(fj k.l e m).2=0):KI ⟨(fj k.l e m).1,k.ops,k.ps⟩:=by
 obtain⟨n,p,o,q,_,_,_,_,hp,hq4,VY,Ia,hR⟩:=yk he;have RN:=Tu hp;have hs:=h.sm q RN;rw[hR];refine h.KK hp ⟨rfl,rfl,rfl,rfl,rfl,rfl⟩ om ⟨⟨hs.t.1,hs.t.2.1,λx hx=>?_⟩,hs.d,hs.e,?_,λx hx=>?_⟩ (h.RH q RN) λx hx hh=>?_
 .rcases abD.1 hx with hx|hx
  .exact hs.t.2.2 x hx
  .simp at hx;subst hx;exact ht
 .simp only[aa5,aar,abm];omega
 .rcases abD.1 hx with hx|hx
  .exact hs.qd x hx
  .simp at hx;subst hx;omega
 .rcases abD.1 hx with hx|hx
  .exact h.qu q RN x hx hh
  .simp at hx;subst hx;exact hc hh
theorem rA{l:List Obj}{e:Int}(h:(fM l e).2.2=0):∃(n:Nat)(o:Obj)(x:dn)(r:List dn),e=n/\l[n]? =some o/\o.ag=4/\o.ax=x::r/\(fM l e).1=l.set n {o with ax:=r}/\(fM l e).2.1=x:=by
 have hr:=h;unfold fM at hr;by_cases h1:e<0\/e>=l.length
 .rw[if_pos h1]at hr;cases hr
 rw[if_neg h1]at hr;have hn:e.toNat<l.length:=om;have kz:=vR hn;rw[kz]at hr;simp only[]at hr;by_cases h2:l[e.toNat].ag≠4
 .rw[if_pos h2]at hr;cases hr
 rw[if_neg h2]at hr;have hR:fM l e=(match l[e.toNat].ax with
  | []=>if l[e.toNat].bs<0\/l[e.toNat].bs>=l.length then([],ns,17)else match l[l[e.toNat].bs.toNat]? with
   |none=>([],ns,17)
   |some q=>if q.ag≠4 then([],ns,17)else([],ns,16)
  |x::r=>(l.set e.toNat {l[e.toNat]with ax:=r},x,0)):=by
  rw[fM,if_neg h1,kz];simp only[];rw[if_neg h2];rfl
 cases hq:l[e.toNat].ax with
 |nil=>
  rw[hq]at hr;simp only[]at hr;split at hr
  .cases hr
  .split at hr
   .cases hr
   .split at hr<;>cases hr
 |cons x r=>
  rw[hq]at hR;refine⟨e.toNat,_,x,r,om,kz,by simpa using h2,hq,?_,?_⟩<;>rw[hR]
theorem KI.recv{k:Kr}(h:KI k){e:Int}(he:(fM k.l e).2.2=0):KI ⟨(fM k.l e).1,k.ops,k.ps⟩/\((fM k.l e).2.1.has=true->fP k (fM k.l e).2.1.dG (fM k.l e).2.1.bX):=by
 obtain⟨n,o,x,r,_,hn,ho4,hq,hR,hx⟩:=rA he;have K3:=Tu hn;have hs:=h.sm o K3;rw[hR,hx];have iO:∀y,y∈r->y∈o.ax:=λy hy=>by rw[hq];exact abN _ hy
 refine⟨h.KK hn ⟨rfl,rfl,rfl,rfl,rfl,rfl⟩ om ⟨⟨hs.t.1,hs.t.2.1,λy hy=>hs.t.2.2 y (iO y hy)⟩,hs.d,hs.e,?_,λy hy=>hs.qd y (iO y hy)⟩ (h.RH o K3) λy hy hh=>h.qu o K3 y (iO y hy) hh,λhh=>h.qu o K3 x (by rw[hq];simp) hh⟩
 have:=hs.q;rw[hq]at this;simp only[aar]at this|-;omega
end Kn
namespace Kn
structure YW(k:Kr)(x:bl):Prop where
 sl:x.aQ.length<=10
 aU:x.aO=false->x.aQ=[]
 cap:∀s,s∈x.aQ->s.has=true->fP k s.dG s.bX
theorem KI.TG{k:Kr}(h:KI k){x:bl}(hx:x∈k.ps):YW k x:=⟨h.sl x hx,h.aU x hx,h.cap x hx⟩
theorem KI.IJ{k:Kr}(h:KI k){oJ:List bl}(hl:oJ.length<=8)(eG:k.ps.length<=oJ.length)(hx:∀x,x∈oJ->YW k x):KI ⟨k.l,k.ops,oJ⟩:=
 ⟨h.ll,h.lo,hl,h.sm,λx h=>(hx x h).sl,λe=>h.ne (aaq (by have:oJ=[]:=e;rw[this]at eG;simpa using eG)),λx h=>(hx x h).aU,λx h=>(hx x h).cap,
  h.qu,λo ho h5=>let⟨n,a,b⟩:=h.pr o ho h5;⟨n,a,aaJ b eG⟩,h.en,h.z,h.pe,h.dp,h.RH,h.tf⟩
theorem KI.YX{k:Kr}(h:KI k){Pe:List bI}(hl:Pe.length<=60)(hm:∀(n:Nat)o,k.ops[n]? =some o->gn k.l o.bp->∃o',Pe[n]? =some o'/\gn k.l o'.bp)(ha:∀o,o∈Pe->0<=o.dp/\o.dp<=64):KI ⟨k.l,Pe,k.ps⟩:=by
 have eM:∀z r,fP k z r->fP ⟨k.l,Pe,k.ps⟩ z r:=λz r hc=>hc.mono hm
 exact⟨h.ll,hl,h.lp,h.sm,h.sl,h.ne,h.aU,λx hx s hs hh=>eM _ _ (h.cap x hx s hs hh),λo ho q hq hh=>eM _ _ (h.qu o ho q hq hh),h.pr,h.en,h.z,h.pe,ha,h.RH,h.tf⟩
theorem KI.Mo{k:Kr}(h:KI k)(z:Int){a:Int}(ha:0<=a/\a<=64):KI (pA k z a):=by
 unfold pA;cases ho:k.ops[z.toNat]? with
 |none=>exact h
 |some o=>
  have hz:=(Ki.1 ho).1;refine h.YX (by rw[aaI];exact h.lo) (λn x hx hi=>?_) λx hx=>?_
  .by_cases e:n=z.toNat
   .subst e;rw[ho]at hx;cases hx;exact⟨_,TK hz,hi⟩
   .exact⟨x,by rw[U9 (λx=>e x.symm)];exact hx,hi⟩
  .rcases aaQ hx with hx|rfl
   .exact h.dp x hx
   .exact ha
theorem KI.cS{k:Kr}(h:KI k){p:Nat}{x:bl}(hp:k.ps[p]? =some x)(bK:x.aO=true){l:List eA}(hl:l.length<=10)(hc:∀s,s∈l->s.has=true->fP k s.dG s.bX):KI ⟨k.l,k.ops,cS k.ps p l⟩:=by
 have e:Go.Proofs.YtodckkkbiidffaaGreatDoor.cS k.ps p l=k.ps.set p {x with aQ:=l}:=by unfold Go.Proofs.YtodckkkbiidffaaGreatDoor.cS;rw[hp]
 rw[e];refine h.IJ (by rw[aaI];exact h.lp) (by rw[aaI];exact Yj _) λy hy=>?_
 rcases aaQ hy with hy|rfl
 .exact h.TG hy
 .exact⟨hl,λhd=>(by rw[bK]at hd;cases hd),hc⟩
theorem oe{l:List eA}{o r:Int}(h:(fw l o r).2.2=0):Tb.fm r=true/\0<=o/\∀s,s∈(fw l o r).1->s∈l\/s=⟨true,o,r⟩:=by
 have Nl:∀s:eA,Iq (i7 s)=s:=λs=>rfl
 unfold fw at h|-;simp only[]at h|-;unfold Tb.iS at h|-;split at h
 .cases h
 .rename_i h1;have hr:Tb.fm r=true:=by
   cases hx:Tb.fm r with
   |true=>rfl
   |false=>exact absurd (.inl hx) h1
  have ho:0<=o:=Int.not_lt.1 λhx=>h1 (.inr hx)
  refine⟨hr,ho,λs hs=>?_⟩
  rw[if_neg h1]at hs;split at hs
  .obtain⟨t,ht,rfl⟩:=aaz.1 hs;rcases aaQ ht with ht|rfl
   .obtain⟨u,hu,rfl⟩:=aaz.1 ht;exact .inl hu
   .exact .inr rfl
  .split at hs
   .cases hs
   .obtain⟨t,ht,rfl⟩:=aaz.1 hs;rcases abD.1 ht with ht|ht
    .obtain⟨u,hu,rfl⟩:=aaz.1 ht;exact .inl hu
    .simp at ht;subst ht;exact .inr rfl
theorem uC{n:Int}:Tb.fm n=true↔0<=n/\n<=4095:=by unfold Tb.fm;rw[aae,decide_eq_true_eq,decide_eq_true_eq]
theorem KI.mQ{k:Kr}(h:KI k){p:Nat}{x:bl}(hp:k.ps[p]? =some x)(bK:x.aO=true){bp bX:Int}(ho:gn k.l bp)(he:(aE k p bp bX).2.2=0):KI (aE k p bp bX).1:=by
 have ui:ap k.ps p=x.aQ:=by rw[ap,hp]
 unfold aE at he|-;split at he
 .cases he
 rename_i h1;rw[if_neg h1];split at he
 .rename_i h2;exact absurd he h2
 rename_i h2;rw[if_neg h2];have h2:(fw (ap k.ps p) (cY k.ops) bX).2.2=0:=Yl h2;rw[ui]at h2|-;obtain⟨c1,c2,c3⟩:=oe h2;have hi:cY k.ops<k.ops.length\/cY k.ops=k.ops.length/\k.ops.length<60:=by
  unfold cY;cases hf:EX k.ops with
  |none=>exact .inr ⟨rfl,Nat.not_le.1 λa=>h1 ⟨hf,a⟩⟩
  |some i=>exact .inl (Bw hf)
 have Na:∀o,k.ops[cY k.ops]? =some o->o.bp<0:=λo hx=>by
  unfold cY at hx;cases hf:EX k.ops with
  |none=>
   rw[hf]at hx;rw[show(none:Option Nat).getD k.ops.length=k.ops.length from rfl,aaH (Yj _)]at hx;cases hx
  |some i=>
   rw[hf]at hx;have:=aaV.1 hf;obtain⟨a1,a2,_⟩:=this;rw[show(some i).getD k.ops.length=i from rfl,vR a1]at hx;cases hx;simpa using a2
 have jC:∀n:Nat,(jy k.ops (cY k.ops) ⟨bp,0⟩)[n]? =if n=cY k.ops then some ⟨bp,0⟩else k.ops[n]? :=λn=>by
  unfold jy;split
  .rename_i e;rw[e];by_cases hn:n=k.ops.length
   .subst hn;rw[if_pos rfl,Y5 (Yj _)];simp
   .rw[if_neg hn];rcases aag n k.ops.length with a|a
    .exact aad a
    .rw[Y5 a,aaH a];cases e2:n-k.ops.length with
     |zero=>omega
     |succ m=>rfl
  .rename_i e;have aD:cY k.ops<k.ops.length:=om;by_cases hn:n=cY k.ops
   .subst hn;rw[if_pos rfl,TK aD]
   .rw[if_neg hn,U9 (λa=>hn a.symm)]
 have kL:KI ⟨k.l,jy k.ops (cY k.ops) ⟨bp,0⟩,k.ps⟩:=by
  refine h.YX ?_ (λn o hx hio=>?_) λo hx=>?_
  .unfold jy;split
   .rw[aa5];simp;omega
   .rw[aaI];exact h.lo
  .rw[jC];by_cases e:n=cY k.ops
   .subst e;have:=Na o hx;obtain⟨j,_,e2,_⟩:=hio;omega
   .rw[if_neg e];exact⟨o,hx,hio⟩
  .unfold jy at hx;split at hx
   .rcases abD.1 hx with hx|hx
    .exact h.dp o hx
    .simp at hx;subst hx;exact⟨adq _,by show(0:Int)<=64;omega⟩
   .rcases aaQ hx with hx|rfl
    .exact h.dp o hx
    .exact⟨adq _,by show(0:Int)<=64;omega⟩
 refine kL.cS hp bK (tc (h.sl x (Tu hp))) λs hs hh=>?_
 rcases c3 s hs with hs|rfl
 .exact kL.cap x (Tu hp) s hs hh
 .exact⟨uC.1 c1,cY k.ops,⟨bp,0⟩,rfl,by rw[jC,if_pos rfl],ho⟩
theorem KI.exit{k:Kr}(h:KI k){p code:Int}(he:(gD k p code).2=0):KI (gD k p code).1:=by
 unfold gD at he|-;split at he
 .cases he
 rename_i h1;rw[if_neg h1];split at he
 .cases he
 rename_i h2;rw[if_neg h2];refine h.IJ (by rw[aaI];exact h.lp) (by rw[aaI];exact Yj _) λy hy=>?_
 rcases aaQ hy with hy|rfl
 .exact h.TG hy
 .exact⟨aC,λ_=>rfl,λs hs=>by cases hs⟩
theorem KI.YQ{k:Kr}(h:KI k)(p:Nat):KI ⟨k.l,k.ops,lP k.ps p⟩:=by
 unfold lP;cases hp:k.ps[p]? with
 |none=>exact h
 |some x=>
  refine h.IJ (by rw[aaI];exact h.lp) (by rw[aaI];exact Yj _) λy hy=>?_
  have:=h.TG (Tu hp);rcases aaQ hy with hy|rfl
  .exact h.TG hy
  .exact⟨this.sl,this.aU,this.cap⟩
theorem Hf{l:List Obj}{ps:List bl}(h:¬hU l ps<0):∃c:Nat,hU l ps=c/\c<=ps.length/\c<8/\(c<ps.length->sP l ps c=true):=by obtain⟨c,hc⟩:∃c:Nat,hU l ps=c:=⟨(hU l ps).toNat,om⟩;obtain⟨h1,_,h3,h4⟩:=pq l ps 8 0 c hc (aav _);exact⟨c,hc,h1,om,h4⟩
theorem Pf{k:Kr}{c:Nat}(hc:c<k.ps.length):RM k (da c):=⟨DL _,by simp[da],rfl,rfl,by simp[da],rfl,rfl,λh=>by simp[da]at h,λ_=>⟨c,rfl,hc⟩⟩
theorem uD{ps:List bl}{n c:Nat}{x:bl}(hn:ps[n]? =some x)(hc:c<=ps.length):(gm ps n c).length=(if c=ps.length then ps.length+1 else ps.length)/\(gm ps n c)[c]? =some ⟨true,x.fenced,0,x.aQ⟩/\(∀i,i≠c->(gm ps n c)[i]? =ps[i]?)/\(∀y,y∈gm ps n c->y∈ps\/y=⟨true,x.fenced,0,x.aQ⟩):=by
 unfold gm;rw[hn];simp only[];split
 .rename_i e;subst e;refine⟨aC,by rw[Y5 (Yj _)];simp,λi hi=>?_,λy hy=>by simpa using hy⟩
  rcases aag i ps.length with a|a
  .exact aad a
  .rw[Y5 a,aaH a];cases e2:i-ps.length with
   |zero=>omega
   |succ m=>rfl
 .exact⟨aC,TK om,λi hi=>U9 (λe=>hi e.symm),λy hy=>aaQ hy⟩
structure YY(k:Kr)(p:Nat)(x:bl)(c:Nat):Prop where
 le:c<=k.ps.length
 c8:c<8
 aU:c<k.ps.length->sP k.l k.ps c=true
 ne:p≠c
 em:(aG k.l (da c)).2.2=0
 eo:(aE ⟨(aG k.l (da c)).1,k.ops,gm k.ps p c⟩ p (aG k.l (da c)).2.1 3200).2.2=0
 R:fX k p=((aE ⟨(aG k.l (da c)).1,k.ops,gm k.ps p c⟩ p (aG k.l (da c)).2.1 3200).1,(c:Int),(aE ⟨(aG k.l (da c)).1,k.ops,gm k.ps p c⟩ p (aG k.l (da c)).2.1 3200).2.1,0)
theorem rB{k:Kr}{p:Nat}{x:bl}(hp:k.ps[p]? =some x)(bK:x.aO=true)(he:(fX k p).2.2.2=0):∃c:Nat,YY k p x c:=by
 have hl:fN k.ps p=true:=by have jY:=(Ki.1 hp).1;refine Ra jY ?_;have:=vR jY;rw[hp]at this;cases this;exact bK
 unfold fX at he;rw[if_neg (by rw[hl];simp)]at he
 split at he
 .cases he
 rename_i hf;obtain⟨c,hc,c1,c2,c3⟩:=Hf hf;rw[hc,ZW,ZW]at he;have hR:fX k p=xF k.l k.ops (gm k.ps p c) p c:=by
  rw[fX,if_neg (by rw[hl];simp),if_neg hf,hc,ZW,ZW]
 unfold xF at he;split at he
 .rename_i h1;exact absurd he h1
 rename_i h1;split at he
 .rename_i h2;exact absurd he h2
 rename_i h2;refine⟨c,c1,c2,c3,λe=>?_,Yl h1,Yl h2,?_⟩
 .subst e;have:=c3 (Ki.1 hp).1;rw[sP,hp]at this;simp only[bK]at this;cases this
 .rw[hR,xF,if_neg h1,if_neg h2]
theorem KI.acN{k:Kr}(h:KI k){p:Nat}{x:bl}(hp:k.ps[p]? =some x)(bK:x.aO=true)(he:(fX k p).2.2.2=0):KI (fX k p).1:=by
 obtain⟨c,C⟩:=rB hp bK he;obtain⟨g1,g2,g3,g4⟩:=uD hp C.le;have hx:=h.TG (Tu hp);have h1:KI ⟨k.l,k.ops,gm k.ps p c⟩:=by
  refine h.IJ ?_ ?_ λy hy=>?_
  .rw[g1];have:=C.c8;have:=h.lp;split<;>omega
  .rw[g1];split<;>omega
  .rcases g4 y hy with hy|rfl
   .exact h.TG hy
   .exact⟨hx.sl,λhd=>(by cases hd),hx.cap⟩
 have iB:c<(gm k.ps p c).length:=(Ki.1 g2).1;have h2:=h1.make (Pf iB) C.em;obtain⟨j,j1,j2,_⟩:=gg C.em h.ll;rw[C.R];refine h2.mQ (p:=p) (x:=x) (by show(gm k.ps p c)[p]? =some x;rw[g3 p C.ne];exact hp) bK ⟨j,_,j1,j2,by simp[da]⟩ C.eo
end Kn
namespace Kn
theorem Hg{b:Bool}{l:List Obj}{cL bp:Int}{name:ByteArray}(u9:∀(p:Nat)q,bp=p->l[p]? =some q->q.am=0)(h:(cQ b l cL name bp).2=0){z:Int}(hz:gn l z):gn (cQ b l cL name bp).1 z:=by
 obtain⟨n,p,o,q,rfl,rfl,hn,hp,KX,fA,A0,_,_,_,hR⟩:=pF h;have BY:n≠p:=λe=>by subst e;rw[hn]at hp;cases hp;exact A0 (u9 n _ rfl hn)
 obtain⟨g1,g2,g3,g4⟩:=uB hn hp BY name;rw[hR];refine hz.mono λj x hx hk=>?_
 by_cases e:j=n
 .subst e;rw[hn]at hx;cases hx;exact⟨_,g1,hk⟩
 .by_cases e2:j=p
  .subst e2;rw[hp]at hx;cases hx;exact⟨_,g2,hk⟩
  .exact⟨x,by rw[g3 j e e2];exact hx,hk⟩
theorem K4{t:bO.dU}(h:bO.f9 t=true):(bO.cI t).size<=12:=by unfold bO.f9 at h;simp only[aae,decide_eq_true_eq]at h;rw[bO.nv];exact h.1.1.1.2
structure Hh(o:Obj):Prop where
 n:Rx o
 k:o.ag=1\/o.ag=2\/o.ag=3
 q:o.ax=[]
 d:o.data.length<=60
 l:o.am=0
 u:o.up=0
theorem Hh.RQ{o:Obj}(h:Hh o)(k:Kr):RM k (gR o):=
 ⟨h.n.gR.sm,λe=>(by have:o.ag=0:=e;have:=h.k;omega),h.n.en,h.q,h.d,h.l,h.u,λe=>(by have:o.ag=4:=e;have:=h.k;omega),λe=>(by have:o.ag=5:=e;have:=h.k;omega)⟩
theorem IK:Hh pz:=⟨Ag,.inl rfl,rfl,by simp[pz],rfl,rfl⟩
theorem Pg:Hh G0:=⟨BV _ _,.inr (.inl rfl),rfl,by simp[G0],rfl,rfl⟩
theorem IL(d:List Int):Hh (x8 d):=⟨BV _ _,.inr (.inr rfl),rfl,by simp[x8],rfl,rfl⟩
structure acO(k:Kr)(f:R4)(o:Obj)(j:Nat):Prop where
 em:(aG k.l (gR o)).2.2=0
 ej:(aG k.l (gR o)).2.1=j
 ee:(BR (aG k.l (gR o)).1 f j).2=0
 R:ce k f o=(⟨(BR (aG k.l (gR o)).1 f j).1,k.ops,k.ps⟩,(j:Int),0)
theorem tj{k:Kr}(hl:k.l.length<=40){f:R4}{o:Obj}(he:(ce k f o).2.2=0):∃j:Nat,acO k f o j:=by
 unfold ce at he;by_cases h1:(aG k.l (gR o)).2.2=0
 .rw[if_neg (by simp[h1])]at he
  obtain⟨j,e1,_⟩:=gg h1 hl;have he:(BR (aG k.l (gR o)).1 f (aG k.l (gR o)).2.1).2=0:=he;rw[e1]at he;refine⟨j,h1,e1,he,?_⟩;rw[ce,if_neg (by simp[h1]),e1,he,bF,if_pos rfl]
 .rw[if_pos h1]at he;exact absurd he h1
theorem KI.Hi{k:Kr}(h:KI k){f:R4}{o:Obj}(ho:Hh o)(he:(ce k f o).2.2=0):KI (ce k f o).1/\gn (ce k f o).1.l (ce k f o).2.1/\(ce k f o).1.ps=k.ps:=by
 obtain⟨j,C⟩:=tj h.ll he;have h1:=h.make (ho.RQ k) C.em;obtain⟨j',e1,a2,_⟩:=gg C.em h.ll;have:j'=j:=by have:=C.ej;omega
 subst this;have u9:∀(p:Nat)q,((j':Nat):Int)=p->(aG k.l (gR o)).1[p]? =some q->q.am=0:=λp q e hq=>by have:p=j':=om;subst this;rw[a2]at hq;cases hq;exact ho.l
 rw[C.R];exact⟨h1.enter (λhb=>K4 hb) u9 C.ee,Hg u9 C.ee ⟨j',_,rfl,a2,(ho.RQ k).kd⟩,rfl⟩
theorem KI.bW{k:Kr}(h:KI k){c:Cl}{f:R4}(hf:f.fp=0->f.bp= -1\/gn k.l f.bp)(he:(bW k c f).2.2=0):KI (bW k c f).1/\gn (bW k c f).1.l (bW k c f).2.1/\(bW k c f).1.ps=k.ps:=by
 unfold Kn.bW at he|-;split at he
 .rename_i h1;exact absurd he h1
 rename_i h1;rw[if_neg h1];have hf:=hf (Yl h1);split at he
 .rename_i h2;rw[if_pos h2];split at he
  .cases he
  .rename_i h3;rw[if_neg h3];exact h.Hi IK he
 .rename_i h2;rw[if_neg h2];split at he
  .cases he
  .rename_i h3;rw[if_neg h3];refine⟨h,hf.elim (λe=>absurd (by show f.bp<0;omega) h2) id,rfl⟩
theorem uE{k:Kr}{p:Nat}{bp bX:Int}(he:(aE k p bp bX).2.2=0):(aE k p bp bX).1.ps=cS k.ps p (fw (ap k.ps p) (cY k.ops) bX).1/\(aE k p bp bX).1.l=k.l/\(fw (ap k.ps p) (cY k.ops) bX).2.2=0/\(aE k p bp bX).1.ops=jy k.ops (cY k.ops) ⟨bp,0⟩/\(aE k p bp bX).2.1=(fw (ap k.ps p) (cY k.ops) bX).2.1:=by
 unfold aE at he|-;split at he
 .cases he
 rename_i h1;rw[if_neg h1];split at he
 .rename_i h2;exact absurd he h2
 rename_i h2;rw[if_neg h2];exact⟨rfl,rfl,Yl h2,rfl,rfl⟩
theorem K5(ps:List bl)(p:Nat)(l:List eA):(cS ps p l).length=ps.length:=by
 unfold cS;split
 .rw[aaI]
 .rfl
theorem fz{ps:List bl}{p:Nat}{x:bl}(hp:ps[p]? =some x)(l:List eA):(cS ps p l)[p]? =some {x with aQ:=l}:=by unfold cS;rw[hp];exact TK (Ki.1 hp).1
theorem KI.YZ{k:Kr}(h:KI k){z:Int}(hz:gn k.l z):KI ⟨lK k.l z,k.ops,k.ps⟩:=by obtain⟨j,o,rfl,hj,hk⟩:=hz;have hs:=h.sm o (Tu hj);rw[lK,ZW,hj];exact h.KK hj ⟨rfl,rfl,rfl,rfl,rfl,rfl⟩ hk ⟨⟨⟨[],rfl⟩,hs.t.2.1,hs.t.2.2⟩,aC,hs.e,hs.q,hs.qd⟩ aC (h.qu o (Tu hj))
theorem KI.TH{k:Kr}(h:KI k){p:Nat}{x:bl}(hp:k.ps[p]? =some x)(bK:x.aO=true){c:Cl}{ar:Int}{ay:Bool}(he:(eO k p c ar ay).2.fp=0):KI (eO k p c ar ay).1:=by
 unfold eO jd at he|-;split at he
 .rename_i h1;exact absurd he h1
 rename_i h1;rw[if_neg h1];obtain⟨g1,g2,g3⟩:=h.bW (h.RL ar c.cE ay true) (Yl h1);split at he
 .rename_i h2;exact absurd he h2
 rename_i h2;rw[if_neg h2];have h2:=Yl h2;have h3:=g1.mQ (by rw[g3];exact hp) bK g2 h2
 split
 .exact h3.YZ (by rw[(uE h2).2.1];exact g2)
 .exact h3
theorem KI.Y0{k:Kr}(h:KI k){p:Nat}{x:bl}(hp:k.ps[p]? =some x)(bK:x.aO=true){c:Cl}(he:(fx k p c).2.fp=0):KI (fx k p c).1:=by
 unfold fx at he|-;split at he
 .cases he
 rename_i h1;rw[if_neg h1];split at he
 .rename_i h2;rw[if_pos h2];exact h.TH hp bK he
 rename_i h2;rw[if_neg h2];split at he
 .rename_i h3;exact absurd he h3
 .rename_i h3;rw[if_neg h3];exact h.TH hp bK he
theorem Hj{k:Kr}{p:Nat}{fd need:Int}(h:(br k p fd need).2.2=0):∃s,s∈ap k.ps p/\s.has=true/\(br k p fd need).1=(s.dG,s.bX)/\(br k p fd need).2.1=dM k.ops s.dG:=by
 unfold br at h|-;split at h
 .rename_i h1;exact absurd h h1
 .rename_i h1;rw[if_neg h1];obtain⟨s,hs,hh,e⟩:=xY (Yl h1);exact⟨s,hs,hh,e,by show dM k.ops _=_;rw[e]⟩
theorem KI.br{k:Kr}(h:KI k){p:Nat}{fd need:Int}(he:(Kn.br k p fd need).2.2=0):∃(n:Nat)(o:bI)(j:Nat)(x:Obj),(Kn.br k p fd need).1.1=n/\k.ops[n]? =some o/\(Kn.br k p fd need).2.1=j/\o.bp=j/\k.l[j]? =some x/\x.ag≠0/\0<=(Kn.br k p fd need).1.2/\(Kn.br k p fd need).1.2<=4095:=by
 obtain⟨s,hs,hh,e,e2⟩:=Hj he;obtain⟨hr,n,o,h1,h2,j,x,h3,h4,h5⟩:=h.eM hs hh;refine⟨n,o,j,x,by rw[e];exact h1,h2,?_,h3,h4,h5,by rw[e];exact hr.1,by rw[e];exact hr.2⟩
 rw[e2,h1,dM,ZW,h2];exact h3
theorem IM{a b:Int}(h0:0<=a)(ha:a<=1000)(Jb:0<=b)(hb:b<=5000000):BT a b=a+b:=by unfold BT;exact iD om om
theorem KI.py{k:Kr}(h:KI k)(z:Int):0<=py k.ops z/\py k.ops z<=64:=by
 unfold Kn.py;cases ho:k.ops[z.toNat]? with
 |none=>exact⟨adq _,by show(0:Int)<=64;omega⟩
 |some o=>exact h.dp o (Tu ho)
theorem Ph{ag:Int}{d:List (List Dt)}{dp n:Int}(h:(j9 ag d dp n).2=0):ag=1/\0<=dp/\0<=n/\(j9 ag d dp n).1=Kl d dp.toNat n.toNat:=by
 unfold j9 at h|-;split at h
 .cases h
 rename_i h1;split at h
 .cases h
 rename_i h2;split at h
 .cases h
 rename_i h3;rw[if_neg h1,if_neg h2,if_neg h3];exact⟨om,om,om,rfl⟩
theorem RS(d:List (List Dt))(a n:Nat):(Kl d a n).length=fD n (d.length-fD a d.length):=by have h1:=n9 a d.length;have h2:=n9 n (d.length-fD a d.length);unfold Kl;rw[abu,aaE];omega
theorem RT{o:Obj}{dp:Int}{b:List Int}(ho:o.sm)(hd:o.data.length<=60)(h:(fo o dp (jv b)).2=0):(fo o dp (jv b)).1.data.length<=60:=by
 obtain⟨_,_,h1,h2,h3,h4⟩:=s7 ho h;rw[h4];obtain⟨d,yF⟩:=ho.t.1;show(qE o.data dp.toNat (jv b)).length<=60;rw[yF,GU,show ∀x:List Int,(jv x).length=x.length from λx=>by simp[jv]]
 have my:d.length<=60:=by rw[yF]at hd;simpa[jv]using hd
 have:=ID d b dp.toNat om om;omega
theorem KI.bytes{k:Kr}(h:KI k){p:Nat}{c:Cl}(he:(gd k p c).2.fp=0):KI (gd k p c).1:=by
 unfold gd kF at he|-;split at he
 .rename_i h1;exact absurd he h1
 rename_i h1;rw[if_neg h1];obtain⟨n,op,j,x,e1,e2,e3,e4,e5,e6,_⟩:=h.br (Yl h1);have Vu:=Tu e5;have Qd:lM k.l (Kn.br k p c.fd (oz c.ag)).2.1=x:=by rw[e3,lM,ZW,e5];rfl
 rw[Qd]at he|-;have FM:=h.py (Kn.br k p c.fd (oz c.ag)).1.1;split at he
 .rename_i h4;rw[if_pos h4];unfold pB at he|-;split at he
  .rename_i h5;exact absurd he h5
  rename_i h5;rw[if_neg h5];obtain⟨_,h6,_,h7⟩:=Ph (Yl h5);refine h.Mo _ ?_;rw[h7,RS];have hd:=h.RH x Vu;have m1:=n9 (Kn.py k.ops (Kn.br k p c.fd (oz c.ag)).1.1).toNat x.data.length;have m2:=n9 c.n.toNat (x.data.length-fD (Kn.py k.ops (Kn.br k p c.fd (oz c.ag)).1.1).toNat x.data.length);have m3:fD (Kn.py k.ops (Kn.br k p c.fd (oz c.ag)).1.1).toNat x.data.length=(Kn.py k.ops (Kn.br k p c.fd (oz c.ag)).1.1).toNat\/fD (Kn.py k.ops (Kn.br k p c.fd (oz c.ag)).1.1).toNat x.data.length=x.data.length:=by unfold fD;split<;>simp
  rw[IM om om om om];omega
 rename_i h4;rw[if_neg h4];split at he
 .rename_i h5;rw[if_pos h5];unfold mP at he|-;split at he
  .rename_i h6;exact absurd he h6
  rename_i h6;rw[if_neg h6];have h6:=Yl h6;obtain⟨w1,w2,w3,w4,w5,w6⟩:=s7 (h.sm x Vu) h6;have w7:=RT (h.sm x Vu) (h.RH x Vu) h6;have h2:KI (setObj k (Kn.br k p c.fd (oz c.ag)).2.1 (fo x (Kn.py k.ops (Kn.br k p c.fd (oz c.ag)).1.1) (jv c.data)).1):=by
   rw[e3,setObj,ZW];exact h.KK e5 (by rw[w6];exact⟨rfl,rfl,rfl,rfl,rfl,rfl⟩) e6 w1 w7 (by rw[w6];exact h.qu x Vu)
  refine h2.Mo _ ?_;rw[IM om om om om];omega
 .rename_i h5;rw[if_neg h5];unfold oc at he|-;split at he
  .cases he
  rename_i h6;rw[if_neg h6];exact h.Mo _ ⟨om,om⟩
theorem jN{l:List eA}{fd:Int}(h:(c7 l fd).2=0):∃(i:Nat)(s:eA),fd=i/\l[i]? =some s/\s.has=true/\(c7 l fd).1=(s.dG,s.bX)/\Tb.du (l.map i7) fd=(⟨s.dG,s.bX⟩,0):=by
 unfold c7 Tb.du at h|-;by_cases h0:0<=fd
 .rw[if_pos h0,Tr]at h|-;cases hy:l[fd.toNat]? with
  |none=>rw[hy]at h;cases h
  |some t=>
   rw[hy]at h;simp only[aaG]at h|-;cases hh:t.has with
   |false=>
    have:(i7 t).has=false:=hh;rw[this]at h;cases h
   |true=>
    have h2:(i7 t).has=true:=hh;refine⟨fd.toNat,t,om,hy,hh,?_,?_⟩
    .rw[h2];rfl
    .rw[h2];rfl
 .rw[if_neg h0]at h;cases h
theorem Ei{l:List eA}{c:Cl}(hl:l.length<=10)(h:(jg l c).2.2=0):(jg l c).1.length<=10/\∀s,s∈(jg l c).1->s.has=true->s∈l\/∃t,t∈l/\t.has=true/\s.dG=t.dG/\0<=s.bX/\s.bX<=4095:=by
 have Nl:∀s:eA,Iq (i7 s)=s:=λs=>rfl
 unfold jg at h|-;split at h
 .rename_i h7;rw[if_pos h7];unfold rn Tb.mL at h|-;split at h
  .rename_i h1;simp only[if_pos h1];refine⟨by simp only[N7,aaE,aaI];omega,λs hs hh=>?_⟩
   obtain⟨t,ht,rfl⟩:=aaz.1 hs;rcases aaQ (abq ht)with ht|rfl
   .obtain⟨u,hu,rfl⟩:=aaz.1 ht;exact .inl hu
   .cases hh
  .rename_i h1;exact absurd h h1
 rename_i h7;rw[if_neg h7];split at h
 .rename_i h8;rw[if_pos h8];unfold ur Tb.sN at h|-;split at h
  .rename_i h1;obtain⟨i,t,_,h3,h4,h5,h6⟩:=jN (l:=l) (fd:=c.fd) h1;have e:(Tb.du (l.map i7) c.fd).1=⟨t.dG,t.bX⟩:=by rw[h6]
   rw[e]at h;simp only[if_pos h1,e];obtain⟨a1,_,a3⟩:=oe (l:=l) (o:=t.dG) (r:=t.bX) h;refine⟨tc (l:=l) (o:=t.dG) (r:=t.bX) hl,λs hs hh=>?_⟩
   rcases a3 s hs with hs|rfl
   .exact .inl hs
   .exact .inr ⟨t,Tu h3,h4,rfl,uC.1 a1⟩
  .rename_i h1;exact absurd h h1
 .rename_i h8;rw[if_neg h8];unfold vU Tb.xG at h|-;split at h
  .rename_i h1;obtain⟨i,t,_,h3,h4,h5,h6⟩:=jN (l:=l) (fd:=c.fd) h1;split at h
   .cases h
   rename_i h2;split at h
   .cases h
   rename_i h9;simp only[if_pos h1,if_neg h2,if_neg h9];have hr:Tb.fm c.aY=true:=by cases hx:Tb.fm c.aY with|true=>rfl|false=>exact absurd hx h2
   refine⟨by simp only[N7,aaI];omega,λs hs hh=>?_⟩
   obtain⟨u,hu,rfl⟩:=aaz.1 hs;rcases aaQ hu with hu|rfl
   .obtain⟨v,hv,rfl⟩:=aaz.1 hu;exact .inl hv
   .refine .inr ⟨t,Tu h3,h4,?_,uC.1 hr⟩;show(Tb.du (l.map i7) c.fd).1.dG=_;rw[h6]
  .rename_i h1;exact absurd h h1
theorem KI.acP{k:Kr}(h:KI k){p:Nat}{x:bl}(hp:k.ps[p]? =some x)(bK:x.aO=true){c:Cl}(he:(iI k p c).2.fp=0):KI (iI k p c).1:=by
 have ui:ap k.ps p=x.aQ:=by rw[ap,hp]
 have he:(jg (ap k.ps p) c).2.2=0:=he;have hx:=h.TG (Tu hp);show KI (eC k p (jg (ap k.ps p) c).1 (jg (ap k.ps p) c).2.2);rw[eC,if_pos he];rw[ui]at he|-;obtain⟨h1,h2⟩:=Ei hx.sl he;refine h.cS hp bK h1 λs hs hh=>?_
 rcases h2 s hs hh with hs|⟨t,ht,hth,e,r⟩
 .exact hx.cap s hs hh
 .obtain⟨_,n,o,a1,a2,a3⟩:=hx.cap t ht hth;exact⟨r,n,o,e.trans a1,a2,a3⟩
theorem KI.name{k:Kr}(h:KI k){p:Nat}{c:Cl}(he:(iJ k p c).2.fp=0):KI (iJ k p c).1:=by
 have he:(im k c (Kn.br k p c.fd (s9 c))).2=0:=he;show KI (im k c (Kn.br k p c.fd (s9 c))).1;unfold im at he|-;split at he
 .rename_i h1;exact absurd he h1
 rename_i h1;rw[if_neg h1];split at he
 .rename_i h2;exact absurd he h2.2
 rename_i h2;rw[if_neg h2];unfold mC at he|-;split at he
 .rename_i h3;exact absurd he h3
 rename_i h3;rw[if_neg h3];split at he
 .cases he
 rename_i h4;rw[if_neg h4];split at he
 .rename_i h5;rw[if_pos h5];split at he
  .cases he
  rename_i h6;rw[if_neg h6];have he:(D9 k (gV k (Kn.br k p c.fd (s9 c)).2.1 c.cE true false)).2.2=0:=he;show KI (bF k _ _);rw[bF,if_pos he];exact h.Hc he
 rename_i h5;rw[if_neg h5];split at he
 .cases he
 rename_i h6;rw[if_neg h6];split at he
 .rename_i h7;rw[if_pos h7];exact(h.Hi (IL _) he).1
 .rename_i h7;rw[if_neg h7];exact(h.Hi Pg he).1
theorem KI.gX{k:Kr}(h:KI k){p:Nat}{x:bl}(hp:k.ps[p]? =some x)(bK:x.aO=true)(he:(gX k p).2.fp=0):KI (gX k p).1:=by
 unfold Kn.gX yb at he|-;split at he
 .rename_i h1;exact absurd he h1
 rename_i h1;rw[if_neg h1];obtain⟨g1,g2,g3⟩:=h.Vt (Yl h1);unfold td at he|-;split at he
 .rename_i h2;exact absurd he h2
 rename_i h2;rw[if_neg h2];have h2:=Yl h2;have o1:=g1.mQ (p:=p) hp bK g2 h2;split at he
 .rename_i h3;exact absurd he h3
 rename_i h3;rw[if_neg h3];have e:=uE h2;refine o1.mQ (p:=p) (x:=⟨x.aO,x.fenced,x.code,(fw (ap k.ps p) (cY k.ops) 896).1⟩) (by rw[e.1];exact fz hp _) bK (by rw[e.2.1];exact g3) (Yl h3)
theorem KI.iK{k:Kr}(h:KI k){p:Nat}{c:Cl}(he:(iK k p c).2.fp=0):KI (iK k p c).1:=by
 have key:∀r:List Obj×Int,(kh k c r).2.fp=0->r.2=0:=λr hr=>by
  unfold kh at hr;by_cases h1:r.2=0
  .exact h1
  .rw[if_pos h1]at hr;exact absurd hr h1
 have iu:∀(bp:Int)(m:dn),m.Tc->(m.has=true->fP k m.dG m.bX)->(kh k c (fj k.l bp m)).2.fp=0->KI (kh k c (fj k.l bp m)).1:=λbp m ht hc hr=>by have h1:=key _ hr;show KI (bF k _ _);rw[bF,if_pos h1];exact h.send ht hc h1
 unfold Kn.iK vu at he|-;split at he
 .rename_i h1;exact absurd he h1
 rename_i h1;rw[if_neg h1];unfold ta at he|-;split at he
 .rename_i h2;rw[if_pos h2];split at he
  .rename_i h3;exact absurd he h3
  rename_i h3;rw[if_neg h3];obtain⟨i,s,_,a2,a3,a4,_⟩:=jN (Yl h3);refine iu _ _ ⟨c.data,rfl⟩ (λ_=>?_) he
  show fP k (c7 (ap k.ps p) c.fY).1.1 (c7 (ap k.ps p) c.fY).1.2;rw[a4];exact h.eM (Tu a2) a3
 .rename_i h2;rw[if_neg h2];exact iu _ _ ⟨c.data,rfl⟩ (λhh=>by cases hh) he
theorem KI.gW{k:Kr}(h:KI k){p:Nat}{x:bl}(hp:k.ps[p]? =some x)(bK:x.aO=true){c:Cl}(he:(gW k p c).2.fp=0):KI (gW k p c).1:=by
 unfold Kn.gW ya at he|-;split at he
 .rename_i h1;exact absurd he h1
 rename_i h1;rw[if_neg h1];unfold x9 at he|-;split at he
 .rename_i h2;exact absurd he h2
 rename_i h2;rw[if_neg h2];obtain⟨g1,g2⟩:=h.recv (Yl h2);have ui:ap k.ps p=x.aQ:=by rw[ap,hp]
 split at he
 .rename_i h3;rw[if_pos h3];split at he
  .rename_i h4;exact absurd he h4
  rename_i h4;rw[if_neg h4];show KI (bF (eC k p _ 0) _ 0);rw[bF,if_pos rfl,eC,if_pos rfl];have h4:=Yl h4;rw[ui]at h4|-;obtain⟨a1,_,a3⟩:=oe h4;have hx:=h.TG (Tu hp);refine g1.cS (p:=p) hp bK (tc hx.sl) λs hs hh=>?_
  rcases a3 s hs with hs|rfl
  .exact g1.cap x (Tu hp) s hs hh
  .have hq:fP ⟨(fM k.l (Kn.br k p c.fd 512).2.1).1,k.ops,k.ps⟩ (fM k.l (Kn.br k p c.fd 512).2.1).2.1.dG (fM k.l (Kn.br k p c.fd 512).2.1).2.1.bX:=by
    obtain⟨r,n,o,b1,b2,b3⟩:=g2 h3;refine⟨r,n,o,b1,b2,b3.mono λj y hy Pb=>?_⟩
    obtain⟨n',o',_,_,_,c2,c3,_,c5,_⟩:=rA (Yl h2);rw[c5];by_cases ej:j=n'
    .subst ej;rw[c2]at hy;cases hy;exact⟨_,TK (Ki.1 c2).1,Pb⟩
    .exact⟨y,by rw[U9 (λe=>ej e.symm)];exact hy,Pb⟩
   exact hq
 .rename_i h3;rw[if_neg h3];show KI (bF k _ 0);rw[bF,if_pos rfl];exact g1
theorem KI.Y1{k:Kr}(h:KI k){p:Nat}{x:bl}(hp:k.ps[p]? =some x)(bK:x.aO=true){c:Cl}(he:(dR k p c).2.fp=0):KI (dR k p c).1:=by
 have ex:∀e:Kr×Int,(e.2=0->KI e.1)->KI (io k e).1:=λe hE=>by
  unfold io;split
  .rename_i h1;exact hE h1
  .exact h
 unfold dR at he|-;split at he
 .rename_i h1;rw[if_pos h1];exact h.YQ p
 rename_i h1;rw[if_neg h1];split at he
 .rename_i h2;rw[if_pos h2];exact h
 rename_i h2;rw[if_neg h2];split at he
 .rename_i h3;rw[if_pos h3];unfold pD at he|-;split at he
  .rename_i h4;exact absurd he h4
  .rename_i h4;rw[if_neg h4];exact h.acN hp bK (Yl h4)
 rename_i h3;rw[if_neg h3];split at he
 .rename_i h4;rw[if_pos h4];exact ex _ λe=>h.exit e
 .rename_i h4;rw[if_neg h4];generalize Kn.br k p c.fd (if c.ag=20 then 2048 else 1024)=w
  unfold lQ;split
  .exact h
  .unfold rx;split
   .exact h
   .split
    .split<;>exact h
    .exact ex _ λe=>h.exit e
theorem KI.op{k:Kr}(h:KI k){p:Nat}{x:bl}(hp:k.ps[p]? =some x)(bK:x.aO=true){c:Cl}(he:(fE k p c).2.fp=0):KI (fE k p c).1:=by
 unfold fE at he|-;split at he
 .rename_i a;rw[if_pos a];exact h.Y0 hp bK he
 rename_i a;rw[if_neg a];split at he
 .rename_i a;rw[if_pos a];exact h.bytes he
 rename_i a;rw[if_neg a];split at he
 .rename_i a;rw[if_pos a];exact h.acP hp bK he
 rename_i a;rw[if_neg a];split at he
 .rename_i a;rw[if_pos a];exact h
 rename_i a;rw[if_neg a];split at he
 .rename_i a;rw[if_pos a];exact h.name he
 rename_i a;rw[if_neg a];split at he
 .rename_i a;rw[if_pos a];exact h.gX hp bK he
 rename_i a;rw[if_neg a];split at he
 .rename_i a;rw[if_pos a];exact h.iK he
 rename_i a;rw[if_neg a];split at he
 .rename_i a;rw[if_pos a];exact h.gW hp bK he
 rename_i a;rw[if_neg a];exact h.Y1 hp bK he
theorem KI.do_{k:Kr}(h:KI k)(prog:List dv)(c:Cl):KI (gF prog k c).1:=by
 unfold gF;split
 .exact h
 rename_i h1;have h1:fN k.ps c.be=true:=by cases hx:fN k.ps c.be with|true=>rfl|false=>exact absurd hx h1
 obtain⟨p,hc,hp,bK⟩:=pl h1;split
 .exact h
 split
 .exact h
 rw[hc,ZW];unfold Qh;split
 .exact h
 .rename_i he;exact(h.op (vR hp) bK (Yl he)).O8
theorem KI.acR{k:Kr}(h:KI k){p:Nat}(hp:p<k.ps.length)(bK:k.ps[p].aO=true)(c:Cl):O4 k p c:=by
 have hpx:=vR hp;refine⟨h.kw hp,λar ay=>⟨λhe=>?_,λhe=>?_⟩,⟨λhe=>(h.Vt he).1.kr,λhe kK=>?_⟩,h.pr,λhe=>(h.op hpx bK he).kr⟩
 .rcases h.RL ar c.cE ay true he with e|⟨j,y,e,hj,_⟩
  .rw[e];omega
  .have:=(Ki.1 hj).1;rw[e];omega
 .obtain⟨g1,⟨j,y,g2,g3,_⟩,g4⟩:=h.bW (h.RL ar c.cE ay true) he;exact⟨g1.kr,by rw[g4];exact hp,j,g2,(Ki.1 g3).1⟩
 .obtain⟨g1,g2,_⟩:=h.Vt he;have:=g1.mQ (p:=p) hpx bK g2 kK;exact⟨this.kr,by rw[(uE kK).1,K5];exact hp⟩
theorem Pi(prog:List dv)(k:Kr)(h:KI k)(c:Cl)(hd:c.data.length<=4194304){m:Mem}{K:CV->Mem->Prop}(hK:K (Wh (gF prog k c)) m):
  aq Tryz.prog 19 [te prog,eJ k.l k.ops k.ps,c.cv] m K:=
 YR prog k c (λ_ hp _ bK=>h.acR hp bK c) hd hK
end Kn
def c45:LF:= ⟨9,[.tmp 4],(.seq (.ai [qu 4 (.aN (qb false))]) (.seq (.ai [qm 5 0,qm 6 1,qu 7 (qc 83 [5,6]),qu 8 (.aL .geq 7 (qi 0)),qm 4 8]) .ret))⟩
def c46:LF:= ⟨9,[.tmp 3],(.seq (.ai [qu 2 (.box 0),qu 3 (.aN (qb false))]) (.seq (.ai [qf 4 0 2,ql 5 4,qf 6 0 1,ql 7 6,qu 8 (.aL .eql 5 7),qm 3 8]) .ret))⟩
def c47:LF:= ⟨9,[.tmp 4],(.seq (.ai [qu 4 (.aN (qb false))]) (.seq (.ai [qm 5 0,qm 6 1,qu 7 (qc 84 [5,6]),qu 8 (.aL .geq 7 (qi 0)),qm 4 8]) .ret))⟩
def c48:LF:= ⟨21,[.tmp 2],(.seq (.ai [qu 1 (.box 0),qu 2 (.aN (qb false))]) (.seq (.ai [qf 3 0 1,ql 4 3,qu 5 (.aL .lss 4 (qi 1)),qm 6 5,qg 7 (.bY 0 1) 6 false,qg 8 (.load false 1 7) 6 false,qg 9 (.aL .geq 8 (qi 6)) 6 false,qu 10 (.pick 6 (qb true) 9),qm 11 10,qg 12 (.bY 1 1) 11 false,qg 13 (.load false 1 12) 11 false,qg 14 (.aL .lss 13 (qi 1)) 11 false,qu 15 (.pick 11 (qb true) 14),qm 16 15,qg 17 (.bY 1 1) 16 false,qg 18 (.load false 1 17) 16 false,qg 19 (.aL .geq 18 (qi 2147483648)) 16 false,qu 20 (.pick 16 (qb true) 19),qm 2 20]) .ret))⟩
def c83:LF:= ⟨19,[.tmp 4],(.seq (.ai [qu 4 (.aN (qi 0))]) (.seq (.seq (.ai [qm 6 0,qu 7 (.len 1 6),qu 8 (.aN (qi 0))]) (.block 0 (.loop (.seq (.ai [qu 9 (.aL .lss 8 7)]) (.seq (.cond 9 .skip (.exit 0)) (.seq (.block 1 (.seq (.ai [qm 10 8,qm 5 10]) (.seq (.ai [qm 11 1,qm 12 0,qm 13 5,qu 14 (.cw 2 12 13),qL 15 2 14,qu 16 (.call 11 [15])]) (.cond 16 (.seq (.ai [qm 17 5,qm 4 17]) .ret) .skip)))) (.ai [qu 18 (.aL .add 8 (qi 1)),qm 8 18]))))))) (.seq (.ai [qu 4 (.aN (qi (-1)))]) .ret)))⟩
def c84:LF:= ⟨19,[.tmp 4],(.seq (.ai [qu 4 (.aN (qi 0))]) (.seq (.seq (.ai [qm 6 0,qu 7 (.len 1 6),qu 8 (.aN (qi 0))]) (.block 0 (.loop (.seq (.ai [qu 9 (.aL .lss 8 7)]) (.seq (.cond 9 .skip (.exit 0)) (.seq (.block 1 (.seq (.ai [qm 10 8,qm 5 10]) (.seq (.ai [qm 11 1,qm 12 0,qm 13 5,qu 14 (.cw 2 12 13),qL 15 2 14,qu 16 (.call 11 [15])]) (.cond 16 (.seq (.ai [qm 17 5,qm 4 17]) .ret) .skip)))) (.ai [qu 18 (.aL .add 8 (qi 1)),qm 8 18]))))))) (.seq (.ai [qu 4 (.aN (qi (-1)))]) .ret)))⟩
structure lR where
 w:Int
 bits:Int
def lR.enc(m:lR):List Dt:=[.val (.int .i64 m.w),.val (.int .i64 m.bits)]
def lR.cv(m:lR):CV:= .rv (.agg (m.enc.map .ah))
structure cU where
 call:Int
 bo:List lR
def cU.enc(p:cU):List Dt:=[.val (.int .i64 p.call),.sl 2 (p.bo.map lR.enc)]
def cU.cv(p:cU):CV:= .rv (.agg (p.enc.map .ah))
def IN(l:List lR):CV:= .rv (.one (.ah (.sl 2 (l.map lR.enc))))
def eK(l:List cU):CV:= .rv (.one (.ah (.sl 2 (l.map cU.enc))))
def Pj:CV:= .rv (.one (.ptr 0 0))
theorem l45:bz prog f45=some c45:=by kernel_rfl
theorem l46:bz prog Tryz.f46=some c46:=by kernel_rfl
theorem l47:bz prog Tryz.f47=some c47:=by kernel_rfl
theorem l48:bz prog Tryz.f48=some c48:=by kernel_rfl
theorem l83:bz prog f83=some c83:=by kernel_rfl
theorem l84:bz prog f84=some c84:=by kernel_rfl
theorem Ej(l:List cU)(hb:l.length<=4194304)(F:Nat)(cs:List Dt)(q:cU->Bool)(hF:∀s,s∈l->∀K:CV->Mem->Prop,K (aF (q s)) [.var (cs.map .ah)]->aq prog F [s.cv,Pj] [.var (cs.map .ah)] K):body prog c83 [eK l,(.rv (.one (.fn F [0])))] [.var (cs.map .ah)] (λr m=>r=an .i64 (oF q l)/\∃ex,m= .var (cs.map .ah)::ex):=by
 refine ba (λk=>k<=l.length/\∀(j:Nat)s,j<k->l[j]? =some s->q s=false) [0,1,7] (λk=>[(8,an .i64 (k:Nat))]) (λ_=>[.var (cs.map .ah)]) (λk=>l.length-k) 0 ⟨aav _,λj s h=>absurd h (aa9 j)⟩ ?_ (λk hk=>?_)
 .refine View.o1 1 [0] [] ?_
  .exact .put (by simp[bD]) rfl (.ju rfl) (.nil _)
 .refine aP (λh=>?_) (λh=>?_)
  .have aD:k<l.length:=by have h:(k:Int)<((l.map cU.enc).length:Int):=h;rw[N7]at h;omega
   have hg:dA (l.map cU.enc) (k:Nat)=some (l[k].enc):=by rw[bG,Tr,vR aD];rfl
   refine af hg ?_;refine hF l[k] (aay aD) _ ?_;refine aJ (λh=>?_) (λh=>?_)
   .rw[lD aD h hk.2];exact⟨rfl,[],rfl⟩
   .refine⟨k+1,⟨aD,λj s hj hs=>?_⟩,(show l.length-(k+1)<l.length-k by omega),View.o 1 [0] [] ?_ ?_⟩
    .rcases aag j k with h5|h5
     .exact hk.2 j s h5 hs
     .have:j=k:=om;subst this;rw[vR aD]at hs;cases hs;exact h
    .repeat(first|exact .nil|refine .aH ?_|refine .put (.bh (cR om).symm) ?_|refine .eq rfl ?_)
    .exact .put (by simp[bD]) rfl (.ju rfl) (.nil _)
  .have eG:¬(k:Int)<((l.map cU.enc).length:Int):=h;rw[N7]at eG;rw[nq λj s hs=>hk.2 j s (by have:=(Ki.1 hs).1;omega) hs]
   exact⟨rfl,[],rfl⟩
theorem K6(l:List cU)(hb:l.length<=4194304)(F:Nat)(cs:List Dt)(q:cU->Bool)(hF:∀s,s∈l->∀K:CV->Mem->Prop,K (aF (q s)) [.var (cs.map .ah)]->aq prog F [s.cv,Pj] [.var (cs.map .ah)] K){K:CV->Mem->Prop}(h:K (an .i64 (oF q l)) [.var (cs.map .ah)]):aq prog 83 [eK l,(.rv (.one (.fn F [0])))] [.var (cs.map .ah)] K:=
 e7 rfl (bc func83 l83 (Ej l hb F cs q hF)) h
theorem K7(l:List cU)(hb:l.length<=4194304)(F:Nat)(cs:List Dt)(q:cU->Bool)(hF:∀s,s∈l->∀K:CV->Mem->Prop,K (aF (q s)) [.var (cs.map .ah)]->aq prog F [s.cv,Pj] [.var (cs.map .ah)] K)(K:CV->Mem->Prop)(h:K (aF (l.any q)) [.var (cs.map .ah)]):aq prog 45 [eK l,(.rv (.one (.fn F [0])))] [.var (cs.map .ah)] K:=by
 refine e7 rfl (bc func45 l45 (show body prog c45 [eK l,(.rv (.one (.fn F [0])))] [.var (cs.map .ah)] (λr m=>r=aF (l.any q)/\∃ex,m= .var (cs.map .ah)::ex)from ?_)) h
 refine K6 l hb F cs q hF ?_;rw[<-sG];exact⟨rfl,[],rfl⟩
theorem B0(l:List lR)(hb:l.length<=4194304)(F:Nat)(q:lR->Bool)(hF:∀s,s∈l->∀K:CV->Mem->Prop,K (aF (q s)) []->aq prog F [s.cv] [] K):body prog c84 [IN l,(.rv (.one (.fn F [])))] [] (λr m=>r=an .i64 (oF q l)):=by
 refine ba (λk=>k<=l.length/\∀(j:Nat)s,j<k->l[j]? =some s->q s=false) [0,1,7] (λk=>[(8,an .i64 (k:Nat))]) (λ_=>[]) (λk=>l.length-k) 0 ⟨aav _,λj s h=>absurd h (aa9 j)⟩ ?_ (λk hk=>?_)
 .refine View.o1 0 [] [] ?_
  .exact .nil _
 .refine aP (λh=>?_) (λh=>?_)
  .have aD:k<l.length:=by have h:(k:Int)<((l.map lR.enc).length:Int):=h;rw[N7]at h;omega
   have hg:dA (l.map lR.enc) (k:Nat)=some (l[k].enc):=by rw[bG,Tr,vR aD];rfl
   refine af hg ?_;refine hF l[k] (aay aD) _ ?_;refine aJ (λh=>?_) (λh=>?_)
   .rw[lD aD h hk.2];exact rfl
   .refine⟨k+1,⟨aD,λj s hj hs=>?_⟩,(show l.length-(k+1)<l.length-k by omega),View.o 0 [] [] ?_ ?_⟩
    .rcases aag j k with h5|h5
     .exact hk.2 j s h5 hs
     .have:j=k:=om;subst this;rw[vR aD]at hs;cases hs;exact h
    .repeat(first|exact .nil|refine .aH ?_|refine .put (.bh (cR om).symm) ?_|refine .eq rfl ?_)
    .exact .nil _
  .have eG:¬(k:Int)<((l.map lR.enc).length:Int):=h;rw[N7]at eG;rw[nq λj s hs=>hk.2 j s (by have:=(Ki.1 hs).1;omega) hs]
   exact rfl
theorem Hk(l:List lR)(hb:l.length<=4194304)(F:Nat)(q:lR->Bool)(hF:∀s,s∈l->∀K:CV->Mem->Prop,K (aF (q s)) []->aq prog F [s.cv] [] K){m:Mem}{K:CV->Mem->Prop}(h:K (an .i64 (oF q l)) m):aq prog 84 [IN l,(.rv (.one (.fn F [])))] m K:=
 bC func84 l84 rfl (aap rfl) (B0 l hb F q hF) rfl rfl h
theorem K8(l:List lR)(hb:l.length<=4194304)(F:Nat)(q:lR->Bool)(hF:∀s,s∈l->∀K:CV->Mem->Prop,K (aF (q s)) []->aq prog F [s.cv] [] K){m:Mem}{K:CV->Mem->Prop}(h:K (aF (l.any q)) m):aq prog 47 [IN l,(.rv (.one (.fn F [])))] m K:=by
 refine bC func47 l47 rfl (aap rfl) (show body prog c47 [IN l,(.rv (.one (.fn F [])))] [] (λr m=>r=aF (l.any q))from ?_) rfl rfl h
 refine Hk l hb F q hF ?_;rw[<-sG];exact rfl
def uF(m:lR):Bool:=decide (m.w<1)||decide (m.w>=6)||decide (m.bits<1)||decide (m.bits>=2147483648)
theorem Y2(p s:cU)(K:CV->Mem->Prop)(h:K (aF (s.call==p.call)) [.var (p.enc.map .ah)]):aq prog 46 [s.cv,Pj] [.var (p.enc.map .ah)] K:=
 e7 rfl (bc func46 l46 (show body prog c46 [s.cv,Pj] [.var (p.enc.map .ah)] (λr m=>r=aF (s.call==p.call)/\∃ex,m= .var (p.enc.map .ah)::ex)from⟨rfl,_,rfl⟩)) h
theorem Vv(s:lR):body prog c48 [s.cv] [] (λr m=>r=aF (uF s)):=by
 refine aJ (λh=>?_) (λh=>?_)
 .rw[uF,h];exact rfl
 refine aJ (λh2=>?_) (λh2=>?_)
 .rw[uF,h,h2];exact rfl
 refine aJ (λh3=>?_) (λh3=>?_)
 .rw[uF,h,h2,h3];exact rfl
 .rw[uF,h,h2,h3];exact rfl
theorem Y3(s:lR)(K:CV->Mem->Prop)(h:K (aF (uF s)) []):aq prog 48 [s.cv] [] K:=
 bC func48 l48 rfl (aap rfl) (Vv s) rfl rfl h
def RU(r:qF)(m:lR):Bool:=OW (r.get m.w.toNat) m.bits !=0
def c22:LF:= ⟨46,[.cell true 2 2],(.seq (.ai [qu 2 (.alloc [qd 0,qd 0])]) (.seq (.seq (.ai [qm 5 0,qu 6 (.len 1 5),qu 7 (.aL .gtr 6 (qi 30))]) (.cond 7 (.seq (.ai [qu 8 (.build [qd 0,qd 0] [(0,1,qi 5)]),qw (.store 2 2 8)]) .ret) .skip)) (.seq (.seq (.ai [qm 9 0,qu 10 (.len 1 9),qu 11 (.aN (qi 0))]) (.block 0 (.loop (.seq (.ai [qu 12 (.aL .lss 11 10)]) (.seq (.cond 12 .skip (.exit 0)) (.seq (.block 1 (.seq (.ai [qm 13 11,qu 14 (.cw 2 9 11),qL 15 2 14,qu 4 (.alloc [qd 0,.aM]),qm 3 13,qw (.store 2 4 15)]) (.seq (.seq (.ai [qf 16 0 4,ql 17 16,qu 18 (.aL .lss 17 (qi 0)),qm 19 18,qg 20 (.bY 0 4) 19 false,qg 21 (.load false 1 20) 19 false,qg 22 (.aL .geq 21 (qi 2147483648)) 19 false,qu 23 (.pick 19 (qb true) 22)]) (.cond 23 (.seq (.ai [qm 24 3,qu 25 (.build [qd 0,qd 0] [(0,1,qi 3),(1,1,24)]),qw (.store 2 2 25)]) .ret) .skip)) (.seq (.seq (.ai [qm 26 0,qm 27 3,qu 28 (.oI 2 26 none (some 27) none),qu 29 (.fn 46 [4]),qu 30 (qc 45 [28,29])]) (.cond 30 (.seq (.ai [qm 31 3,qu 32 (.build [qd 0,qd 0] [(0,1,qi 7),(1,1,31)]),qw (.store 2 2 32)]) .ret) .skip)) (.seq (.seq (.ai [qf 33 1 4,ql 34 33,qu 35 (.len 1 34),qu 36 (.aL .gtr 35 (qi 3))]) (.cond 36 (.seq (.ai [qm 37 3,qu 38 (.build [qd 0,qd 0] [(0,1,qi 5),(1,1,37)]),qw (.store 2 2 38)]) .ret) .skip)) (.seq (.ai [qf 39 1 4,ql 40 39,qu 41 (qc 47 [40,(.c (.rv (.one (.fn 48 []))))])]) (.cond 41 (.seq (.ai [qm 42 3,qu 43 (.build [qd 0,qd 0] [(0,1,qi 3),(1,1,42)]),qw (.store 2 2 43)]) .ret) .skip))))))) (.ai [qu 44 (.aL .add 11 (qi 1)),qm 11 44]))))))) (.seq (.ai [qu 45 (.build [qd 0,qd 0] []),qw (.store 2 2 45)]) .ret))))⟩
def lS(pre:List cU)(p:cU):Int:=
 if p.call<0\/p.call>=2147483648 then 3 else if pre.any (λq=>q.call==p.call)=true then 7 else if p.bo.length>3 then 5 else if p.bo.any uF=true then 3 else 0
def jh(l:List cU)(k:Nat):Int:=match l[k]? with|some p=>lS (l.take k) p|none=>0
def uG(f:Nat->Int):Nat->Nat->Int×Int
 |0,_=>(0,0)
 |n+1,k=>if f k=0 then uG f n (k+1)else(f k,(k:Int))
theorem Ar{f:Nat->Int}:∀(n k:Nat),(∀j,k<=j->j<k+n->f j=0)->uG f n k=(0,0)
 |0,_,_=>rfl
 |n+1,k,h=>by rw[uG,if_pos (h k (Yj k) om)];exact Ar n (k+1) λj h1 h2=>h j om om
theorem rC{f:Nat->Int}:∀(n k j:Nat),k<=j->j<k+n->(∀i,k<=i->i<j->f i=0)->f j≠0->uG f n k=(f j,(j:Int))
 |0,_,_,_,_,_,_=>om
 |n+1,k,j,h1,h2,h3,h4=>by
  rw[uG];rcases aag k j with h|h
  .rw[if_pos (h3 k (Yj k) h)];exact rC n (k+1) j om om (λi a b=>h3 i om b) h4
  .have:k=j:=om;subst this;rw[if_neg h4]
def cm(l:List cU):Int×Int:=if l.length>30 then(5,0)else uG (jh l) l.length 0
theorem K9{l:List cU}{k:Nat}(h0:¬l.length>30)(hk:k<l.length)(hg:∀j,j<k->jh l j=0){e:Int}(h:lS (l.take k) l[k]=e)(he:e≠0):BW (e,(k:Int))=BW (cm l):=by
 have hw:jh l k=e:=by rw[jh,vR hk];exact h
 rw[cm,if_neg h0,rC l.length 0 k om om (λi _ hi=>hg i hi) (by rw[hw];exact he),hw]
theorem Hl{l:List cU}{k:Nat}(hk:k<l.length)(hg:∀j,j<k->jh l j=0)(h:lS (l.take k) l[k]=0):∀j,j<k+1->jh l j=0:=by
 intro j hj;rcases aag j k with h1|h1
 .exact hg j h1
 .have:j=k:=om;subst this;rw[jh,vR hk];exact h
theorem l22:bz prog Tryz.f22=some c22:=by kernel_rfl
theorem Hm(l:List cU):body prog c22 [eK l] [] (λr m=>r=BW (cm l)):=by
 refine aP (λh=>?_) (λh0=>?_)
 .have h:l.length>30:=by have h:(((l.map cU.enc).length:Nat):Int)>30:=h;rw[N7]at h;omega
  rw[cm,if_pos h];exact rfl
 have h0:¬l.length>30:=by have h:¬(((l.map cU.enc).length:Nat):Int)>30:=h0;rw[N7]at h;omega
 refine ba (λk=>k<=l.length/\∀(j:Nat),j<k->jh l j=0) [0,2,9,10] (λk=>[(11,an .i64 (k:Nat))]) (λ_=>[.var [.ah (.val (.int .i64 0)),.ah (.val (.int .i64 0))]]) (λk=>l.length-k) 0 ⟨aav _,λj h=>absurd h (aa9 j)⟩ ?_ (λk hk=>?_)
 .refine View.o1 1 [0] [] ?_
  .exact .put (by simp[bD]) rfl (.eq rfl aC) (.nil _)
 .refine aP (λh=>?_) (λh=>?_)
  .have aD:k<l.length:=by have h:(k:Int)<((l.map cU.enc).length:Int):=h;rw[N7]at h;omega
   have bad:∀{e:Int},lS (l.take k) l[k]=e->e≠0->BW (e,(k:Int))=BW (cm l):=λa b=>K9 h0 aD hk.2 a b
   have Y4:=Hl aD hk.2;have hg:dA (l.map cU.enc) (k:Nat)=some [.val (.int .i64 l[k].call),.sl 2 (l[k].bo.map lR.enc)]:=by rw[bG,Tr,vR aD];rfl
   generalize l[k]=p at bad Y4 hg;obtain⟨call,bo⟩:=p;refine af hg ?_;refine aP (λh=>?_) (λh1=>?_)
   .exact bad (by rw[lS,if_pos (.inl h)]) (by decide)
   refine aP (λh=>?_) (λh2=>?_)
   .exact bad (by rw[lS,if_pos (.inr h)]) (by decide)
   have n1:¬((⟨call,bo⟩:cU).call<0\/(⟨call,bo⟩:cU).call>=2147483648):=λh=>h.elim h1 h2
   have va:∀{m:Mem}{K:CV->Mem->Prop},cF m 1=some (.var ((⟨call,bo⟩:cU).enc.map .ah))->K (aF ((l.take k).any λq=>q.call==(⟨call,bo⟩:cU).call)) m->aq prog 45 [.rv (.one (.ah (.sl 2 (((l.map cU.enc).take k).drop 0)))),.rv (.one (.fn 46 [1]))] m K:=by
    intro m K hm hK;have e:((l.map cU.enc).take k).drop 0=(l.take k).map cU.enc:=aC;rw[e];exact fC 1 hm rfl rfl (K7 (l.take k) (by simp;omega) 46 (⟨call,bo⟩:cU).enc (λq=>q.call==(⟨call,bo⟩:cU).call) λs _ K hs=>Y2 _ s K hs) hK
   refine cM (by simp[abe];omega) ?_
   refine va rfl ?_;refine aJ (λh=>?_) (λh3=>?_)
   .exact bad (by rw[lS,if_neg n1,if_pos h]) (by decide)
   have n2:¬((l.take k).any λq=>q.call==(⟨call,bo⟩:cU).call)=true:=by rw[h3];simp
   refine aP (λh=>?_) (λh4=>?_)
   .have h:(⟨call,bo⟩:cU).bo.length>3:=by have h:(((bo.map lR.enc).length:Nat):Int)>3:=h;rw[N7]at h;show bo.length>3;omega
    exact bad (by rw[lS,if_neg n1,if_neg n2,if_pos h]) (by decide)
   have n3:¬(⟨call,bo⟩:cU).bo.length>3:=by have h:¬(((bo.map lR.enc).length:Nat):Int)>3:=h4;rw[N7]at h;show ¬bo.length>3;omega
   refine K8 bo (by have:¬bo.length>3:=n3;omega) 48 uF (λs _ K hs=>Y3 s K hs) ?_
   refine aJ (λh=>?_) (λh5=>?_)
   .exact bad (by rw[lS,if_neg n1,if_neg n2,if_neg n3,if_pos h]) (by decide)
   have n4:¬(⟨call,bo⟩:cU).bo.any uF=true:=by show ¬bo.any uF=true;rw[h5];simp
   refine⟨k+1,⟨aD,Y4 (by rw[lS,if_neg n1,if_neg n2,if_neg n3,if_neg n4])⟩,(show l.length-(k+1)<l.length-k by omega),View.o2 2 [0] [] ?_⟩
   .exact .put (by simp[bD]) rfl (.eq rfl aC) (.nil _)
  .have eG:¬(k:Int)<((l.map cU.enc).length:Int):=h;rw[N7]at eG;rw[cm,if_neg h0,Ar l.length 0 λj _ hj=>hk.2 j om]
   exact rfl
theorem Pk(l:List cU){m:Mem}{K:CV->Mem->Prop}(h:K (BW (cm l)) m):aq prog 22 [eK l] m K:=
 bC func22 l22 rfl (aap rfl) (Hm l) rfl rfl h
def rD(l:List cU)(r:qF):Bool:=match l.find? (λp=>p.call==r.r0)with|some p=>!p.bo.any (RU r)|none=>false
def mD:List lR->List dv
 | []=>[⟨6,0,0,1⟩,⟨6,0,0,0⟩]
 |m::r=>⟨1,0,0,m.w⟩:: ⟨4,((2*r.length+1:Nat):Int),0,m.bits⟩::mD r
def eh(p:cU):List dv:=⟨2,0,((2*p.bo.length+1:Nat):Int),p.call⟩::mD p.bo
def ze(l:List cU):Int:=match l[l.length/2]? with|some p=>p.call|none=>0
def di:Nat->List cU->List dv
 |0,_=>[⟨6,0,0,0⟩]
 |_+1,[]=>[⟨6,0,0,0⟩]
 |_+1,[p]=>eh p
 |n+1,p::q::r=>⟨3,0,1,ze (p::q::r)⟩:: ⟨5,0,0,(di n ((p::q::r).take ((p::q::r).length/2))).length⟩::
   (di n ((p::q::r).take ((p::q::r).length/2))++di n ((p::q::r).drop ((p::q::r).length/2)))
theorem nB{n:Nat}{l:List cU}(h:2<=l.length):di (n+1) l=⟨3,0,1,ze l⟩:: ⟨5,0,0,(di n (l.take (l.length/2))).length⟩::(di n (l.take (l.length/2))++di n (l.drop (l.length/2))):=by
 match l,h with
 |p::q::r,_=>rfl
theorem La(n:Nat)(p:cU):di (n+1) [p]=eh p:=rfl
theorem iL:∀ms:List lR,(mD ms).length=2*ms.length+2
 | []=>rfl
 |m::r=>by simp[mD,iL r];omega
theorem lT:∀ms:List lR,(mD ms)[2*ms.length+1]? =some ⟨6,0,0,0⟩
 | []=>rfl
 |m::r=>by
  have:=lT r;rw[aar,show 2*(r.length+1)+1=2*r.length+1+1+1 by omega]
  simpa[mD]using this
def At(P:List dv)(a:Nat)(c:List dv):Prop:=∀(j:Nat)i,c[j]? =some i->P[a+j]? =some i
theorem At.head{P:List dv}{a:Nat}{x:dv}{c:List dv}(h:At P a (x::c)):P[a]? =some x:=h 0 x rfl
theorem At.tail{P:List dv}{a:Nat}{x:dv}{c:List dv}(h:At P a (x::c)):At P (a+1) c:=λj i hi=>by
 have:=h (j+1) i (by simpa using hi)
 rwa [show a+(j+1)=a+1+j by omega]at this
theorem At.left{P:List dv}{a:Nat}{c d:List dv}(h:At P a (c++d)):At P a c:=λj i hi=>h j i (by rw[aad (Ki.1 hi).1];exact hi)
theorem At.right{P:List dv}{a:Nat}{c d:List dv}(h:At P a (c++d)):At P (a+c.length) d:=λj i hi=>by
 have:=h (c.length+j) i (by rw[Y5 om];simpa using hi)
 rwa [show a+(c.length+j)=a+c.length+j by omega]at this
theorem As{P:List dv}{r:qF}:∀(ms:List lR)(a:Nat)(de:Int),At P a (mD ms)->(gS P r a de).1=if ms.any (RU r)then 0 else 1
 | [],a,de,h=>by rw[lm h.head rfl];rfl
 |m::q,a,de,h=>by
  have h2:=h.tail;rw[fy h.head aC (d:=1) (acc2:=r.get m.w.toNat) rfl];have hn:=O0 (2*q.length+1) 0 m.bits (r.get m.w.toNat) r;by_cases hh:OW (r.get m.w.toNat) m.bits=0
  .rw[fy h2.head aC (hn.2 hh)];have hm:RU r m=false:=by simp[RU,hh]
   have ih:=As (P:=P) (r:=r) q (a+1+1) (r.get m.w.toNat) h2.tail;simp only[List.any_cons,hm,ac0];exact ih
  .rw[fy h2.head aC (hn.1 hh)];have hm:RU r m=true:=by simp[RU,hh]
   have h3:=h2.tail _ _ (lT q);rw[show a+1+(1+(2*q.length+1))=a+1+1+(2*q.length+1) by omega,lm h3 rfl]
   simp[hm]
theorem Pl{P:List dv}{r:qF}{p:cU}{a:Nat}{de:Int}(h:At P a (eh p)):(gS P r a de).1=if(p.call==de&& !p.bo.any (RU r))then 1 else 0:=by
 have hn:=OY 0 (2*p.bo.length+1) p.call de r;by_cases hc:de=p.call
 .rw[fy h.head aC (hn.1 hc)];have:=As (r:=r) p.bo (a+1) de h.tail;show(gS P r (a+1) de).1=_;rw[this];subst hc;cases p.bo.any (RU r)<;>simp
 .rw[fy h.head aC (hn.2 hc)];have h3:=h.tail _ _ (lT p.bo);rw[show a+(1+(2*p.bo.length+1))=a+1+(2*p.bo.length+1) by omega,lm h3 rfl]
  have:(p.call==de)=false:=by rw[beq_eq_false_iff_ne];exact λe=>hc e.symm
  simp[this]
def nC(l:List cU)(r:qF)(de:Int):Bool:=l.any λp=>p.call==de&& !p.bo.any (RU r)
def gy(l:List cU):Prop:=l.Pairwise λa b=>a.call<b.call
theorem gy.lo{l:List cU}(h:gy l){k:Nat}{q:cU}(hk:l[k]? =some q):∀p,p∈l.take k->p.call<q.call:=by
 intro p hp;obtain⟨i,hi⟩:=aab hp;rw[aaS]at hi;split at hi
 .rename_i Yk;obtain⟨h1,rfl⟩:=Ki.1 hi;obtain⟨h2,rfl⟩:=Ki.1 hk;exact abW.1 h i k h1 h2 Yk
 .cases hi
theorem gy.hi{l:List cU}(h:gy l){k:Nat}{q:cU}(hk:l[k]? =some q):∀p,p∈l.drop k->q.call<=p.call:=by
 intro p hp;obtain⟨i,hi⟩:=aab hp;rw[abi]at hi;obtain⟨h1,rfl⟩:=Ki.1 hi;obtain⟨h2,rfl⟩:=Ki.1 hk;cases i with
 |zero=>exact adq _
 |succ i=>exact Int.le_of_lt (abW.1 h k (k+(i+1)) h2 h1 om)
theorem uH{l:List cU}{r:qF}{de:Int}(h:∀p,p∈l->p.call≠de):nC l r de=false:=by rw[nC,List.any_eq_false];intro p hp;simp[h p hp]
theorem Ek(l:List cU)(k:Nat)(r:qF)(de:Int):nC l r de=(nC (l.take k) r de||nC (l.drop k) r de):=by rw[nC,nC,nC,<-List.any_append,adk]
theorem yl{P:List dv}{r:qF}:∀(n:Nat)(l:List cU)(a:Nat)(de:Int),l.length<=n->gy l->At P a (di n l)->(gS P r a de).1=if nC l r de then 1 else 0
 |0,l,a,de,hl,_,h=>by have:l=[]:=aaq om;subst this;rw[lm (At.head (x:=⟨6,0,0,0⟩) (c:=[]) h) rfl];rfl
 |n+1,l,a,de,hl,hs,h=>by
  rcases aag l.length 2 with h2|h2
  .match l,h2 with
   | [],_=>rw[lm (At.head (x:=⟨6,0,0,0⟩) (c:=[]) h) rfl];rfl
   | [p],_=>
    rw[Pl (p:=p) h];simp[nC]
  .rw[nB h2]at h;have hk:l.length/2<l.length:=om;have hm:l[l.length/2]? =some l[l.length/2]:=vR hk;have sK:ze l=(l[l.length/2]).call:=by rw[ze,hm]
   have ir:=hs.lo hm;have yG:=hs.hi hm;rw[<-sK]at ir yG;have hn:=OZ 0 1 (ze l) de r;by_cases hc:de>=ze l
   .rw[fy h.head aC (hn.1 hc)];show(gS P r (a+1) de).1=_;rw[fy h.tail.head aC (d:=1+(di n (l.take (l.length/2))).length) (acc2:=de) (by simp[tu])]
    have ih:=yl (P:=P) (r:=r) n (l.drop (l.length/2)) (a+1+1+(di n (l.take (l.length/2))).length) de (by rw[abu];omega) (hs.sublist (List.drop_sublist _ _)) h.tail.tail.right
    rw[<-abh (a+1)];show(gS P r (a+1+1+(di n (l.take (l.length/2))).length) de).1=_;rw[ih,Ek l (l.length/2),uH (l:=l.take (l.length/2)) (λp hp=>by have:=ir p hp;omega),ac0]
   .rw[fy h.head aC (hn.2 hc)];have ih:=yl (P:=P) (r:=r) n (l.take (l.length/2)) (a+1+1) de (by rw[aaE];omega) (hs.sublist (List.take_sublist _ _)) h.tail.tail.left
    show(gS P r (a+1+1) de).1=_;rw[ih,Ek l (l.length/2),uH (l:=l.drop (l.length/2)) (λp hp=>by have:=yG p hp;omega),Bool.or_false]
def ym(c:List dv)(a:Nat)(s:Int):Prop:=∀(j:Nat)i,c[j]? =some i->iT i ((a+j:Nat):Int) s=0
theorem ym.cons{x:dv}{c:List dv}{a:Nat}{s:Int}(hx:iT x (a:Int) s=0)(h:ym c (a+1) s):ym (x::c) a s:=λj i hi=>by
 cases j with
 |zero=>simp at hi;subst hi;exact hx
 |succ j=>
  have:=h j i (by simpa using hi)
  rwa [show a+1+j=a+(j+1) by omega]at this
theorem ym.append{c d:List dv}{a:Nat}{s:Int}(h1:ym c a s)(h2:ym d (a+c.length) s):ym (c++d) a s:=λj i hi=>by
 rcases aag j c.length with h|h
 .rw[aad h]at hi;exact h1 j i hi
 .rw[Y5 h]at hi;have:=h2 (j-c.length) i hi;rwa [show a+c.length+(j-c.length)=a+j by omega]at this
def TI(m:lR):Prop:=1<=m.w/\m.w<6/\1<=m.bits/\m.bits<2147483648
def Au(p:cU):Prop:=0<=p.call/\p.call<2147483648/\p.bo.length<=3/\∀m,m∈p.bo->TI m
theorem El:∀(ms:List lR)(a s:Nat),ms.length<=3->(∀m,m∈ms->TI m)->a+(mD ms).length<=s->ym (mD ms) a s
 | [],a,s,_,_,h=>.cons (by rw[yg];simp) (.cons (by rw[yg];simp) λj i hi=>by simp at hi)
 |m::r,a,s,h1,h2,h=>by
  obtain⟨g1,g2,g3,g4⟩:=h2 m aC;rw[iL,aar]at h;rw[aar]at h1;refine .cons ?_ (.cons ?_ (El r (a+1+1) s om (λx hx=>h2 x (by simp[hx])) (by rw[iL];omega)))
  .rw[Hb,if_neg om];simp
  .rw[uz _ _ _ _ _ _ om,if_neg om]
theorem Pm{p:cU}(hp:Au p){a s:Nat}(h:a+(eh p).length<=s):ym (eh p) a s:=by
 obtain⟨g1,g2,g3,g4⟩:=hp;have hl:(eh p).length=2*p.bo.length+3:=by simp[eh,iL]
 rw[hl]at h;refine .cons ?_ (El p.bo (a+1) s g3 g4 (by rw[iL];omega))
 rw[uz _ _ _ _ _ _ om,if_neg om]
theorem uI:∀(n:Nat)(l:List cU),1<=(di n l).length/\∃i,(di n l)[(di n l).length-1]? =some i/\i.op=6
 |0,l=>⟨by simp[di],_,rfl,rfl⟩
 |n+1,l=>by
  rcases aag l.length 2 with h2|h2
  .match l,h2 with
   | [],_=>exact⟨by simp[di],_,rfl,rfl⟩
   | [p],_=>
    refine⟨by simp[di,eh],⟨6,0,0,0⟩,?_,rfl⟩
    have:=lT p.bo;rw[La,eh,aar,iL,show 2*p.bo.length+2+1-1=2*p.bo.length+1+1 by omega,abv]
    exact this
  .rw[nB h2];obtain⟨h1,i,h3,h4⟩:=uI n (l.drop (l.length/2));refine⟨aC,i,?_,h4⟩;simp only[aar,aa5];rw[show(di n (l.take (l.length/2))).length+(di n (l.drop (l.length/2))).length+1+1-1=(di n (l.take (l.length/2))).length+((di n (l.drop (l.length/2))).length-1)+1+1 by omega,
    abv,abv,Y5 om]
   rw[<-h3];congr 1;omega
theorem pZ:∀(n:Nat)(l:List cU),(∀p,p∈l->p.bo.length<=3)->l.length<=n->(l=[]->(di n l).length=1)/\(l≠[]->(di n l).length+2<=11*l.length)
 |0,l,_,hl=>by have:l=[]:=aaq om;subst this;simp[di]
 |n+1,l,h,hl=>by
  rcases aag l.length 2 with h2|h2
  .match l,h2 with
   | [],_=>simp[di]
   | [p],_=>
    have:=h p aC;simp[di,eh,iL];omega
  .refine⟨λe=>by subst e;simp at h2,λ_=>?_⟩
   have i1:=(pZ n (l.take (l.length/2)) (λp hp=>h p (abq hp)) (by rw[aaE];omega)).2 (λe=>by have:=congrArg List.length e;rw[aaE,abm]at this;omega)
   have i2:=(pZ n (l.drop (l.length/2)) (λp hp=>h p (acI hp)) (by rw[abu];omega)).2 (λe=>by have:=congrArg List.length e;rw[abu,abm]at this;omega)
   rw[nB h2];simp only[aar,aa5];rw[aaE]at i1;rw[abu]at i2;omega
theorem yn:∀(n:Nat)(l:List cU)(a s:Nat),(∀p,p∈l->Au p)->l.length<=n->a+(di n l).length<=s->ym (di n l) a s
 |0,l,a,s,_,_,_=>.cons (by rw[yg];simp) λj i hi=>by simp at hi
 |n+1,l,a,s,hg,hl,h=>by
  rcases aag l.length 2 with h2|h2
  .match l,h2 with
   | [],_=>exact .cons (by rw[yg];simp) λj i hi=>by simp at hi
   | [p],_=>exact Pm (hg p aC) h
  .rw[nB h2]at h|-;have hk:l.length/2<l.length:=om;have hm:l[l.length/2]? =some l[l.length/2]:=vR hk;have sK:ze l=(l[l.length/2]).call:=by rw[ze,hm]
   have WV:=hg _ (aay hk);have hp:=(uI n (l.drop (l.length/2))).1;simp only[aar,aa5]at h;refine .cons ?_ (.cons ?_ (.append (yn n _ _ s (λp hp=>hg p (abq hp)) (by rw[aaE];omega) om) (yn n _ _ s (λp hp=>hg p (acI hp)) (by rw[abu];omega) om)))
   .rw[uz _ _ _ _ _ _ om,sK,if_neg (by have:=WV.1;have:=WV.2.1;omega)]
   .rw[OV _ _ _ _ _ om,if_neg om];simp
def cZ(l:List cU):List dv:=⟨1,0,0,0⟩::di l.length l
theorem Hn{l:List cU}(hg:∀p,p∈l->Au p)(hl:l.length<=30):kG (cZ l)=(0,0):=by
 have h1:=uI l.length l;have h2:=pZ l.length l (λp hp=>(hg p hp).2.2.1) (Yj _)
 have hlen:(cZ l).length=(di l.length l).length+1:=by simp[cZ]
 have h3:(di l.length l).length<=330:=by
  by_cases e:l=[]
  .have:=h2.1 e;omega
  .have:=h2.2 e;omega
 have fA:ym (cZ l) 0 ((cZ l).length:Nat):=by refine .cons ?_ (yn l.length l 1 (cZ l).length hg (Yj _) om);rw[Hb];simp
 obtain⟨h4,i,h5,h6⟩:=h1;have hc:=BX (cZ l).length (cZ l) 0 fA;have mB:(cZ l)[(cZ l).length-1]? =some i:=by
  rw[hlen,show(di l.length l).length+1-1=(di l.length l).length-1+1 by omega]
  exact h5
 rw[kG,if_neg om,hc,if_neg aC,mB];simp only;rw[if_pos h6]
theorem Pn{l:List cU}(r:qF)(hg:∀p,p∈l->Au p)(hl:l.length<=30)(hs:gy l):(uA (cZ l) r).1=if nC l r r.r0 then 1 else 0:=by
 rw[uA,Hn hg hl,if_pos rfl];have hA:At (cZ l) 0 (cZ l):=λj i hi=>by simpa using hi
 rw[fy hA.head (by decide) (d:=1) (acc2:=r.r0) rfl]
 have:=yl (P:=cZ l) (r:=r) l.length l 1 r.r0 (Yj _) hs hA.tail;exact this
theorem Lb{l l':List cU}(h:l'.Perm l)(r:qF)(de:Int):nC l' r de=nC l r de:=by
 rw[adM,nC,nC,abc,abc];constructor
 .rintro⟨p,hp,h2⟩;exact⟨p,h.mem_iff.1 hp,h2⟩
 .rintro⟨p,hp,h2⟩;exact⟨p,h.mem_iff.2 hp,h2⟩
def nD(l:List cU):Prop:=l.Pairwise λa b=>a.call≠b.call
theorem Lc{l:List cU}(h:nD l)(r:qF):rD l r=nC l r r.r0:=by
 induction l with
 |nil=>rfl
 |cons p q ih=>
  obtain⟨h1,h2⟩:=acX.1 h;have ih:=ih h2;rw[nC,List.any_cons];by_cases hc:p.call=r.r0
  .have hb:(p.call==r.r0)=true:=by simp[hc]
   have hq:nC q r r.r0=false:=uH λx hx e=>h1 x hx (hc.trans e.symm)
   rw[nC]at hq;rw[hq,rD,List.find?_cons,hb];simp
  .have hb:(p.call==r.r0)=false:=by simpa using hc
   have e:rD (p::q) r=rD q r:=by rw[rD,rD,List.find?_cons,hb]
   rw[e,ih,hb,nC];simp
theorem zf{l l':List cU}(h:l'.Perm l)(hd:nD l):nD l':=(h.pairwise_iff (λh=>Ne.symm h)).2 hd
theorem vB{l:List cU}(h:(cm l).1=0):l.length<=30/\(∀p,p∈l->Au p)/\nD l:=by
 unfold cm at h;split at h
 .simp at h
 .rename_i h0;have f4:∀j,j<l.length->jh l j=0:=by
   intro j
   induction j using Nat.strongRecOn with
   |_ j ih=>
    intro hj;by_cases hw:jh l j=0
    .exact hw
    .rw[rC l.length 0 j om om (λi _ hi=>ih i hi om) hw]at h
     exact absurd h hw
  have fact:∀(j:Nat)p,l[j]? =some p->Au p/\∀q,q∈l.take j->q.call≠p.call:=by
   intro j p hj;have hw:=f4 j (Ki.1 hj).1;rw[jh,hj]at hw;simp only[lS]at hw;split at hw
   .simp at hw
   .rename_i c1;split at hw
    .simp at hw
    .rename_i c2;split at hw
     .simp at hw
     .rename_i c3;split at hw
      .simp at hw
      .rename_i c4;refine⟨⟨om,om,om,λm hm=>?_⟩,λq hq e=>?_⟩
       .have c4:p.bo.any uF=false:=by simpa using c4
        rw[List.any_eq_false]at c4;have hb:uF m=false:=by simpa using c4 m hm
        simp only[uF,Bool.or_eq_false_iff,decide_eq_false_iff_not]at hb;refine⟨om,om,om,om⟩
       .refine c2 (abc.2 ⟨q,hq,by simp[e]⟩)
  refine⟨om,λp hp=>?_,?_⟩
  .obtain⟨j,hj⟩:=aab hp;exact(fact j p hj).1
  .rw[nD,abW];intro i j hi hj p5;refine(fact j l[j] (vR hj)).2 l[i] ?_;exact Tu (i:=i) (by rw[aaS,if_pos p5,vR hi])
theorem Ld{l:List cU}(h:l.Pairwise λa b=>¬b.call<a.call)(hd:nD l):gy l:=by have:=List.Pairwise.and h hd;exact this.imp λ⟨a,b⟩=>om
def c27:LF:= ⟨45,[.tmp 2],(.seq (.ai [qu 2 (.aN qe)]) (.seq (.seq (.ai [qm 7 0,qu 8 (.len 1 7)]) (.block 0 (.seq (.ai [qu 10 (.aL .eql 8 (qi 0)),qm 9 10]) (.cond 9 (.seq (.ai [qu 11 (.build [qd 0,qd 0,qd 0,qd 0] [(0,1,qi 6),(3,1,qi 0)]),qu 12 (.nI 4 [qd 0,qd 0,qd 0,qd 0] 1 [(0,11)]),qm 2 12]) .ret) (.seq (.ai [qu 14 (.aL .eql 8 (qi 1)),qm 13 14]) (.cond 13 (.seq (.ai [qm 15 0,qu 16 (.cw 2 15 (qi 0)),qL 17 2 16,qu 18 (qc 52 [17]),qm 2 18]) .ret) .skip)))))) (.seq (.ai [qm 19 0,qu 20 (.len 1 19),qu 21 (.aL .quo 20 (qi 2)),qm 3 21]) (.cX (.seq (.bV [qm 22 0,qm 23 3,qu 24 (.oI 2 22 none (some 23) none),qu 25 (qc 27 [24]),qm 26 0,qm 27 3,qu 28 (.oI 2 26 (some 27) none none),qu 29 (qc 27 [28]),qm 4 25,qm 5 29] [(eE 3 0 (eE 3 4 (.cons 3 (some [6]) (.cons 7 (some []) (.cons 8 none (.cons 9 none .nil))))))]) (.seq (.ai [qm 30 0,qm 31 3,qu 32 (.cw 2 30 31),qf 33 0 32,ql 34 33,qu 35 (.build [qd 0,qd 0,qd 0,qd 0] [(0,1,qi 3),(1,1,qi 0),(2,1,qi 1),(3,1,34)]),qm 36 4,qu 37 (.len 1 36),qu 38 (.build [qd 0,qd 0,qd 0,qd 0] [(0,1,qi 5),(3,1,37)]),qu 39 (.nI 4 [qd 0,qd 0,qd 0,qd 0] 2 [(0,35),(1,38)]),qm 6 39]) (.seq (.ai [qm 40 6,qm 41 4,qu 42 (.oL 4 32 40 41),qm 43 5,qu 44 (.oL 4 32 42 43),qm 2 44]) .ret)))))))⟩
def c52:LF:= ⟨50,[.tmp 2],(.seq (.ai [qu 1 (.box 0),qu 2 (.aN qe)]) (.seq (.ai [qf 8 1 1,ql 9 8,qu 10 (.len 1 9),qu 11 (.aL .mul (qi 2) 10),qu 12 (.aL .add 11 (qi 1)),qm 3 12]) (.seq (.ai [qm 13 3,qf 14 0 1,ql 15 14,qu 16 (.build [qd 0,qd 0,qd 0,qd 0] [(0,1,qi 2),(1,1,qi 0),(2,1,13),(3,1,15)]),qu 17 (.nI 4 [qd 0,qd 0,qd 0,qd 0] 1 [(0,16)]),qm 4 17]) (.seq (.seq (.ai [qf 18 1 1,ql 19 18,qu 20 (.len 1 19),qu 21 (.aN (qi 0))]) (.block 0 (.loop (.seq (.ai [qu 22 (.aL .lss 21 20)]) (.seq (.cond 22 .skip (.exit 0)) (.seq (.block 1 (.seq (.ai [qm 23 21,qu 24 (.cw 2 19 21),qL 25 2 24,qu 6 (.alloc [qd 0,qd 0]),qm 5 23,qw (.store 2 6 25)]) (.seq (.ai [qf 26 1 1,ql 27 26,qu 28 (.len 1 27),qm 29 5,qu 30 (.aL .sub 28 29),qu 31 (.aL .sub 30 (qi 1)),qu 32 (.aL .mul (qi 2) 31),qu 33 (.aL .add 32 (qi 1)),qm 7 33]) (.ai [qm 34 4,qf 35 0 6,ql 36 35,qu 37 (.build [qd 0,qd 0,qd 0,qd 0] [(0,1,qi 1),(3,1,36)]),qm 38 7,qf 39 1 6,ql 40 39,qu 41 (.build [qd 0,qd 0,qd 0,qd 0] [(0,1,qi 4),(1,1,38),(2,1,qi 0),(3,1,40)]),qu 42 (.nI 4 [qd 0,qd 0,qd 0,qd 0] 2 [(0,37),(1,41)]),qu 43 (.oL 4 32 34 42),qm 4 43])))) (.ai [qu 44 (.aL .add 21 (qi 1)),qm 21 44]))))))) (.seq (.ai [qm 45 4,qu 46 (.build [qd 0,qd 0,qd 0,qd 0] [(0,1,qi 6),(3,1,qi 1)]),qu 47 (.build [qd 0,qd 0,qd 0,qd 0] [(0,1,qi 6),(3,1,qi 0)]),qu 48 (.nI 4 [qd 0,qd 0,qd 0,qd 0] 2 [(0,46),(1,47)]),qu 49 (.oL 4 32 45 48),qm 2 49]) .ret)))))⟩
theorem qG(a b:List (List Dt)):aa (a++b)=aa a++aa b:=by simp[aa]
theorem l52:bz prog f52=some c52:=by kernel_rfl
theorem l27:bz prog Tryz.f27=some c27.er:=by kernel_rfl
theorem Em:∀(ms:List lR)(k:Nat)(m:lR),ms[k]? =some m->(mD ms)[2*k]? =some ⟨1,0,0,m.w⟩/\(mD ms)[2*k+1]? =some ⟨4,((2*(ms.length-k-1)+1:Nat):Int),0,m.bits⟩
 | [],k,m,h=>by simp at h
 |x::r,0,m,h=>by
  simp at h;subst h;refine⟨rfl,?_⟩;show some _=some _;rw[aar,show r.length+1-0-1=r.length by omega]
 |x::r,k+1,m,h=>by
  have:=Em r k m (by simpa using h)
  rw[show 2*(k+1)=2*k+1+1 by omega,aar,show r.length+1-(k+1)-1=r.length-k-1 by omega]
  simpa[mD]using this
theorem Av:∀ms:List lR,(mD ms)[2*ms.length]? =some ⟨6,0,0,1⟩
 | []=>rfl
 |m::r=>by
  have:=Av r;rw[aar,show 2*(r.length+1)=2*r.length+1+1 by omega]
  simpa[mD]using this
theorem Le{p:cU}{k:Nat}{m:lR}(h:p.bo[k]? =some m):(eh p).take (2*(k+1)+1)=(eh p).take (2*k+1)++ [⟨1,0,0,m.w⟩,⟨4,((2*(p.bo.length-k-1)+1:Nat):Int),0,m.bits⟩]:=by
 obtain⟨h1,h2⟩:=Em p.bo k m h;have e1:(eh p)[2*k+1]? =some ⟨1,0,0,m.w⟩:=by simpa[eh]using h1
 have e2:(eh p)[2*k+1+1]? =some ⟨4,((2*(p.bo.length-k-1)+1:Nat):Int),0,m.bits⟩:=by simpa[eh]using h2
 rw[show 2*(k+1)+1=2*k+1+1+1 by omega,abG,e2,abG,e1]
 simp
theorem Po(p:cU):eh p=(eh p).take (2*p.bo.length+1)++ [⟨6,0,0,1⟩,⟨6,0,0,0⟩]:=by
 have h1:=Av p.bo;have h2:=lT p.bo;have e1:(eh p)[2*p.bo.length+1]? =some ⟨6,0,0,1⟩:=by simpa[eh]using h1
 have e2:(eh p)[2*p.bo.length+1+1]? =some ⟨6,0,0,0⟩:=by simpa[eh]using h2
 have hl:(eh p).length=2*p.bo.length+1+1+1:=by simp[eh,iL]
 have h3:(eh p).take (2*p.bo.length+1+1+1)=eh p:=abT om;rw[abG,e2,abG,e1,ac2]at h3;exact h3.symm
theorem Ho(p:cU)(hm:p.bo.length<=1000):body prog c52 [p.cv] [] (λr m=>cN m r (te (eh p))):=by
 have hn:IntKind.i64.wrap (IntKind.i64.wrap (2*(((p.bo.map lR.enc).length:Nat):Int))+1)=((2*p.bo.length+1:Nat):Int):=by rw[N7,iD (n:=2*(p.bo.length:Int)) om om,iD om om];omega
 refine ba (λk=>k<=p.bo.length) [1,19] (λk=>[(4,.rv (.one (.row 1 4 0 none))),(20,an .i64 (p.bo.length:Nat)),(21,an .i64 (k:Nat))]) (λk=>[.var (p.enc.map .ah),.row 4 (aa (((eh p).take (2*k+1)).map dv.enc))])
  (λk=>p.bo.length-k) 0 (aav _) ?_ (λk hk=>?_)
 .refine View.o 2 [0,1] [] ?_ ?_
  .repeat(first|exact .nil|refine .aH ?_|refine .eq rfl ?_|refine .put (.bh (by rw[N7];rfl)) ?_)
  .refine .pe rfl rfl rfl (.pt rfl rfl (.bM ?_) (.nil _));show [[CC.ah (.val (.int .i64 2)),.ah (.val (.int .i64 0)),.ah (.val (.int .i64 (IntKind.i64.wrap (IntKind.i64.wrap (2*(((p.bo.map lR.enc).length:Nat):Int))+1)))),.ah (.val (.int .i64 p.call))]]=_;rw[hn];rfl
 have hk:k<=p.bo.length:=hk;refine aP (λh=>?_) (λh=>?_)
 .have aD:k<p.bo.length:=by have h:(k:Int)<(p.bo.length:Int):=h;omega
  have hi:=vR aD;have hT:=Le hi;have hg:dA (p.bo.map lR.enc) (k:Nat)=some [.val (.int .i64 p.bo[k].w),.val (.int .i64 p.bo[k].bits)]:=by rw[bG,Tr,hi];rfl
  generalize p.bo[k]=mk at hT hg;refine af hg ?_;have hw:IntKind.i64.wrap (IntKind.i64.wrap (2*IntKind.i64.wrap (IntKind.i64.wrap ((((p.bo.map lR.enc).length:Nat):Int)-(k:Int))-1))+1)=((2*(p.bo.length-k-1)+1:Nat):Int):=by rw[N7,iD (n:=(p.bo.length:Int)-k) om om,iD (n:=(p.bo.length:Int)-k-1) om om,iD (n:=2*((p.bo.length:Int)-k-1)) om om,iD om om];omega
  refine⟨?_,?_⟩
  .show((aa (((eh p).take (2*k+1)).map dv.enc)).length+2)*32<=_;simp[aa];omega
  refine⟨k+1,aD,(show p.bo.length-(k+1)<p.bo.length-k by omega),View.o2 5 [0,4] [] ?_⟩
  .refine .pe rfl rfl rfl (.pt rfl rfl (.bM ?_) (.nil _));show aa (((eh p).take (2*k+1)).map dv.enc)++ [[CC.ah (.val (.int .i64 1)),.ah (.val (.int .i64 0)),.ah (.val (.int .i64 0)),.ah (.val (.int .i64 mk.w))],[.ah (.val (.int .i64 4)),.ah (.val (.int .i64 (IntKind.i64.wrap (IntKind.i64.wrap (2*IntKind.i64.wrap (IntKind.i64.wrap ((((p.bo.map lR.enc).length:Nat):Int)-(k:Int))-1))+1)))),.ah (.val (.int .i64 0)),.ah (.val (.int .i64 mk.bits))]]=_;rw[hw,hT,abn,qG];rfl
 .have Bi:k=p.bo.length:=by have h:¬(k:Int)<(p.bo.length:Int):=h;omega
  subst Bi;refine⟨?_,?_⟩
  .show((aa (((eh p).take (2*p.bo.length+1)).map dv.enc)).length+2)*32<=_;simp[aa];omega
  have d9:some (Bk.row 4 (aa (((eh p).take (2*p.bo.length+1)).map dv.enc)++ [[CC.ah (.val (.int .i64 6)),.ah (.val (.int .i64 0)),.ah (.val (.int .i64 0)),.ah (.val (.int .i64 1))],[.ah (.val (.int .i64 6)),.ah (.val (.int .i64 0)),.ah (.val (.int .i64 0)),.ah (.val (.int .i64 0))]]))=some (Bk.row 4 (aa ((eh p).map dv.enc))):=by
   conv=>rhs;rw[Po p,abn,qG]
   rfl
  exact .rv (.one (ff.fg d9 0 none))
theorem Pp(p:cU)(hm:p.bo.length<=1000){m:Mem}{K:CV->Mem->Prop}(h:K (te (eh p)) m):aq prog 52 [p.cv] m K:=
 bi (bc func52 l52 (Ho p hm)) (by simp[cU.cv,CV.dC,CC.dC,RV.dC]) λr m1 hf=>⟨_,hf,h⟩
theorem rE{n:Nat}{l:List cU}(hg:∀p,p∈l->p.bo.length<=3)(hl:l.length<=30)(hn:l.length<=n):(di n l).length<=330:=by
 have h2:=pZ n l hg hn;by_cases e:l=[]
 .have:=h2.1 e;omega
 .have:=h2.2 e;omega
theorem IP:∀(n:Nat)(l:List cU),l.length<=n->l.length<=30->(∀p,p∈l->p.bo.length<=3)->∀{m:Mem}{K:CV->Mem->Prop},K (te (di n l)) m->aq prog 27 [eK l] m K:=by
 intro n
 induction n with
 |zero=>
  intro l hl _ _ m K h;have:l=[]:=aaq om;subst this;refine bi (K0:=λr m=>cN m r (te (di 0 []))) (cj func27 l27 ?_) (by simp[eK,CV.dC,CC.dC]) λr m1 hf=>⟨_,hf,h⟩
  exact .rv (.one (ff.fg rfl 0 none))
 |succ n ih=>
  intro l hl agY hg m K h;refine bi (K0:=λr m=>cN m r (te (di (n+1) l))) (cj func27 l27 ?_) (by simp[eK,CV.dC,CC.dC]) λr m1 hf=>⟨_,hf,h⟩
  refine bu (λh0=>?_) (λh0=>?_)
  .have h0:l=[]:=by have h0:(((l.map cU.enc).length:Nat):Int)=0:=h0;rw[N7]at h0;exact aaq om
   subst h0;exact .rv (.one (ff.fg rfl 0 none))
  have h0:l.length≠0:=by have h0:(((l.map cU.enc).length:Nat):Int)≠0:=h0;rw[N7]at h0;omega
  refine bu (λh1=>?_) (λh1=>?_)
  .have h1:l.length=1:=by have h1:(((l.map cU.enc).length:Nat):Int)=1:=h1;rw[N7]at h1;omega
   match l,h1 with
   | [p],_=>
    refine Pp p (by have:=hg p (by simp);omega) ?_
    exact cN.self rfl
  have h2:2<=l.length:=by have h1:(((l.map cU.enc).length:Nat):Int)≠1:=h1;rw[N7]at h1;omega
  have hq:IntKind.i64.wrap ((((l.map cU.enc).length:Nat):Int).tdiv 2)=((l.length/2:Nat):Int):=by rw[N7,show(2:Int)=((2:Nat):Int)from rfl,<-Int.ofNat_tdiv,iD om om]
  refine gK [0] [(3,an .i64 ((l.length/2:Nat):Int))] [] (View.o 0 [] [] ?_ (.nil _)) ?_
  .repeat(first|exact .nil|refine .aH ?_|refine .eq rfl ?_|refine .put (.bh (congrArg (an .i64) hq).symm) ?_)
  have hk:l.length/2<l.length:=om;have b1:(Nat.ble 0 (l.length/2)&&Nat.ble (l.length/2) (l.map cU.enc).length)=true:=by rw[aae,abe,abe,N7];omega
  have b2:(Nat.ble (l.length/2) (l.map cU.enc).length&&Nat.ble (l.map cU.enc).length (l.map cU.enc).length)=true:=by rw[aae,abe,abe,N7];omega
  have e1:((l.map cU.enc).take (l.length/2)).drop 0=(l.take (l.length/2)).map cU.enc:=by rw[adR,adg]
  have e2:((l.map cU.enc).take (l.map cU.enc).length).drop (l.length/2)=(l.drop (l.length/2)).map cU.enc:=by rw[aaZ,adZ]
  refine cM b1 ?_;refine cM b2 ?_;show aq prog 27 [.rv (.one (.ah (.sl 2 (((l.map cU.enc).take (l.length/2)).drop 0))))] _ _;rw[e1];refine ih (l.take (l.length/2)) (by rw[aaE];omega) (by rw[aaE];omega) (λp hp=>hg p (abq hp)) ?_
  refine⟨⟨cM b2 rfl,trivial⟩,?_⟩;show aq prog 27 [.rv (.one (.ah (.sl 2 (((l.map cU.enc).take (l.map cU.enc).length).drop (l.length/2)))))] _ _;rw[e2];refine ih (l.drop (l.length/2)) (by rw[abu];omega) (by rw[abu];omega) (λp hp=>hg p (acI hp)) ?_
  refine⟨trivial,?_⟩;have hgt:dA (l.map cU.enc) ((l.length/2:Nat):Int)=some (l[l.length/2].enc):=by rw[bG,Tr,vR hk];rfl
  have sK:ze l=(l[l.length/2]).call:=by rw[ze,vR hk]
  refine af hgt ?_;have t1:=rE (n:=n) (l:=l.take (l.length/2)) (λp hp=>hg p (abq hp)) (by rw[aaE];omega) (by rw[aaE];omega)
  have t2:=rE (n:=n) (l:=l.drop (l.length/2)) (λp hp=>hg p (acI hp)) (by rw[abu];omega) (by rw[abu];omega)
  have M5:=nB (n:=n) h2;generalize di n (l.take (l.length/2))=lo at t1 M5;generalize di n (l.drop (l.length/2))=hi at t2 M5;refine⟨?_,?_⟩
  .show(2+((lo.map dv.enc).map λds=>ds.map CC.ah).length)*32<=_
   simp;omega
  refine⟨?_,?_⟩
  .show(([[CC.ah (.val (.int .i64 3)),.ah (.val (.int .i64 0)),.ah (.val (.int .i64 1)),.ah (.val (.int .i64 (l[l.length/2]).call))],[.ah (.val (.int .i64 5)),.ah (.val (.int .i64 0)),.ah (.val (.int .i64 0)),.ah (.val (.int .i64 (((lo.map dv.enc).length:Nat):Int)))]]++((lo.map dv.enc).map λds=>ds.map CC.ah)).length+((hi.map dv.enc).map λds=>ds.map CC.ah).length)*32<=_
   simp;omega
  have d9:some (Bk.row 4 (([[CC.ah (.val (.int .i64 3)),.ah (.val (.int .i64 0)),.ah (.val (.int .i64 1)),.ah (.val (.int .i64 (l[l.length/2]).call))],[.ah (.val (.int .i64 5)),.ah (.val (.int .i64 0)),.ah (.val (.int .i64 0)),.ah (.val (.int .i64 (((lo.map dv.enc).length:Nat):Int)))]]++((lo.map dv.enc).map λds=>ds.map CC.ah))++((hi.map dv.enc).map λds=>ds.map CC.ah)))=some (Bk.row 4 (((di (n+1) l).map dv.enc).map λds=>ds.map CC.ah)):=by rw[M5,N7,sK];simp[dv.enc]
  exact .rv (.one (ff.fg d9 0 none))
def Tryz.En:Go.Shelf.Ren:=⟨λ|6=>24|15=>50|14=>49|28=>93|29=>94|20=>85|21=>86|22=>87|23=>88|24=>89|25=>90|26=>91|27=>92|46=>122|47=>123|48=>124|49=>125|50=>126|57=>144|n=>n,λ|22=>38|24=>75|25=>96|3=>3|39=>127|0=>0|53=>187|55=>189|4=>4|46=>181|45=>180|50=>50|5=>5|9=>9|66=>233|70=>237|76=>250|77=>102|n=>n,λ|n=>n⟩
theorem Tryz.RW:Go.Proofs.SlLaysF0.n6 prog Tryz.En:={
 mixed:=by kernel_rfl,
 f6:=⟨ "slices.SortFunc[[]ringfence/api.Policy,ringfence/api.Policy]",by decide,func24.trans (congrArg some (by kernel_rfl))⟩,
 f14:=⟨ "slices.pdqsortCmpFunc[ringfence/api.Policy]",by decide,func49.trans (congrArg some (by kernel_rfl))⟩,
 f15:=func50.trans (congrArg some (by kernel_rfl)),
 f20:=⟨ "slices.insertionSortCmpFunc[ringfence/api.Policy]",by decide,func85.trans (congrArg some (by kernel_rfl))⟩,
 f21:=⟨ "slices.heapSortCmpFunc[ringfence/api.Policy]",by decide,func86.trans (congrArg some (by kernel_rfl))⟩,
 f22:=⟨ "slices.breakPatternsCmpFunc[ringfence/api.Policy]",by decide,func87.trans (congrArg some (by kernel_rfl))⟩,
 f23:=⟨ "slices.choosePivotCmpFunc[ringfence/api.Policy]",by decide,func88.trans (congrArg some (by kernel_rfl))⟩,
 f24:=⟨ "slices.reverseRangeCmpFunc[ringfence/api.Policy]",by decide,func89.trans (congrArg some (by kernel_rfl))⟩,
 f25:=⟨ "slices.partialInsertionSortCmpFunc[ringfence/api.Policy]",by decide,func90.trans (congrArg some (by kernel_rfl))⟩,
 f26:=⟨ "slices.partitionEqualCmpFunc[ringfence/api.Policy]",by decide,func91.trans (congrArg some (by kernel_rfl))⟩,
 f27:=⟨ "slices.partitionCmpFunc[ringfence/api.Policy]",by decide,func92.trans (congrArg some (by kernel_rfl))⟩,
 f28:=func93.trans (congrArg some (by kernel_rfl)),
 f29:=func94.trans (congrArg some (by kernel_rfl)),
 f46:=⟨ "slices.siftDownCmpFunc[ringfence/api.Policy]",by decide,func122.trans (congrArg some (by kernel_rfl))⟩,
 f47:=func123.trans (congrArg some (by kernel_rfl)),
 f48:=func124.trans (congrArg some (by kernel_rfl)),
 f49:=⟨ "slices.medianAdjacentCmpFunc[ringfence/api.Policy]",by decide,func125.trans (congrArg some (by kernel_rfl))⟩,
 f50:=⟨ "slices.medianCmpFunc[ringfence/api.Policy]",by decide,func126.trans (congrArg some (by kernel_rfl))⟩,
 f57:=⟨ "slices.order2CmpFunc[ringfence/api.Policy]",by decide,func144.trans (congrArg some (by kernel_rfl))⟩,
 t0:=underlying0,
 a0:=isAgg0,
 z0:=sizeOf0,
 v0:=zeroValue0,
 t3:=underlying3,
 a3:=isAgg3,
 z3:=sizeOf3,
 v3:=zeroValue3,
 t4:=underlying4,
 a4:=isAgg4,
 z4:=sizeOf4,
 v4:=zeroValue4,
 t5:=underlying5,
 a5:=isAgg5,
 z5:=sizeOf5,
 v5:=zeroValue5,
 t9:=underlying9,
 a9:=isAgg9,
 z9:=sizeOf9,
 v9:=zeroValue9,
 t22:=underlying38,
 a22:=isAgg38,
 z22:=sizeOf38,
 v22:=zeroValue38,
 t25:=underlying96,
 a25:=isAgg96,
 z25:=sizeOf96,
 v25:=zeroValue96,
 t39:=underlying127,
 a39:=isAgg127,
 z39:=sizeOf127,
 v39:=zeroValue127,
 t45:=underlying180,
 a45:=isAgg180,
 z45:=sizeOf180,
 v45:=zeroValue180,
 t46:=underlying181,
 a46:=isAgg181,
 z46:=sizeOf181,
 v46:=zeroValue181,
 t50:=underlying50,
 a50:=isAgg50,
 z50:=sizeOf50,
 v50:=zeroValue50,
 t53:=underlying187,
 a53:=isAgg187,
 z53:=sizeOf187,
 v53:=zeroValue187,
 t55:=underlying189,
 a55:=isAgg189,
 z55:=sizeOf189,
 v55:=zeroValue189,
 t66:=underlying233,
 a66:=isAgg233,
 z66:=sizeOf233,
 v66:=zeroValue233,
 t70:=underlying237,
 a70:=isAgg237,
 z70:=sizeOf237,
 v70:=zeroValue237,
 t76:=underlying250,
 a76:=isAgg250,
 z76:=sizeOf250,
 v76:=zeroValue250,
 t77:=underlying102,
 a77:=isAgg102,
 z77:=sizeOf102,
 v77:=zeroValue102}
def Tryz.Hp:Go.Shelf.Ren:=⟨λ|5=>26|7=>51|n=>n,λ|22=>3|3=>3|4=>4|n=>n,λ|n=>n⟩
theorem Tryz.Vw:Go.Proofs.SlLaysC2.n5 prog Tryz.Hp:={
 mixed:=by kernel_rfl,
 f5:=⟨ "cmp.Compare[int]",by decide,func26.trans (congrArg some (by kernel_rfl))⟩,
 f7:=⟨ "cmp.isNaN[int]",by decide,func51.trans (congrArg some (by kernel_rfl))⟩,
 t3:=underlying3,
 a3:=isAgg3,
 z3:=sizeOf3,
 v3:=zeroValue3,
 t4:=underlying4,
 a4:=isAgg4,
 z4:=sizeOf4,
 v4:=zeroValue4,
 t22:=underlying3,
 a22:=isAgg3,
 z22:=sizeOf3,
 v22:=zeroValue3}
open Go.Shelf Go.Lib Go.Sort in
def Z3(x:cU×(Option Addr×Nat×Nat)):List Value:=[.int .i64 x.1.call,.slice x.2.1 x.2.2.1 x.2.2.2]
instance Z4:Inhabited cU:=⟨⟨0,[]⟩⟩
open Go.Shelf Go.Lib Go.Sort in
theorem Pq(a b:Int)(s1 s2:Option Addr)(n1 n2 k1 k2:Nat)(W:World):Calls prog 25 #[.agg #[.int .i64 a,.slice s1 n1 k1],.agg #[.int .i64 b,.slice s2 n2 k2]] W λe w'=>e= .returned (.int .i64 (Lib.compareInt a b))/\∃q os',w'=Sort.grow (W.drewN q) os':=by
 have hcon:=λW'=>AnyG.cmp_Compare_int Tryz.Vw a b W'
 change ∀W',Calls prog 26 _ _ _ at hcon;generalize Lib.compareInt a b=r at hcon|-
 go_enter func25,ntmps25
 go_wp2_with (go_at_call 26;refine(hcon _).mono ?_;rintro e w' ⟨rfl,rfl⟩)
 go_ret
 exact⟨rfl,0,_,by rw[Sort.alloc_eq_grow,Sort.alloc_eq_grow,Sort.grow_grow];rfl⟩
open Go.Shelf Go.Lib Go.Sort in
theorem RX(x y:cU×(Option Addr×Nat×Nat)):ltOf (λx y:cU×(Option Addr×Nat×Nat)=>Lib.compareInt x.1.call y.1.call) x y=decide (x.1.call<y.1.call):=by
 unfold ltOf Lib.compareInt;by_cases h1:x.1.call<y.1.call
 .simp[h1]
 .by_cases h2:y.1.call<x.1.call<;>simp[h1,h2]
open Go.Shelf Go.Lib Go.Sort in
theorem acS:SWO (ltOf λx y:cU×(Option Addr×Nat×Nat)=>Lib.compareInt x.1.call y.1.call) where
 irrefl x:=by rw[RX];simp
 trans x y z h1 h2:=by rw[RX]at*;simp at*;omega
 ntrans x y z h1 h2:=by rw[RX]at*;simp at*;omega
open Go.Shelf Go.Lib Go.Sort in
theorem Ps(l:List cU)(hne:l≠[])(hl:l.length<=4194304){m:Mem}{id:Nat}(hb:cF m id=some (.row 2 (aa (l.map cU.enc)))){K:CV->Mem->Prop}(h:∀l':List cU,l'.Perm l->l'.Pairwise (λa b=>¬b.call<a.call)->K (.bx []) (aX m id (.row 2 (aa (l'.map cU.enc))))):aq prog 24 [.rv (.one (.row id 2 0 none)),.rv (.one (.fn 25 []))] m K:=by
 refine⟨⟨Tryz.f24,func24,rfl,by decide⟩,λρ w vs hM hvl hd=>?_⟩
 obtain⟨v0,h0,d0⟩:=hd 0 _ rfl;obtain⟨v1,h1,d1⟩:=hd 1 _ rfl;have hvs:vs=[v0,v1]:=by
  match vs,hvl with
  | [a,b],_=>simp at h0 h1;rw[h0,h1]
 rw[aV]at hb;obtain⟨hid,_,_,hlc,hcm,a,hv0,ha⟩:=(show bm ρ w none (.row id 2 0 none) v0 from d0);obtain⟨_,hv1⟩:=(show bm ρ w none (.fn 25 []) v1 from d1);obtain⟨hln,_,_,hsz,hcu⟩:=hM.bk id _ hb;have hlen:(ρ.aI (.aj id)).len=l.length:=by rw[<-hln];simp[aa]
 have hpos:0<l.length:=adQ.2 hne;have hcap:0<(ρ.aI (.aj id)).cap:=om;obtain⟨cur,hcur,hcsz,hcells⟩:=hcu hcap;have ha:=ha hcap;have hel:∀i(hi:i<l.length),∃x:Option Addr×Nat×Nat,cur[(ρ.aI (.aj id)).ar+i*2+0]? =some (.int .i64 l[i].call)/\cur[(ρ.aI (.aj id)).ar+i*2+1]? =some (.slice x.1 x.2.1 x.2.2)/\
   dj ρ.S w (.sl 2 (l[i].bo.map lR.enc)) (.slice x.1 x.2.1 x.2.2):=by
  intro i hi;have hri:(aa (l.map cU.enc))[i]? =some (l[i].enc.map .ah):=by simp[aa,hi]
  obtain⟨u,hu,hdu⟩:=hcells i _ 0 _ hri rfl;obtain⟨u1,hu1,hdu1⟩:=hcells i _ 1 _ hri rfl;have e0:u= .int .i64 l[i].call:=by
   have hdu:dj ρ.S w (.val (.int .i64 l[i].call)) u:=hdu;cases hdu with
   |val _ _=>rfl
  have hdu1:dj ρ.S w (.sl 2 (l[i].bo.map lR.enc)) u1:=hdu1;obtain⟨b,n,c,e1⟩:∃b n c,u1=Value.slice b n c:=by
   generalize l[i].bo.map lR.enc=E at hdu1;cases hdu1 with
   |nil _ b c _=>exact⟨_,_,_,rfl⟩
   |sl _ _ b off c u _ _ _ _ _ _=>exact⟨_,_,_,rfl⟩
  subst e0 e1;exact⟨(b,n,c),hu,hu1,hdu1⟩
 obtain⟨X,hX⟩:∃X:Nat->Option Addr×Nat×Nat,∀i(hi:i<l.length),cur[(ρ.aI (.aj id)).ar+i*2+0]? =some (.int .i64 l[i].call)/\cur[(ρ.aI (.aj id)).ar+i*2+1]? =some (.slice (X i).1 (X i).2.1 (X i).2.2)/\
   dj ρ.S w (.sl 2 (l[i].bo.map lR.enc)) (.slice (X i).1 (X i).2.1 (X i).2.2):=
  ⟨λi=>if hi:i<l.length then Classical.choose (hel i hi)else(none,0,0),λi hi=>by have:=Classical.choose_spec (hel i hi);simp only[dif_pos hi];exact this⟩
 obtain⟨d,hdd⟩:∃d:Array (cU×(Option Addr×Nat×Nat)),d=(l.zipIdx.map λp=>(p.1,X p.2)).toArray:=⟨_,rfl⟩
 have hds:d.size=l.length:=by simp[hdd]
 have hdg:∀i(hi:i<l.length),d[i]! =(l[i],X i):=by intro i hi;rw[getElem!_pos d i om];simp[hdd]
 have hdl:d.toList.map Prod.fst=l:=by rw[hdd,List.toList_toArray,abJ];exact List.zipIdx_map_fst 0 l
 have hH:HoldsK Z3 2 w (ρ.aI (.aj id)).b (ρ.aI (.aj id)).ar d:=by
  intro j hj;rw[size_flatK,hds]at hj;have hi:j/2<l.length:=om;obtain⟨g0,g1,_⟩:=hX (j/2) hi;have hc:l.length*2<=(ρ.aI (.aj id)).cap*2:=om;rw[hcur.cell,get_flatK _ _ _ _ (by rw[hds];exact hj),hdg _ hi]
  refine⟨?_,hcur.qJ om⟩;rcases Nat.mod_two_eq_zero_or_one j with e|e
  .rw[e,show(ρ.aI (.aj id)).ar+j=(ρ.aI (.aj id)).ar+j/2*2+0 by omega,g0];rfl
  .rw[e,show(ρ.aI (.aj id)).ar+j=(ρ.aI (.aj id)).ar+j/2*2+1 by omega,g1];rfl
 have eg:∀args w,(callFunc 25 args).run prog w= .ok (.enter 25 args) w:=enters_of func25 (by kernel_rfl) rfl
 have hblk:(ρ.aI (.aj id)).b<w.heap.size:=hcur.lt;have hcon:=AnyQ.slices_SortFunc Tryz.RW 2 isAgg75 sizeOf75 Z3 (λ_=>rfl) (λx v hv=>by simp[Z3]at hv;rcases hv with rfl|rfl<;>rfl) (λx y=>Lib.compareInt x.1.call y.1.call) acS 25 #[] (ρ.aI (.aj id)).b (ρ.aI (.aj id)).ar (ρ.aI (.aj id)).cap d w eg
  (λ_ _ _ _ x y=>Pq x.1.call y.1.call x.2.1 y.2.1 x.2.2.1 y.2.2.1 x.2.2.2 y.2.2.2 _) hH hblk om
 change Calls prog 24 _ _ _ at hcon;have hargs:vs.toArray= #[.slice (some ⟨(ρ.aI (.aj id)).b,(ρ.aI (.aj id)).ar,none⟩) d.size (ρ.aI (.aj id)).cap,.func (.func 25) #[] #[]]:=by rw[hvs,hv0,hv1,ha,hds,<-hlen];simp
 rw[hargs];refine hcon.mono ?_;rintro e w' ⟨rfl,d',n,os,hp,hs,rfl⟩;obtain⟨hp1,_,hp2⟩:=hp;have hp2:d'.toList.Perm d.toList:=by
  have e1:d'.extract 0 d.size=d':=by rw[<-hp1];simp
  have e2:d.extract 0 d.size=d:=aC;rw[e1,e2]at hp2;exact hp2
 have hperm:(d'.toList.map Prod.fst).Perm l:=by have:=hp2.map Prod.fst;rwa [hdl]at this
 have hll:(d'.toList.map Prod.fst).length=l.length:=hperm.length_eq;have hsort:(d'.toList.map Prod.fst).Pairwise (λa b=>¬b.call<a.call):=by
  rw[abW];intro i j hi hj hij;have hj2:j<d'.size:=by simpa using hj
  have:=hs i j (aav _) hij om;rw[RX,getElem!_pos d' i om,getElem!_pos d' j hj2]at this;simpa using this
 have hmem:∀i,i<d'.size->∃k,∃hk:k<l.length,d'[i]! =(l[k],X k):=by
  intro i hi;have:d'[i]! ∈d.toList:=by rw[<-hp2.mem_iff,getElem!_pos d' i hi];exact adJ.2 (Array.getElem_mem hi)
  obtain⟨k,hk⟩:=aab this;obtain⟨hk1,hk2⟩:=Ki.1 hk;have hk1:k<d.size:=by simpa using hk1
  refine⟨k,om,?_⟩;rw[<-hdg k om,getElem!_pos d k hk1,<-hk2];simp
 have hb2:=hb;obtain⟨hM',hX'⟩:=JQ (m4:=aa ((d'.toList.map Prod.fst).map cU.enc)) (F:=flatK Z3 2 d') hM hb (by simpa[aa]using hpos) (by simp[aa];omega) (λcs hcs=>by
   simp only[aa,aaz]at hcs;obtain⟨x,⟨p,_,rfl⟩,rfl⟩:=hcs;rfl) (by rw[size_flatK];simp[aa];omega) (λcs hcs c hc=>by
   simp only[aa,aaz]at hcs;obtain⟨x,_,rfl⟩:=hcs;obtain⟨d,_,rfl⟩:=aaz.1 hc;exact⟨d,rfl⟩) (λi cs j c hi hj=>by
   simp only[aa,Tr]at hi;cases ho:d'.toList[i]? with
   |none=>rw[ho]at hi;simp at hi
   |some y=>
    rw[ho]at hi;simp only[aaG,aaA]at hi;subst hi;have hid':i<d'.size:=by have:=(Ki.1 ho).1;simpa using this
    have hy:d'[i]! =y:=by rw[getElem!_pos d' i hid'];have:=(Ki.1 ho).2;simpa using this
    obtain⟨k,hk,hyk⟩:=hmem i hid';rw[hy]at hyk;subst hyk;have hj2:j<2:=by have:=(Ki.1 hj).1;simpa[cU.enc]using this
    rw[get_flatK _ _ _ _ om,show(i*2+j)/2=i by omega,show(i*2+j)%2=j by omega,hy]
    match j,hj2,hj with
    |0,_,hj=>cases hj;exact dj.val _ rfl
    |1,_,hj=>cases hj;exact(hX k hk).2.2) n os
 rw[<-bb]at hM' hX';exact⟨_,.bx [],_,ρ,rfl,h _ hperm hsort,hM',⟨[],rfl,rfl,aC⟩,hX'⟩
def c17:LF:= ⟨22,[.tmp 2,.cell true 2 3],(.seq (.ai [qu 2 (.aN qe),qu 3 (.alloc [qd 0,qd 0])]) (.seq (.seq (.ai [qm 6 0,qu 7 (qc 22 [6]),qu 4 (.alloc [qd 0,qd 0]),qw (.store 2 4 7)]) (.seq (.ai [qf 8 0 4,ql 9 8,qu 10 (.aL .neq 9 (qi 0))]) (.cond 10 (.seq (.bV [qL 11 2 4,qu 2 (.aN qe),qw (.store 2 3 11)] [(.cons 0 none (.cons 1 none (.cons 2 (some []) .nil)))]) .ret) .skip))) (.seq (.ai [qm 12 0,qu 13 (qc 23 [12]),qm 5 13]) (.seq (.ai [qm 14 5,qu 15 (qc 24 [14,(.c (.rv (.one (.fn 25 []))))])]) (.seq (.ai [qu 16 (.build [qd 0,qd 0,qd 0,qd 0] [(0,1,qi 1)]),qu 17 (.nI 4 [qd 0,qd 0,qd 0,qd 0] 1 [(0,16)]),qm 18 5,qu 19 (qc 27 [18]),qu 20 (.oL 4 32 17 19),qu 21 (.build [qd 0,qd 0] []),qm 2 20,qw (.store 2 3 21)]) .ret)))))⟩
def c23:LF:= ⟨8,[.tmp 2],(.seq (.ai [qu 2 (.aN qe)]) (.seq (.seq (.ai [qm 3 0,qu 4 (.yM false 3)]) (.cond 4 (.seq (.ai [qu 2 (.aN qe)]) .ret) .skip)) (.seq (.ai [qu 5 (.nI 2 [qd 0,.aM] 0 []),qm 6 0,qu 7 (.oL 2 32 5 6),qm 2 7]) .ret)))⟩
def c24:LF:= ⟨14,[],(.seq (.ai [qm 5 0,qu 6 (.len 1 5),qm 4 6]) (.ai [qm 7 0,qm 8 4,qm 9 4,qu 10 (.conv .u64 9),qu 11 (qc 50 [10]),qm 12 1,qu 13 (qc 49 [7,qi 0,8,11,12])]))⟩
def c49:LF:= ⟨148,[],(.seq (.ai [qu 10 (.aN (qb true))]) (.seq (.ai [qu 11 (.aN (qb true))]) (.block 0 (.loop (.block 1 (.seq (.ai [qm 21 2,qm 22 1,qu 23 (.aL .sub 21 22),qm 12 23]) (.seq (.seq (.ai [qm 24 12,qu 25 (.aL .leq 24 (qi 12))]) (.cond 25 (.seq (.ai [qm 26 0,qm 27 1,qm 28 2,qm 29 4,qu 30 (qc 85 [26,27,28,29])]) .ret) .skip)) (.seq (.seq (.ai [qm 31 3,qu 32 (.aL .eql 31 (qi 0))]) (.cond 32 (.seq (.ai [qm 33 0,qm 34 1,qm 35 2,qm 36 4,qu 37 (qc 86 [33,34,35,36])]) .ret) .skip)) (.seq (.seq (.ai [qm 38 10,qu 39 (.un .not 38)]) (.cond 39 (.seq (.ai [qm 40 0,qm 41 1,qm 42 2,qm 43 4,qu 44 (qc 87 [40,41,42,43])]) (.ai [qm 45 3,qu 46 (.aL .sub 45 (qi 1)),qm 3 46])) .skip)) (.seq (.ai [qm 48 0,qm 49 1,qm 50 2,qm 51 4,qu 52 (qc 88 [48,49,50,51]),qm 47 52,qu 53 (.ext 47 0),qu 54 (.ext 47 1),qm 13 53,qm 14 54]) (.seq (.seq (.ai [qm 55 14,qu 56 (.aL .eql 55 (qi 2))]) (.cond 56 (.seq (.ai [qm 57 0,qm 58 1,qm 59 2,qm 60 4,qu 61 (qc 89 [57,58,59,60])]) (.seq (.ai [qm 62 2,qu 63 (.aL .sub 62 (qi 1)),qm 64 13,qm 65 1,qu 66 (.aL .sub 64 65),qu 67 (.aL .sub 63 66),qm 13 67]) (.ai [qu 14 (.aN (qi 1))]))) .skip)) (.seq (.seq (.ai [qm 68 10,qm 69 68,qg 70 (.aN 11) 69 true,qu 71 (.pick 69 70 (qb false)),qm 72 71,qg 73 (.aN 14) 72 true,qg 74 (.aL .eql 73 (qi 1)) 72 true,qu 75 (.pick 72 74 (qb false))]) (.cond 75 (.seq (.ai [qm 76 0,qm 77 1,qm 78 2,qm 79 4,qu 80 (qc 90 [76,77,78,79])]) (.cond 80 .ret .skip)) .skip)) (.seq (.seq (.bV [qm 81 1,qu 82 (.aL .gtr 81 (qi 0)),qm 83 82,qg 84 (.aN 4) 83 true,qg 85 (.aN 0) 83 true,qg 86 (.aN 1) 83 true,qg 87 (.aL .sub 86 (qi 1)) 83 true,qg 88 (.cw 2 85 87) 83 true,qg 89 (.load true 2 88) 83 true,qg 90 (.aN 0) 83 true,qg 91 (.aN 13) 83 true,qg 92 (.cw 2 90 91) 83 true,qg 93 (.load true 2 92) 83 true,qg 94 (.call 84 [89,93]) 83 true,qg 95 (.aL .lss 94 (qi 0)) 83 true,qg 96 (.un .not 95) 83 true,qu 97 (.pick 83 96 (qb false))] [(eE 13 0 (.cons 13 (some []) (eE 3 14 .nil)))]) (.cond 97 (.seq (.ai [qm 98 0,qm 99 1,qm 100 2,qm 101 13,qm 102 4,qu 103 (qc 91 [98,99,100,101,102]),qm 15 103]) (.seq (.ai [qm 104 15,qm 1 104]) (.exit 1))) .skip)) (.seq (.ai [qm 106 0,qm 107 1,qm 108 2,qm 109 13,qm 110 4,qu 111 (qc 92 [106,107,108,109,110]),qm 105 111,qu 112 (.ext 105 0),qu 113 (.ext 105 1),qm 16 112,qm 17 113]) (.seq (.ai [qm 114 17,qm 11 114]) (.seq (.ai [qm 115 16,qm 116 1,qu 117 (.aL .sub 115 116),qm 118 2,qm 119 16,qu 120 (.aL .sub 118 119),qm 18 117,qm 19 120]) (.seq (.ai [qm 121 12,qu 122 (.aL .quo 121 (qi 8)),qm 20 122]) (.seq (.ai [qm 123 18,qm 124 19,qu 125 (.aL .lss 123 124)]) (.cond 125 (.seq (.ai [qm 126 18,qm 127 20,qu 128 (.aL .geq 126 127),qm 10 128]) (.seq (.ai [qm 129 0,qm 130 1,qm 131 16,qm 132 3,qm 133 4,qu 134 (qc 49 [129,130,131,132,133])]) (.ai [qm 135 16,qu 136 (.aL .add 135 (qi 1)),qm 1 136]))) (.seq (.ai [qm 137 19,qm 138 20,qu 139 (.aL .geq 137 138),qm 10 139]) (.seq (.ai [qm 140 0,qm 141 16,qu 142 (.aL .add 141 (qi 1)),qm 143 2,qm 144 3,qm 145 4,qu 146 (qc 49 [140,142,143,144,145])]) (.ai [qm 147 16,qm 2 147]))))))))))))))))))))))⟩
def c50:LF:= ⟨8,[.tmp 2],(.seq (.ai [qu 2 (.aN (qi 0))]) (.seq (.cond (qb false) (.seq (.ai [qm 3 0,qu 4 (.conv .u32 3),qu 5 (qc 93 [4]),qm 2 5]) .ret) .skip) (.seq (.ai [qm 6 0,qu 7 (qc 94 [6]),qm 2 7]) .ret)))⟩
def c85:LF:= ⟨53,[],(.seq (.ai [qm 10 1,qu 11 (.aL .add 10 (qi 1)),qm 8 11]) (.block 0 (.loop (.seq (.seq (.ai [qm 12 8,qm 13 2,qu 14 (.aL .lss 12 13)]) (.cond 14 .skip (.exit 0))) (.seq (.block 1 (.seq (.ai [qm 17 8,qm 9 17]) (.block 2 (.loop (.seq (.seq (.bV [qm 18 9,qm 19 1,qu 20 (.aL .gtr 18 19),qm 21 20,qg 22 (.aN 3) 21 true,qg 23 (.aN 0) 21 true,qg 24 (.aN 9) 21 true,qg 25 (.cw 2 23 24) 21 true,qg 26 (.load true 2 25) 21 true,qg 27 (.aN 0) 21 true,qg 28 (.aN 9) 21 true,qg 29 (.aL .sub 28 (qi 1)) 21 true,qg 30 (.cw 2 27 29) 21 true,qg 31 (.load true 2 30) 21 true,qg 32 (.call 22 [26,31]) 21 true,qg 33 (.aL .lss 32 (qi 0)) 21 true,qu 34 (.pick 21 33 (qb false))] [(eE 14 0 (.cons 14 (some []) (.cons 15 none (.cons 16 none .nil))))]) (.cond 34 .skip (.exit 2))) (.seq (.block 3 (.bV [qm 37 0,qm 38 9,qm 39 0,qm 40 9,qu 41 (.aL .sub 40 (qi 1)),qm 42 0,qm 43 9,qu 44 (.aL .sub 43 (qi 1)),qu 45 (.cw 2 42 44),qL 46 2 45,qm 47 0,qm 48 9,qu 49 (.cw 2 47 48),qL 50 2 49,qu 51 (.cw 2 37 38),qw (.store 2 51 46),qu 52 (.cw 2 39 41),qw (.store 2 52 50)] [(eE 15 0 (.cons 15 (some []) (.cons 16 none (.cons 17 (some []) .nil))))])) (.ai [qm 35 9,qu 36 (.aL .sub 35 (qi 1)),qm 9 36]))))))) (.ai [qm 15 8,qu 16 (.aL .add 15 (qi 1)),qm 8 16]))))))⟩
def c94:LF:= ⟨25,[.tmp 2],(.seq (.ai [qu 2 (.aN (qi 0))]) (.seq (.seq (.ai [qm 3 0,qu 4 (.aL .geq 3 (.c (.rv (.one (.ah (.val (.int .u64 (4294967296))))))))]) (.cond 4 (.seq (.ai [qm 5 0,qu 6 (.aL .shr 5 (.c (.rv (.one (.ah (.val (.int .u64 (32)))))))),qm 0 6]) (.ai [qu 2 (.aN (qi 32))])) .skip)) (.seq (.seq (.ai [qm 7 0,qu 8 (.aL .geq 7 (.c (.rv (.one (.ah (.val (.int .u64 (65536))))))))]) (.cond 8 (.seq (.ai [qm 9 0,qu 10 (.aL .shr 9 (.c (.rv (.one (.ah (.val (.int .u64 (16)))))))),qm 0 10]) (.ai [qm 11 2,qu 12 (.aL .add 11 (qi 16)),qm 2 12])) .skip)) (.seq (.seq (.ai [qm 13 0,qu 14 (.aL .geq 13 (.c (.rv (.one (.ah (.val (.int .u64 (256))))))))]) (.cond 14 (.seq (.ai [qm 15 0,qu 16 (.aL .shr 15 (.c (.rv (.one (.ah (.val (.int .u64 (8)))))))),qm 0 16]) (.ai [qm 17 2,qu 18 (.aL .add 17 (qi 8)),qm 2 18])) .skip)) (.seq (.ai [qm 19 2,qm 20 0,qu 21 (.conv .u8 20),qu 22 (.CA (.c (.rv (.one (.ah (.val (.string ⟨#[0,1,2,2,3,3,3,3,4,4,4,4,4,4,4,4,5,5,5,5,5,5,5,5,5,5,5,5,5,5,5,5,6,6,6,6,6,6,6,6,6,6,6,6,6,6,6,6,6,6,6,6,6,6,6,6,6,6,6,6,6,6,6,6,7,7,7,7,7,7,7,7,7,7,7,7,7,7,7,7,7,7,7,7,7,7,7,7,7,7,7,7,7,7,7,7,7,7,7,7,7,7,7,7,7,7,7,7,7,7,7,7,7,7,7,7,7,7,7,7,7,7,7,7,7,7,7,7,8,8,8,8,8,8,8,8,8,8,8,8,8,8,8,8,8,8,8,8,8,8,8,8,8,8,8,8,8,8,8,8,8,8,8,8,8,8,8,8,8,8,8,8,8,8,8,8,8,8,8,8,8,8,8,8,8,8,8,8,8,8,8,8,8,8,8,8,8,8,8,8,8,8,8,8,8,8,8,8,8,8,8,8,8,8,8,8,8,8,8,8,8,8,8,8,8,8,8,8,8,8,8,8,8,8,8,8,8,8,8,8,8,8,8,8,8,8,8,8,8,8,8,8,8,8,8,8]⟩)))))) 21),qu 23 (.conv .i64 22),qu 24 (.aL .add 19 23),qm 2 24]) .ret)))))⟩
theorem l23:bz prog Tryz.f23=some c23:=by kernel_rfl
theorem l24:bz prog Tryz.f24=some c24:=by kernel_rfl
theorem l49:bz prog Tryz.f49=some c49:=by kernel_rfl
theorem l50:bz prog Tryz.f50=some c50:=by kernel_rfl
theorem l85:bz prog f85=some c85:=by kernel_rfl
theorem l94:bz prog f94=some c94:=by kernel_rfl
theorem l17:bz prog f17=some c17:=by kernel_rfl
theorem RY{m:Mem}{K:CV->Mem->Prop}(h:K (an .i64 0) m):aq prog 94 [an .u64 0] m K:=
 bC (r0:=an .i64 0) func94 l94 rfl (aap rfl) (show body prog c94 [an .u64 0] [] (λr m=>r=an .i64 0)from rfl) rfl rfl h
theorem Vx{m:Mem}{K:CV->Mem->Prop}(h:K (an .i64 0) m):aq prog 50 [an .u64 0] m K:=
 bC (r0:=an .i64 0) func50 l50 rfl (aap rfl) (show body prog c50 [an .u64 0] [] (λr m=>r=an .i64 0)from RY rfl) rfl rfl h
theorem Y6{m:Mem}{K:CV->Mem->Prop}(h:K (.bx []) m):aq prog 85 [eK [],an .i64 0,an .i64 0,.rv (.one (.fn 25 []))] m K:=by
 refine bC (r0:= .bx []) func85 l85 rfl (aap rfl) ?_ rfl rfl h;refine ba (λ_:Nat=>True) [0,1,2,3,8] (λ_=>[]) (λ_=>[]) (λ_=>0) 0 trivial ?_ (λ_ _=>?_)
 .refine View.o1 0 [] [] (.nil _)
 .rfl
theorem Y7{m:Mem}{K:CV->Mem->Prop}(h:K (.bx []) m):aq prog 49 [eK [],an .i64 0,an .i64 0,an .i64 0,.rv (.one (.fn 25 []))] m K:=by
 refine bC (r0:= .bx []) func49 l49 rfl (aap rfl) ?_ rfl rfl h;refine ba (λ_:Nat=>True) [0,1,2,3,4,10,11] (λ_=>[]) (λ_=>[]) (λ_=>0) 0 trivial ?_ (λ_ _=>?_)
 .refine View.o1 0 [] [] (.nil _)
 .refine Y6 ?_;rfl
theorem RZ{m:Mem}{K:CV->Mem->Prop}(h:K (.bx []) m):aq prog 24 [eK [],.rv (.one (.fn 25 []))] m K:=by refine bC (r0:= .bx []) func24 l24 rfl (aap rfl) ?_ rfl rfl h;refine Vx ?_;refine Y7 ?_;rfl
theorem Eo(l:List cU)(hl:l.length<=4194304):body prog c23 [eK l] [] (λr m=>cN m r (eK l)):=by
 have tw:((([]:List (List CC)).length+((l.map cU.enc).map λds=>ds.map CC.ah).length)*32)<=140737488355328:=by simp;omega
 refine aJ (λh=>?_) (λh=>?_)
 .have hd:l=[]:=aaq (by simpa using aau h)
  subst hd;exact⟨.rv (.one (.aM 2)),tw,.rv (.one (ff.fg rfl 0 none))⟩
 .exact⟨tw,.rv (.one (ff.fg rfl 0 none))⟩
theorem Lg(l:List cU)(hl:l.length<=4194304){m:Mem}{K:CV->Mem->Prop}(h:K (eK l) m):aq prog 23 [eK l] m K:=
 bi (bc func23 l23 (Eo l hl)) (by simp[eK,CV.dC,CC.dC]) λr m1 hf=>⟨_,hf,h⟩
theorem B2(l:List cU)(dy:l≠[])(hl:l.length<=4194304):body prog c23 [eK l] [] (λr m=>∃r' m',View 0 ⟨[r],m⟩ ⟨[r'],m'⟩/\r'= .rv (.one (.row 0 2 0 none))/\m'=[.row 2 (aa (l.map cU.enc))]):=by
 have tw:((([]:List (List CC)).length+((l.map cU.enc).map λds=>ds.map CC.ah).length)*32)<=140737488355328:=by simp;omega
 refine si ?_ ?_
 .have:(l.map cU.enc).length≠0:=by simp[dy]
  cases h:Nat.beq (l.map cU.enc).length 0 with
  |false=>rfl
  |true=>exact absurd (aau h) this
 .refine⟨tw,_,_,View.o 2 [1] [] (.eq rfl .nil) (.pt rfl rfl (.bM (by simp[aa,b7])) (.nil _)),rfl,rfl⟩
theorem Hq(l:List cU)(dy:l≠[])(hl:l.length<=4194304){m:Mem}{K:CV->Mem->Prop}(h:K (.rv (.one (.row m.length 2 0 none))) (m++ [.row 2 (aa (l.map cU.enc))])):aq prog 23 [eK l] m K:=by
 refine bw [] m.length rfl rfl rfl rfl (args0:=[eK l]) rfl (λi b' hi=>by simp at hi) (K0:=λr m=>r= .rv (.one (.row 0 2 0 none))/\m=[.row 2 (aa (l.map cU.enc))])
  (bL (bc func23 l23 (B2 l dy hl)) λr m1 h=>h) (λr m1 hr=>?_)
 obtain⟨rfl,rfl⟩:=hr;refine⟨aav _,?_⟩;show K (.rv (.one (.row (m.length+(0-0)) 2 0 none))) (gI m [Bk.bh _ _]);rw[cg,Bk.jG];exact h
theorem Pv{m:Mem}{a b:RV}{f:Int×Int}(h:eZ m a b):cN m (.bx [a,.agg [.ah (.val (.int .i64 f.1)),.ah (.val (.int .i64 f.2))]]) (.bx [b,.agg [.ah (.val (.int .i64 f.1)),.ah (.val (.int .i64 f.2))]]):=by
 refine .bx rfl λi r r' h1 h2=>?_
 match i,h1,h2 with
 |0,h1,h2=>cases h1;cases h2;exact h
 |1,h1,h2=>cases h1;cases h2;exact eZ.self rfl
def R0(l:List dv)(f:Int×Int):CV:= .bx [.one (.ah (yd l)),.agg [.ah (.val (.int .i64 f.1)),.ah (.val (.int .i64 f.2))]]
theorem Lh(l:List cU):body prog c17 [eK l] [] (λr m=>((cm l).1≠0->cN m r (R0 [] (cm l)))/\((cm l).1=0->∃l',l'.Perm l/\gy l'/\cN m r (R0 (cZ l') (0,0)))):=by
 refine Pk l ?_;refine bv (λh=>?_) (λh=>?_)
 .refine⟨trivial,?_⟩;have h:(cm l).1≠0:=h;exact⟨λ_=>Pv (.one (.aM 4)),λh0=>absurd h0 h⟩
 have h:(cm l).1=0:=h;obtain⟨Z5,hg,hd⟩:=vB h;have oL:∀l':List cU,l'.Perm l->(1+(((di l'.length l').map dv.enc).map λds=>ds.map CC.ah).length)*32<=140737488355328:=by
  intro l' hp;have:=rE (n:=l'.length) (l:=l') (λp HP=>(hg p (hp.mem_iff.1 HP)).2.2.1) (by rw[hp.length_eq];exact Z5) (Yj _)
  simp;omega
 by_cases dy:l=[]
 .subst dy;refine Lg [] (by decide) ?_
  refine RZ ?_;refine IP 0 [] (by decide) (by decide) aC ?_
  refine⟨by decide,λh0=>absurd h h0,λ_=>⟨[],.refl _,.nil,Pv (f:=(0,0)) (.one (ff.fg (ds:=(cZ []).map dv.enc) rfl 0 none))⟩⟩
 .refine Hq l dy om ?_;refine Ps l dy om rfl λl' hp hs=>?_
  have hr:=Ld hs (zf hp hd);have AP:l'.length<=30:=by rw[hp.length_eq];exact Z5
  refine pS (qx:=[eK l']) (m':=[.var [.ah (.val (.int .i64 0)),.ah (.val (.int .i64 0))],.var [.ah (.val (.int .i64 (cm l).1)),.ah (.val (.int .i64 (cm l).2))],.aU,.row 4 [[.ah (.val (.int .i64 1)),.ah (.val (.int .i64 0)),.ah (.val (.int .i64 0)),.ah (.val (.int .i64 0))]]])
   (View.o 4 [0,1,2,3] [2] (.put (rJ.fT 2 (l'.map cU.enc) rfl rfl) .nil) (.pe rfl rfl rfl (.pe rfl rfl rfl (.aU (.pm rfl rfl rfl))))) ?_
  refine IP l'.length l' (Yj _) AP (λp HP=>(hg p (hp.mem_iff.1 HP)).2.2.1) ?_
  refine⟨oL l' hp,λh0=>absurd h h0,λ_=>⟨l',hp,hr,Pv (f:=(0,0)) (.one (ff.fg (ds:=(cZ l').map dv.enc) ?_ 0 none))⟩⟩
  rfl
theorem IQ(l:List cU){m:Mem}{K:CV->Mem->Prop}(h1:(cm l).1≠0->K (R0 [] (cm l)) m)(h2:(cm l).1=0->∀l':List cU,l'.Perm l->gy l'->K (R0 (cZ l') (0,0)) m):aq prog 17 [eK l] m K:=by
 refine bi (bc func17 l17 (Lh l)) (by simp[eK,CV.dC,CC.dC]) λr m1 hf=>?_
 by_cases h:(cm l).1=0
 .obtain⟨l',hp,hr,hz⟩:=hf.2 h;exact⟨_,hz,h2 h l' hp hr⟩
 .exact⟨_,hf.1 h,h1 h⟩
def c18:LF:= ⟨10,[.cell true 3 0],(.seq (.ai [qu 0 (.alloc [.aM,.aM,.aM])]) (.seq (.ai [qu 1 (qc 28 []),qu 2 (.build [qd 0,qd 0] []),qu 3 (.nI 2 [qd 0,qd 0] 1 [(0,2)]),qu 4 (.build [qd 0,qd 0] [(1,1,qi 4095)]),qu 5 (.build [(.ah (.val (.bool false))),qd 0,qd 0] [(0,1,qb true),(1,2,4)]),qu 6 (.nI 3 [(.ah (.val (.bool false))),qd 0,qd 0] 1 [(0,5)]),qu 7 (.build [(.ah (.val (.bool false))),(.ah (.val (.bool false))),qd 0,.aM] [(0,1,qb true),(3,1,6)]),qu 8 (.nI 4 [(.ah (.val (.bool false))),(.ah (.val (.bool false))),qd 0,.aM] 1 [(0,7)]),qu 9 (.build [.aM,.aM,.aM] [(0,1,1),(1,1,3),(2,1,8)]),qw (.store 3 0 9)]) .ret))⟩
theorem l18:bz prog f18=some c18:=by kernel_rfl
def gO:Obj:=⟨2,[],[],⟨#[]⟩,-1,[],-1,1,0⟩
def cH:Kr:=⟨[gO],[⟨0,0⟩],[⟨true,false,0,[⟨true,0,4095⟩]⟩]⟩
theorem Vy{m:Mem}{Z:Nat->Prop}{p:Option Nat}:kN m Z p [.ah (.val (.int .i64 2)),.aM,.aM,.ah (.val (.string ⟨#[]⟩)),.ah (.val (.int .i64 (-1))),.aM,.ah (.val (.int .i64 (-1))),.ah (.val (.int .i64 1)),.ah (.val (.int .i64 0))] gO.enc:=
 .cons (.ah _) (.cons (.aM 1) (.cons (.aM 2) (.cons (.ah _) (.cons (.ah _) (.cons (.aM 4) (.cons (.ah _) (.cons (.ah _) (.cons (.ah _) .nil))))))))
theorem Pw:body prog c28 [] [] (λr m=>∃r' m',View 0 ⟨[r],m⟩ ⟨[r'],m'⟩/\r'=cC [gO]/\m'=[]):=
 ⟨_,[],View.o 1 [] [0] (.put (.rv (.one (.fT (hC.fT (Z:=λk=>bD [0] k=true) (.cons Vy .nil) rfl rfl)))) .nil) (.nil _),rfl,rfl⟩
theorem Vz{m:Mem}{K:CV->Mem->Prop}(h:K (cC [gO]) m):aq prog 28 [] m K:=by
 refine bi (K0:=λr m=>r=cC [gO]/\m=[]) (bL (bc func28 l28 Pw) λr m1 h=>h) aC λr m1 hr=>?_
 obtain⟨rfl,rfl⟩:=hr;exact⟨_,cN.self rfl,h⟩
theorem Li:body prog c18 [] [] (λr m=>∃r' m',View 0 ⟨[r],m⟩ ⟨[r'],m'⟩/\r'=eJ cH.l cH.ops cH.ps/\m'=[]):=by
 refine Vz ?_;refine⟨_,[],View.o 4 [] [1,2,3] (.put (qz.agg (.cons (.bh (.ah _)) (.cons (.fT (hC.fT (Z:=λk=>bD [1,2,3] k=true) (.cons (.cons (.ah _) (.cons (.ah _) .nil)) .nil) rfl rfl))
  (.cons (.fT (hC.fT (Z:=λk=>bD [1,2,3] k=true) (.cons (.cons (.ah _) (.cons (.ah _) (.cons (.ah _) (.cons (hC.fT (.cons (.cons (.ah _) (.cons (.ah _) (.cons (.ah _) .nil))) .nil) rfl rfl) .nil)))) .nil) rfl rfl)) .nil)))) .nil) (.nil _),rfl,rfl⟩
theorem IS{m:Mem}{K:CV->Mem->Prop}(h:K (eJ cH.l cH.ops cH.ps) m):aq prog 18 [] m K:=by
 refine bi (K0:=λr m=>r=eJ cH.l cH.ops cH.ps/\m=[]) (bL (bc func18 l18 Li) λr m1 h=>h) aC λr m1 hr=>?_
 obtain⟨rfl,rfl⟩:=hr;exact⟨_,cN.self rfl,h⟩
theorem yo:dP cH.l cH.ops cH.ps:=
 ⟨λo ho=>by simp[cH]at ho;subst ho;exact⟨⟨⟨[],rfl⟩,⟨[],rfl⟩,λq hq=>by simp[gO]at hq⟩,by simp[gO],by simp[gO],by simp[gO],λq hq=>by simp[gO]at hq⟩,by simp[cH],by simp[cH],by simp[cH],λp hp=>by simp[cH]at hp;subst hp;simp,by simp[cH]⟩
def c11:LF:= ⟨52,[.cell true 3 4,.tmp 5,.tmp 6],(.seq (.ai [qu 4 (.alloc [.aM,.aM,.aM]),qu 5 (.aN qe),qu 6 (.aN (qi 0))]) (.seq (.ai [qm 16 0,qu 17 (qc 17 [16]),qm 15 17,qu 18 (.ext 15 0),qu 19 (.ext 15 1),qu 8 (.alloc [qd 0,qd 0]),qm 7 18,qw (.store 2 8 19)]) (.seq (.seq (.ai [qf 20 0 8,ql 21 20,qu 22 (.aL .neq 21 (qi 0))]) (.cond 22 (.seq (.bV [qu 23 (.build [.aM,.aM,.aM] []),qf 24 0 8,ql 25 24,qw (.store 3 4 23),qu 5 (.aN qe),qm 6 25] [(eE 3 0 (.cons 3 (some [2]) (.cons 4 none (.cons 5 none .nil))))]) .ret) .skip)) (.seq (.seq (.ai [qm 26 1,qu 27 (.len 1 26),qu 28 (.aL .gtr 27 (qi 80))]) (.cond 28 (.seq (.ai [qu 29 (.build [.aM,.aM,.aM] []),qw (.store 3 4 29),qu 5 (.aN qe),qu 6 (.aN (qi 5))]) .ret) .skip)) (.seq (.ai [qu 30 (qc 18 []),qu 9 (.alloc [.aM,.aM,.aM]),qw (.store 3 9 30)]) (.seq (.ai [qu 10 (.aN qe)]) (.seq (.seq (.ai [qm 31 1,qu 32 (.len 1 31),qu 33 (.aN (qi 0))]) (.block 0 (.loop (.seq (.ai [qu 34 (.aL .lss 33 32)]) (.seq (.cond 34 .skip (.exit 0)) (.seq (.block 1 (.seq (.ai [qu 35 (.cw 9 31 33),qL 36 9 35,qu 12 (.alloc [qd 0,qd 0,qd 0,qd 0,qd 0,qd 0,qd 0,(.ah (.val (.string ⟨#[]⟩))),.aM]),qw (.store 9 12 36)]) (.seq (.ai [qm 38 7,qL 39 3 9,qL 40 9 12,qu 41 (qc 19 [38,39,40]),qm 37 41,qu 42 (.ext 37 0),qu 43 (.ext 37 1),qu 13 (.alloc [.aM,.aM,.aM]),qu 14 (.alloc [qd 0,qd 0,qd 0,.aM]),qw (.store 3 13 42),qw (.store 4 14 43)]) (.seq (.ai [qL 44 3 13,qw (.store 3 9 44)]) (.ai [qm 45 10,qL 46 4 14,qu 47 (.nI 4 [qd 0,qd 0,qd 0,.aM] 1 [(0,46)]),qu 48 (.oL 4 48 45 47),qm 10 48]))))) (.ai [qu 49 (.aL .add 33 (qi 1)),qm 33 49]))))))) (.seq (.ai [qL 50 3 9,qm 51 10,qw (.store 3 4 50),qm 5 51,qu 6 (.aN (qi 0))]) .ret))))))))⟩
namespace Kn
def kS(prog:List dv)(k:Kr):List Cl->Kr
 | []=>k
 |c::r=>kS prog (gF prog k c).1 r
def aS(prog:List dv)(k:Kr):List Cl->List An
 | []=>[]
 |c::r=>(gF prog k c).2::aS prog (gF prog k c).1 r
theorem IT(prog:List dv):∀(k:Kr)(cs:List Cl)(c:Cl),kS prog k (cs++ [c])=(gF prog (kS prog k cs) c).1
 |_,[],_=>rfl
 |k,x::r,c=>IT prog (gF prog k x).1 r c
theorem IU(prog:List dv):∀(k:Kr)(cs:List Cl)(c:Cl),aS prog k (cs++ [c])=aS prog k cs++ [(gF prog (kS prog k cs) c).2]
 |_,[],_=>rfl
 |k,x::r,c=>by show(gF prog k x).2::aS prog (gF prog k x).1 (r++ [c])=_;rw[IU prog (gF prog k x).1 r c];rfl
theorem KI.kS{prog:List dv}:∀{k:Kr}(cs:List Cl),KI k->KI (Kn.kS prog k cs)
 |_,[],h=>h
 |_,c::r,h=>KI.kS r (h.do_ prog c)
theorem Px(prog:List dv):∀(k:Kr)(cs:List Cl),(aS prog k cs).length=cs.length
 |_,[]=>rfl
 |k,c::r=>by simp[aS,Px prog (gF prog k c).1 r]
theorem B3:KI cH:=by
 have hm:∀o,o∈cH.l->o=gO:=λo ho=>by simpa[cH]using ho
 have hp:∀x,x∈cH.ps->x=⟨true,false,0,[⟨true,0,4095⟩]⟩:=λx hx=>by simpa[cH]using hx
 refine⟨by simp[cH],by simp[cH],by simp[cH],yo.sm,yo.sl,yo.ne,λx hx hl=>?_,λx hx s hs hh=>?_,λo ho q hq=>?_,λo ho h5=>?_,λo ho=>?_,λo ho hk=>?_,λi o ho hk=>?_,λo ho=>?_,λo ho=>?_,?_⟩
 .rw[hp x hx]at hl;cases hl
 .rw[hp x hx]at hs;have:s=⟨true,0,4095⟩:=by simpa using hs
  subst this;exact⟨⟨by decide,by decide⟩,0,⟨0,0⟩,rfl,rfl,0,gO,rfl,rfl,by simp[gO]⟩
 .rw[hm o ho]at hq;cases hq
 .rw[hm o ho]at h5;simp[gO]at h5
 .rw[hm o ho];exact⟨rfl,List.Pairwise.nil,λ_=>rfl,λe he=>by cases he⟩
 .rw[hm o ho]at hk;simp[gO]at hk
 .rw[hm o (Tu ho)]at hk;simp[gO]at hk
 .have:o=⟨0,0⟩:=by simpa[cH]using ho
  subst this;exact⟨adq _,by show(0:Int)<=64;omega⟩
 .rw[hm o ho];simp[gO]
 .have one:∀(i:Nat)d,(cH.l.map vW)[i]? =some d->i=0/\d=vW gO:=λi d hd=>by
   match i,hd with
   |0,hd=>cases hd;exact⟨rfl,rfl⟩
   |n+1,hd=>simp[cH]at hd
  refine⟨λi d hd hz=>?_,⟨vW gO,rfl,rfl,rfl,rfl⟩,λi d e hd he=>?_,λi i' d d' e e' hd yT he=>?_,λi d hd _=>?_,λi d hd hz=>?_,λi d hd=>?_,λi d hd=>?_⟩
  .rw[(one i d hd).2]at hz;simp[vW,gO]at hz
  .rw[(one i d hd).2]at he;cases he
  .rw[(one i d hd).2]at he;cases he
  .rw[(one i d hd).1];exact .aj
  .rw[(one i d hd).2]at hz;simp[vW,gO]at hz
  .rw[(one i d hd).2];exact .inr rfl
  .rw[(one i d hd).2,(one i d hd).1];exact .inl rfl
def pG(cs:List Cl):CV:= .rv (.one (.ah (.sl 9 (cs.map Cl.enc))))
def acT(al:List An):Dt:= .sl 4 (al.map An.enc)
def yp(k:Kr)(al:List An)(e:Int):CV:= .bx [jx k,.one (.ah (acT al)),cG e]
theorem l11:bz prog f11=some c11.er:=by kernel_rfl
theorem Py{cs:List Cl}{i:Nat}(h:i<cs.length):dA (cs.map Cl.enc) (i:Nat)=some (cs[i].enc):=by rw[bG,Tr,vR h];rfl
theorem IV{m:Mem}{e:Int}:cN m (.bx [.agg [.aM,.aM,.aM],.one .aM,cG e]) (yp nZ [] e):=by
 refine .bx rfl λi r r' h1 h2=>?_
 match i,h1,h2 with
 |0,h1,h2=>cases h1;cases h2;exact il
 |1,h1,h2=>cases h1;cases h2;exact .one (.aM 4)
 |2,h1,h2=>cases h1;cases h2;exact eZ.self rfl
 |n+3,h1,h2=>simp at h1
structure Ep(cs:List Cl):Prop where
 l:cs.length<=1048576
 d:∀c,c∈cs->c.data.length<=4194304
theorem Lj(l:List cU)(cs:List Cl)(eL:Ep cs):body Tryz.prog c11 [eK l,pG cs] []
  (λr m=>((cm l).1≠0->cN m r (yp nZ [] (cm l).1))/\((cm l).1=0->cs.length>80->cN m r (yp nZ [] 5))/\
   ((cm l).1=0->cs.length<=80->∃l',l'.Perm l/\gy l'/\cN m r (yp (kS (cZ l') cH cs) (aS (cZ l') cH cs) 0))):=by
 refine IQ l (λhw=>?_) (λhw l' hp hr=>?_)
 .refine bv (λhe=>?_) (λhe=>absurd he hw)
  refine⟨⟨rfl,trivial⟩,?_⟩;exact⟨λ_=>IV,λh=>absurd h hw,λh=>absurd h hw⟩
 .generalize hpg:cZ l'=prog;refine aP (λyK=>?_) (λyK=>?_)
  .have yK:cs.length>80:=by have yK:((cs.map Cl.enc).length:Int)>80:=yK;rw[N7]at yK;omega
   exact⟨λh=>absurd hw h,λ_ _=>IV,λ_ h=>om⟩
  have yK:cs.length<=80:=by have yK:¬((cs.map Cl.enc).length:Int)>80:=yK;rw[N7]at yK;omega
  refine IS ?_;refine ba (λi=>i<=cs.length) [4,7,9,31,32] (λi=>[(33,an .i64 (i:Nat)),(10,.rv (.one (.row 3 4 0 none)))])
   (λi=>[.var [.aM,.aM,.aM],.var [.ah (.val (.int .i64 0)),.ah (.val (.int .i64 0))],kB (kS prog cH (cs.take i)),.row 4 (aa ((aS prog cH (cs.take i)).map An.enc))]) (λi=>cs.length-i) 0 (aav _) ?_ (λi hi=>?_)
  .refine View.trans (View.aM 10 4 3 rfl rfl rfl) (View.o1 4 [0,1,2,3] [] ?_)
   .exact .au
  have hi:i<=cs.length:=hi;refine aP (λh=>?_) (λh=>?_)
  .have aD:i<cs.length:=by have h:(i:Int)<((cs.map Cl.enc).length:Int):=h;rw[N7]at h;omega
   have EU:=KI.kS (prog:=prog) (cs.take i) B3;have ht:cs.take (i+1)=cs.take i++ [cs[i]]:=qy (vR aD);have ES:=IT prog cH (cs.take i) cs[i];have has:=IU prog cH (cs.take i) cs[i];rw[<-ht]at ES has;have Uh:(aS prog cH (cs.take i)).length<=80:=by rw[Px,aaE];omega
   refine af (Py aD) ?_;refine Pi prog (kS prog cH (cs.take i)) EU cs[i] (eL.d _ (aay aD)) ?_;generalize gF prog (kS prog cH (cs.take i)) cs[i]=D at ES has;obtain⟨k2,a2⟩:=D;refine⟨by simp only[b7,aa,N7,aar,abm];omega,?_⟩
   refine⟨i+1,aD,(show cs.length-(i+1)<cs.length-i by omega),View.o2 9 [0,1,2,8] [] ?_⟩
   .rw[ES,has,abn];exact .pe rfl rfl rfl (.pe rfl rfl rfl (.pt rfl rfl (.eq rfl (YI _)) (.pt rfl rfl (.bM (dg (List.map An.enc _) (List.map An.enc [_])).symm) (.nil _))))
  .have lY:i=cs.length:=by have h:¬(i:Int)<((cs.map Cl.enc).length:Int):=h;rw[N7]at h;omega
   subst lY;rw[aaZ];subst hpg;refine⟨λh=>absurd hw h,λ_ h=>om,λ_ _=>⟨l',hp,hr,?_⟩⟩
   refine .bx rfl λi r r' h1 h2=>?_
   match i,h1,h2 with
   |0,h1,h2=>cases h1;cases h2;exact eZ.self (Bt (Kn.kS (cZ l') cH cs))
   |1,h1,h2=>cases h1;cases h2;exact .one (ff.fg (ds:=(aS (cZ l') cH cs).map An.enc) rfl 0 none)
   |2,h1,h2=>cases h1;cases h2;exact eZ.self rfl
   |n+3,h1,h2=>simp at h1
theorem B4(l:List cU)(cs:List Cl)(eL:Ep cs){m:Mem}{K:CV->Mem->Prop}(h1:(cm l).1≠0->K (yp nZ [] (cm l).1) m)(h2:(cm l).1=0->cs.length>80->K (yp nZ [] 5) m)(h3:(cm l).1=0->cs.length<=80->∀l',l'.Perm l->gy l'->K (yp (kS (cZ l') cH cs) (aS (cZ l') cH cs) 0) m):aq prog 11 [eK l,pG cs] m K:=
 bi (cj func11 l11 (Lj l cs eL)) (by simp[eK,pG,CV.dC,CC.dC,RV.dC]) λr m1 hf=>by
  by_cases hw:(cm l).1=0
  .by_cases h8:cs.length<=80
   .obtain⟨l',hp,hr,hf⟩:=hf.2.2 hw h8;exact⟨_,hf,h3 hw h8 l' hp hr⟩
   .exact⟨_,hf.2.1 hw om,h2 hw om⟩
  .exact⟨_,hf.1 hw,h1 hw⟩
end Kn
namespace Kn
def clN:Cl:=⟨0,0,0,0,0,0,0,[],[]⟩
end Kn
namespace Kn
def kE(k:Kr):List Dt:=kC k.l k.ops k.ps
structure Y8(cs:List Cl):Prop where
 l:cs.length<=1048576
 d:∀c,c∈cs->c.data.length<=4194304
end Kn
namespace Kn
theorem B5{prog:List dv}{k:Kr}{c:Cl}(h:(gF prog k c).2.fp≠0):∃e,gF prog k c=(k,An.no e):=by
 unfold gF at h|-;split
 .exact⟨_,rfl⟩
 rename_i h1;rw[if_neg h1]at h;split
 .exact⟨_,rfl⟩
 rename_i h2;rw[if_neg h2]at h;split
 .exact⟨_,rfl⟩
 rename_i h3;rw[if_neg h3]at h;unfold Qh at h|-;split
 .exact⟨_,rfl⟩
 rename_i h4;rw[if_neg h4]at h;exact absurd h h4
end Kn
namespace Kn
def nE(k v:Int):ME:=⟨.int .i64 k,.one (.ah (.val (.int .i64 v)))⟩
theorem R1(x:BitVec 64):BitVec.ofInt 64 (IntKind.i64.wrap (x.toNat:Int))=x:=by
 apply BitVec.eq_of_toNat_eq;have:=x.isLt;simp only[IntKind.wrap,IntKind.signed,IntKind.bits,BitVec.toNat_ofInt];simp only[adC,decide_eq_true_eq];split<;>omega
theorem Hr{a b:Int}:Tb.fc a b=true↔BitVec.ofInt 64 a&&& ~~~ BitVec.ofInt 64 b=0#64:=by
 unfold Tb.fc;generalize BitVec.ofInt 64 a&&& ~~~ BitVec.ofInt 64 b=x;constructor
 .intro h;have h:IntKind.i64.wrap (x.toNat:Int)=0:=by simpa using h
  have e:=R1 x;rw[h]at e;rw[<-e];rfl
 .intro h;rw[h];decide
theorem uJ{prog:List dv}{k:Kr}{c:Cl}(h:(gF prog k c).2.fp=0):∃p:Nat,c.be=p/\∃hp:p<k.ps.length,k.ps[p].aO=true/\1<=c.ag/\c.ag<=22/\(fE k p c).2.fp=0/\gF prog k c=(fa (fE k p c).1,(fE k p c).2):=by
 unfold gF at h|-;split at h
 .cases h
 rename_i h1;split at h
 .cases h
 rename_i h2;split at h
 .cases h
 rename_i h3;obtain⟨p,hc,hp,hl⟩:=pl (by simpa using h1)
 unfold Qh at h|-;split at h
 .rename_i h4;exact absurd h h4
 rename_i h4;rw[hc,ZW]at h h3 h4;rw[hc]at h1;refine⟨p,hc,hp,hl,om,om,h,?_⟩;rw[hc,if_neg h1,if_neg h2,ZW,if_neg h3,if_neg h4]
end Kn
namespace Kn
def LY(k:Kr):Prop:=fa k=k
theorem KI.NJ{k:Kr}(h:KI k):LY (fa k):=by obtain⟨a,c,h1,h2,h3⟩:=(gp h.kr).ex;obtain⟨b,hb⟩:=h2.left;obtain⟨a2,c2,g1,g2,g3⟩:=(gp h.O8.kr).ex;exact h3.NJ hb g1 g2 g3
theorem IW{k:Kr}(h:KI k):∃(y:Kr)(en:Bool),cW k.l k.ops k.ps y.l y.ops y.ps en:=by
 obtain⟨a,c,h1,h2,h3⟩:=(gp h.kr).ex;rcases Bp h1 with rfl|⟨x,hx,_⟩
 .exact⟨c,_,h2⟩
 .exact⟨x,_,hx⟩
theorem LY.left{k:Kr}(hs:LY k)(h:KI k):∃b,Left k b:=by obtain⟨a,c,h1,h2,h3⟩:=(gp h.kr).ex;unfold LY at hs;rw[hs]at h3;obtain⟨b,hb⟩:=h2.left;obtain⟨y,en,hy⟩:=IW h;obtain⟨e1,e2,e3,rfl⟩:=h3.J2 hb hy;rw[e1,e2,e3]at hy;exact hy.left
theorem KI.Y9{x:Kr}(h:KI x)(hm:∀b,g9 x.l x.ops x.ps b->(∀(i:Nat)o,x.l[i]? =some o->o.ag≠0->dz b.O i)/\(∀(i:Nat)o,x.ops[i]? =some o->¬dz b.P i->o=⟨-1,0⟩))(he:∀(t:Nat)y,x.ps[t]? =some y->iQ x.l t y=false):fa x=J6 x:=by
 obtain⟨y,en,hy⟩:=IW h;have hid:y.l=x.l/\y.ops=x.ops/\y.ps=x.ps/\en=false:=by
  obtain⟨bd,hbd,hP1,Cw⟩:=hy.ex;obtain⟨m1,m2⟩:=hm bd hbd;have js:∀i,e8 bd x.l i=false:=λi=>by
   unfold e8;cases hi:x.l[i]? with
   |none=>rfl
   |some o=>
    by_cases hk:o.ag=0
    .simp[hk]
    .have:bd.O[i]? =some true:=m1 i o hi hk;simp[this]
  have hL:y.l=x.l:=hP1.id λt o _=>by
   unfold cD;rw[js t];have:mA bd x.l x.l.length o.bs=false:=by unfold mA;rw[js];simp
   rw[this];simp
  have vQ:=hy.pr;have qA:=hy.en;rw[hL]at vQ qA;refine⟨hL,Cw.id λt o ho=>?_,vQ.id λt o ho=>?_,?_⟩
  .unfold Bl;split
   .rename_i hh;have hn:¬dz bd.P t:=by intro NH;have NH:bd.P[t]? =some true:=NH;simp[NH]at hh
    exact(m2 t o ho hn).symm
   .rfl
  .simp[yI,he t o ho]
  .rw[qA];cases kK:jw x.l x.ps x.ps.length with
   |false=>rfl
   |true=>
    unfold jw at kK;rw[abc]at kK;obtain⟨t,ht,Bn⟩:=kK;have HS:t<x.ps.length:=by simpa using ht
    rw[vR HS]at Bn;have Bn:iQ x.l t x.ps[t]=true:=Bn;rw[he t _ (vR HS)]at Bn;cases Bn
 obtain⟨e1,e2,e3,rfl⟩:=hid;rw[e1,e2,e3]at hy;exact J3.AV (gp h.kr) ⟨x,x,.refl,hy,Gb x⟩
theorem Er{x:Kr}{t:Nat}{y:bl}(hy:x.ps[t]? =some y)(hl:y.aO=true):(J6 x).ps[t]? =some y:=by
 obtain⟨n1,n2,n3,P,t1,t2,hP,t3,e⟩:=(Gb x).ex;rw[e];have zY:P[t]? =some y:=by rw[hP.2 t y hy];unfold tx qZ;simp[hl]
 show(P.take n3)[t]? =some y;rcases aag t n3 with a|a
 .rw[abZ a];exact zY
 .have:=t3.t.dr t y a zY;unfold qR at this;simp[hl]at this
theorem yq{l:List eA}{o r:Int}(h:(fw l o r).2.2=0):(⟨true,o,r⟩:eA)∈(fw l o r).1/\∀s,s∈l->s.has=true->s∈(fw l o r).1:=by
 unfold fw at h|-;simp only[]at h|-;unfold Tb.iS at h|-;split at h
 .cases h
 rename_i h1;rw[if_neg h1];split
 .rename_i k hk;obtain⟨a1,a2,a3⟩:=aaV.1 hk;refine⟨aaz.2 ⟨⟨true,⟨o,r⟩⟩,List.mem_set a1 _,rfl⟩,λs hs hh=>?_⟩
  refine aaz.2 ⟨i7 s,?_,rfl⟩;obtain⟨i,hi⟩:=aab (adP (f:=i7) hs);refine Tu (i:=i) ?_;rw[U9 λe=>?_]
  .exact hi
  .subst e;rw[vR a1]at hi;rw[adN hi]at a2;simp[i7,hh]at a2
 .rename_i hk;rw[hk]at h;simp only[]at h;split at h
  .cases h
  rename_i h2;rw[if_neg h2];refine⟨aaz.2 ⟨⟨true,⟨o,r⟩⟩,aC,rfl⟩,λs hs hh=>aaz.2 ⟨i7 s,?_,rfl⟩⟩
  exact adO _ (adP hs)
structure TM(k:Kr)(p:Nat)(x:bl)(bp bX:Int)(R:Kr)(i:Nat)(S:List eA):Prop where
 l:R.l=k.l
 o:∀m:Nat,R.ops[m]? =if m=i then some ⟨bp,0⟩else k.ops[m]?
 yP:∀o,k.ops[i]? =some o->o.bp<0
 ps:R.ps=cS k.ps p S
 new:(⟨true,i,bX⟩:eA)∈S
 old:∀s,s∈x.aQ->s.has=true->s∈S
 all:∀s,s∈S->s∈x.aQ\/s=⟨true,i,bX⟩
theorem ji{k:Kr}{p:Nat}{x:bl}(hp:k.ps[p]? =some x){bp bX:Int}(he:(aE k p bp bX).2.2=0):∃i S,TM k p x bp bX (aE k p bp bX).1 i S:=by
 have ui:ap k.ps p=x.aQ:=by rw[ap,hp]
 unfold aE at he|-;split at he
 .cases he
 rename_i h1;rw[if_neg h1];split at he
 .rename_i h2;exact absurd he h2
 rename_i h2;rw[if_neg h2];have h2:(fw (ap k.ps p) (cY k.ops) bX).2.2=0:=Yl h2;rw[ui]at h2|-;obtain⟨c1,c2,c3⟩:=oe h2;obtain⟨d1,d2⟩:=yq h2;refine⟨cY k.ops,(fw x.aQ (cY k.ops) bX).1,rfl,λn=>?_,λo hx=>?_,rfl,d1,d2,c3⟩
 .show(jy k.ops (cY k.ops) ⟨bp,0⟩)[n]? =_;unfold jy;split
  .rename_i e;rw[e];by_cases hn:n=k.ops.length
   .subst hn;rw[if_pos rfl,Y5 (Yj _)];simp
   .rw[if_neg hn];rcases aag n k.ops.length with a|a
    .exact aad a
    .rw[Y5 a,aaH a];cases e2:n-k.ops.length with
     |zero=>omega
     |succ m=>rfl
  .rename_i e;have hi:cY k.ops<k.ops.length\/cY k.ops=k.ops.length:=by
    unfold cY;cases hf:EX k.ops with
    |none=>exact .inr rfl
    |some i=>exact .inl (Bw hf)
   have aD:cY k.ops<k.ops.length:=om;by_cases hn:n=cY k.ops
   .subst hn;rw[if_pos rfl,TK aD]
   .rw[if_neg hn,U9 (λa=>hn a.symm)]
 .unfold cY at hx;cases hf:EX k.ops with
  |none=>
   rw[hf]at hx;rw[show(none:Option Nat).getD k.ops.length=k.ops.length from rfl,aaH (Yj _)]at hx;cases hx
  |some i=>
   rw[hf]at hx;obtain⟨a1,a2,_⟩:=aaV.1 hf;rw[show(some i).getD k.ops.length=i from rfl,vR a1]at hx;cases hx;simpa using a2
theorem kj{ps:List bl}{p t:Nat}(h:t≠p)(l:List eA):(cS ps p l)[t]? =ps[t]? :=by
 unfold cS;split
 .exact U9 λe=>h e.symm
 .rfl
theorem KI.Za{k:Kr}(h:KI k){b:Mk}(hb:g9 k.l k.ops k.ps b){c:Nat}(hc:dz b.P c){o:bI}(ho:k.ops[c]? =some o):0<=o.bp:=by
 have cap:∀(z r:Int),fP k z r->∀c,vP k.ops z c->∀o,k.ops[c]? =some o->0<=o.bp:=λz r hz c hv o ho=>by obtain⟨-,n,o',rfl,h1,j,x,h2,-⟩:=hz;have e:(n:Int)=c:=hv.1;have:n=c:=om;subst this;rw[h1]at ho;cases ho;omega
 have iU:=hb.ov (λ_=>True) (λc=>∀o,k.ops[c]? =some o->0<=o.bp) ⟨λ_ _ _ _ _ _ _ _=>trivial,λi o _ ho z c hz hv=>?_,λ_ _ _ _ _ _=>trivial⟩ ⟨λ_ _=>trivial,λp pr hp bK s hs hh c hv=>?_⟩
 .exact iU.2 c hc o ho
 .obtain⟨q,hq,hh,rfl⟩:=hz;exact cap _ _ (h.qu o (Tu ho) q hq hh) c hv
 .exact cap _ _ (h.cap pr (Tu hp) s hs hh) c hv
end Kn
namespace Kn
theorem B6(k:Kr)(l:List Obj)(e:Int):(bF k l e).ps=k.ps:=by unfold bF;split<;>rfl
theorem uK(k:Kr)(f:R4)(o:Obj):(ce k f o).1.ps=k.ps:=by
 unfold ce;split
 .rfl
 .exact B6 _ _ _
theorem Ll(k:Kr)(c:Cl)(f:R4):(bW k c f).1.ps=k.ps:=by
 unfold bW;split
 .rfl
 split
 .split
  .rfl
  .exact uK _ _ _
 split
 .rfl
 .rfl
theorem Pz(k:Kr)(p:Nat)(c:Cl):(gd k p c).1.ps=k.ps:=by
 unfold gd kF;split
 .rfl
 split
 .unfold pB;split<;>rfl
 split
 .unfold mP;split<;>rfl
 .unfold oc;split<;>rfl
theorem R2(k:Kr)(p:Nat)(c:Cl):(iJ k p c).1.ps=k.ps:=by
 unfold iJ OL im;simp only[];split
 .rfl
 split
 .rfl
 unfold mC;split
 .rfl
 split
 .rfl
 split
 .split
  .rfl
  .exact B6 _ _ _
 split
 .rfl
 split
 .exact uK _ _ _
 .exact uK _ _ _
theorem R3(k:Kr)(p:Nat)(c:Cl):(iK k p c).1.ps=k.ps:=by
 unfold iK vu;split
 .rfl
 unfold ta;split
 .split
  .rfl
  .exact B6 _ _ _
 .exact B6 _ _ _
theorem Es{k:Kr}(h:KI k):i5 k.ps (fa k).ps:=by obtain⟨a,c,h1,h2,h3⟩:=(gp h.kr).ex;exact(xw h.kr h1 h2 h3).2.1
theorem R5{prog:List dv}{k:Kr}(h:KI k)(hs:LY k)(c:Cl):LY (gF prog k c).1:=by
 by_cases he:(gF prog k c).2.fp=0
 .obtain⟨p,hc,hp,hl,-,-,ho,e⟩:=uJ he;rw[e];exact(h.op (vR hp) hl (c:=c) ho).NJ
 .obtain⟨e,h2⟩:=B5 he;rw[h2];exact hs
theorem PA:LY cH:=by unfold LY;kernel_rfl
end Kn
namespace Kn
structure Sp where
 c:Int
 p:Int
 s:Int
 h:Int
 f:Int
 g:Int
 r:Int
 o:Int
def Sp.enc(x:Sp):List Dt:=[.val (.int .i64 x.c),.val (.int .i64 x.p),.val (.int .i64 x.s),.val (.int .i64 x.h),.val (.int .i64 x.f),.val (.int .i64 x.g),.val (.int .i64 x.r),.val (.int .i64 x.o)]
abbrev Wt:=List (Int×List (Int×Int))
def wE(e:Int×Int):List Dt:=[.val (.int .i64 e.1),.val (.int .i64 e.2)]
def wM(e:Int×List (Int×Int)):MO:=⟨.int .i64 e.1,.ei (e.2.map wE)⟩
def pH(W:Wt):List MO:=W.map wM
def gG(x:Int):Wt->Option (List (Int×Int))
 | []=>none
 |e::r=>if x=e.1 then some e.2 else gG x r
def E5(x:Int):Wt->Nat->Option (Nat×List (Int×Int))
 | [],_=>none
 |e::r,n=>if x=e.1 then some (n,e.2)else E5 x r (n+1)
def jO(x:Int)(v:List (Int×Int)):Wt->Wt
 | []=>[(x,v)]
 |e::r=>if x=e.1 then(x,v)::r else e::jO x v r
def gk(l:List Obj)(x:Int):Bool:=match l[x.toNat]? with|some o=>decide (o.ag=4)|none=>false
def tk(l:List Obj)(W:Wt):Wt:=W.filter λe=>gk l e.1
def d7(k:Kr)(c:Int)(p:Nat)(fd h f g:Int):List Sp:=
 if(c7 (ap k.ps p) fd).2≠0 then []else [⟨c,p,fd,h,f,g,(c7 (ap k.ps p) fd).1.2,dM k.ops (c7 (ap k.ps p) fd).1.1⟩]
def lU(l:List Obj)(z:Int):Int:=match l[z.toNat]? with|some o=>o.bs|none=>0
def lV(k:Kr)(p:Nat)(fd:Int):Int:=dM k.ops (c7 (ap k.ps p) fd).1.1
def B7(l:List eA):List Int:=Tb.nY 0 (l.map i7)
def fQ(k:Kr)(c:Int)(n:Nat)(f:Int)(L:List Int):List Sp:=L.flatMap λfd=>d7 k c n fd 3 f fd
def dV(i:Int)(p:Nat)(c:Cl)(a:An)(b k:Kr)(W:Wt):Wt×List Sp:=
 if c.ag=2 then(W,d7 k i p a.n 1 (-1) 0)
 else if c.ag=3\/c.ag=8 then(W,d7 k i p a.n 3 c.be c.fd)
 else if c.ag=9 then(W,d7 k i p c.fd 3 c.be c.fd)
 else if c.ag=15 then(W,d7 k i p a.n 2 (-1) 0++d7 k i p a.m 2 (-1) 0)
 else if c.ag=16 then(jO (lU b.l (lV b p c.fd)) ((gG (lU b.l (lV b p c.fd)) W).getD []++ [(c.be,c.fY)]) W,[])
 else if c.ag=17 then
  (match gG (lV b p c.fd) W with
   |some (x::r)=>(jO (lV b p c.fd) r W,if a.m>=0 then d7 k i p a.m 3 x.1 x.2 else [])
   |_=>(W,[]))
 else if c.ag=18 then(W,fQ k i a.n.toNat c.be (B7 (ap b.ps p))++d7 k i p a.m 2 (-1) 0)
 else(W,[])
structure Gs where
 k:Kr
 W:Wt
 out:List Sp
def km(prog:List dv)(i:Nat)(c:Cl)(g:Gs):Gs:=
 let d:=gF prog g.k c;let s:=if d.2.fp=0 then dV i c.be.toNat c d.2 g.k d.1 g.W else(g.W,[])
 ⟨d.1,tk d.1.l s.1,g.out++s.2⟩
def kH(prog:List dv)(g:Gs):Nat->List Cl->Gs
 |_,[]=>g
 |i,c::r=>kH prog (km prog i c g) (i+1) r
theorem Aw(prog:List dv):∀(cs:List Cl)(g:Gs)(i:Nat)(c:Cl),kH prog g i (cs++ [c])=km prog (i+cs.length) c (kH prog g i cs)
 | [],g,i,c=>rfl
 |x::r,g,i,c=>by
  show kH prog (km prog i x g) (i+1) (r++ [c])=_;rw[Aw prog r];show km prog (i+1+r.length) c _=km prog (i+(r.length+1)) c _;rw[show i+1+r.length=i+(r.length+1) by omega]
  rfl
theorem PB(prog:List dv):∀(cs:List Cl)(g:Gs)(i:Nat),(kH prog g i cs).k=kS prog g.k cs
 | [],_,_=>rfl
 |c::r,g,i=>PB prog r (km prog i c g) (i+1)
theorem tm(x:Int):∀(W:Wt)(n:Nat),iV (.int .i64 x) (pH W) n=some ((E5 x W n).map λe=>(e.1,.ei (e.2.map wE)))
 | [],n=>rfl
 |e::r,n=>by
  have hq:gz (.int .i64 x) (wM e).key=some (x==e.1):=rfl;show(match gz (.int .i64 x) (wM e).key with|some true=>some (some (n,(wM e).val))|some false=>iV (.int .i64 x) (pH r) (n+1)|none=>none)=_
  rw[hq];by_cases h:x=e.1
  .rw[show(x==e.1)=true by simpa using h,E5,if_pos h];rfl
  .rw[show(x==e.1)=false by simpa using h,E5,if_neg h]
   exact tm x r (n+1)
theorem B8(x:Int):∀(W:Wt)(n:Nat),(E5 x W n).map (·.2)=gG x W
 | [],_=>rfl
 |e::r,n=>by
  rw[E5,gG];split
  .rfl
  .exact B8 x r (n+1)
theorem B9(x:Int):∀(W:Wt)(n i:Nat)(v:List (Int×Int)),E5 x W n=some (i,v)->n<=i/\W[i-n]? =some (x,v)
 | [],_,_,_,h=>by cases h
 |e::r,n,i,v,h=>by
  rw[E5]at h;split at h
  .rename_i hx;cases h;exact⟨Yj _,by obtain⟨a,b⟩:=e;simp at hx|-;exact hx.symm⟩
  .obtain⟨h1,h2⟩:=B9 x r (n+1) i v h;exact⟨om,by rw[show i-n=(i-(n+1))+1 by omega];exact h2⟩
theorem IX(x:Int)(v:List (Int×Int)):∀W:Wt,mU (.int .i64 x) (.ei (v.map wE)) (pH W)=some (pH (jO x v W))
 | []=>rfl
 |e::r=>by
  have ih:=IX x v r;rw[pH]at ih;rw[pH,aaR,jO,mU,show gz (.int .i64 x) (wM e).key=some (x==e.1)from rfl];by_cases h:x=e.1
  .rw[show(x==e.1)=true by simpa using h,if_pos h];rfl
  .rw[show(x==e.1)=false by simpa using h,if_neg h]
   simp only;rw[ih];rfl
theorem Ca(x:Int)(v:List (Int×Int))(m:MV):∀(W:Wt)(n i:Nat)(u:List (Int×Int)),E5 x W n=some (i,u)->
  mU (.int .i64 x) (.ei (v.map wE)) ((pH W).set (i-n) ⟨.int .i64 x,m⟩)=some (pH (jO x v W))
 | [],_,_,_,h=>by cases h
 |e::r,n,i,u,h=>by
  rw[E5]at h;split at h
  .rename_i hx;cases h;rw[ac6,pH,aaR,adV,jO,if_pos hx,mU,show gz (.int .i64 x) (.int .i64 x)=some (x==x)from rfl,show(x==x)=true by simp]
   rfl
  .rename_i hx;obtain⟨h1,h2⟩:=B9 x r (n+1) i u h;have ih:=Ca x v m r (n+1) i u h;rw[pH]at ih;rw[pH,aaR,show i-n=(i-(n+1))+1 by omega,List.set_cons_succ,jO,if_neg hx,mU,show gz (.int .i64 x) (wM e).key=some (x==e.1)from rfl,show(x==e.1)=false by simpa using hx]
   simp only;rw[ih];rfl
theorem Et(x:Int)(m:MV):∀(W:Wt)(n i:Nat)(u:List (Int×Int)),E5 x W n=some (i,u)->iV (.int .i64 x) ((pH W).set (i-n) ⟨.int .i64 x,m⟩) n=some (some (i,m))
 | [],_,_,_,h=>by cases h
 |e::r,n,i,u,h=>by
  rw[E5]at h;split at h
  .rename_i hx;cases h;rw[ac6,pH,aaR,adV,iV,show gz (.int .i64 x) (.int .i64 x)=some (x==x)from rfl,show(x==x)=true by simp]
  .rename_i hx;obtain⟨h1,h2⟩:=B9 x r (n+1) i u h;have ih:=Et x m r (n+1) i u h;rw[pH]at ih;rw[pH,aaR,show i-n=(i-(n+1))+1 by omega,List.set_cons_succ,iV,show gz (.int .i64 x) (wM e).key=some (x==e.1)from rfl,show(x==e.1)=false by simpa using hx]
   exact ih
end Kn
def c42:LF:= ⟨60,[],(.seq (.ai [qm 17 0,qu 18 (.aR 17),qf 19 0 18,qf 20 2 19,ql 21 20,qm 22 2,qu 23 (.cw 4 21 22),qf 24 3 23,ql 25 24,qm 26 3,qu 27 (qc 73 [25,26]),qm 16 27,qu 28 (.ext 16 0),qu 29 (.ext 16 1),qu 14 (.alloc [qd 0,qd 0]),qw (.store 2 14 28),qm 15 29]) (.seq (.seq (.ai [qm 30 15,qu 31 (.aL .neq 30 (qi 0))]) (.cond 31 .ret .skip)) (.bV [qm 32 0,qm 33 0,qu 34 (.aR 33),qf 35 4 34,ql 36 35,qm 37 1,qm 38 2,qm 39 3,qm 40 4,qm 41 5,qm 42 6,qf 43 1 14,ql 44 43,qm 45 0,qu 46 (.aR 45),qf 47 0 46,qf 48 1 47,ql 49 48,qf 50 0 14,ql 51 50,qu 52 (.cw 2 49 51),qf 53 0 52,ql 54 53,qu 55 (.build [qd 0,qd 0,qd 0,qd 0,qd 0,qd 0,qd 0,qd 0] [(0,1,37),(1,1,38),(2,1,39),(3,1,40),(4,1,41),(5,1,42),(6,1,44),(7,1,54)]),qu 56 (.nI 8 [qd 0,qd 0,qd 0,qd 0,qd 0,qd 0,qd 0,qd 0] 1 [(0,55)]),qu 57 (.oL 8 64 36 56),qu 58 (.aR 32),qf 59 4 58,qw (.store 1 59 57)] [(eE 24 0 (.cons 24 (some [4]) (.cons 25 (some []) (.cons 26 none (.cons 27 none (.cons 28 (some []) .nil))))))])))⟩
def c43:LF:= ⟨42,[.tmp 6,.tmp 7],(.seq (.ai [qu 6 (.aN (qi 0)),qu 7 (.aN (qi 0))]) (.seq (.ai [qm 12 0,qu 13 (.aR 12),qf 14 2 13,ql 15 14,qm 16 1,qu 17 (.cw 4 15 16),qf 18 3 17,ql 19 18,qm 20 2,qu 21 (qc 73 [19,20]),qm 11 21,qu 22 (.ext 11 0),qu 23 (.ext 11 1),qu 8 (.alloc [qd 0,qd 0]),qw (.store 2 8 22),qm 9 23]) (.seq (.bV [qm 24 0,qu 25 (.aR 24),qf 26 1 25,ql 27 26,qf 28 0 8,ql 29 28,qu 30 (.cw 2 27 29),qf 31 0 30,ql 32 31,qm 10 32] [eE 10 0 .nil]) (.seq (.bV [qm 33 10,qm 34 0,qu 35 (.aR 34),qf 36 0 35,ql 37 36,qm 38 10,qu 39 (.cw 9 37 38),qf 40 4 39,ql 41 40,qm 6 33,qm 7 41] [eE 11 0 .nil]) .ret))))⟩
namespace Kn
def gB(k:Kr)(i j:Nat):Bk:= .var [.ah (dt k.l),.ah (fh k.ops),.ah (gE k.ps),.map i,.row j 8 0 none]
def fb(l:List Sp):Bk:= .row 8 (aa (l.map Sp.enc))
theorem jA(k:Kr)(i j:Nat):gB k i j≠.aU:=by intro h;cases h
theorem KI.c7{k:Kr}(hk:KI k){p:Nat}(hp:p<k.ps.length){fd:Int}(h:(c7 (ap k.ps p) fd).2=0):∃(n j:Nat),(Kn.c7 (ap k.ps p) fd).1.1=n/\n<k.ops.length/\dM k.ops n=j/\j<k.l.length:=by
 obtain⟨i,s,_,hs,hh,he,_⟩:=jN h;have hs:=Tu hs;rw[eD hp]at hs;obtain⟨_,n,o,h1,h2,h3⟩:=hk.cap _ (aay hp) s hs hh;obtain⟨j,h4,h5⟩:∃j:Nat,o.bp=j/\j<k.l.length:=by obtain⟨j,x,h4,h5,_⟩:=h3;exact⟨j,h4,(Ki.1 h5).1⟩
 refine⟨n,j,by rw[he];exact h1,(Ki.1 h2).1,?_,h5⟩
 rw[dM,ZW,h2];exact h4
def lW(W:Wt):Bk:= .mo 2 (pH W) none
theorem IY(Y:Nat->Nat)(W:Wt):(pH W).map (MO.bh Y)=pH W:=by rw[pH,abJ];rfl
theorem fI(Y:Nat->Nat)(W:Wt):(lW W).bh Y=lW W:=by show Bk.mo 2 ((pH W).map (MO.bh Y)) none=_;rw[IY];rfl
theorem jP(W:Wt):lW W≠.aU:=by intro h;cases h
def CQ(k:Kr)(W:Wt)(l:List Sp)(T:List Sp)(r:CV)(m:Mem):Prop:=
 ∃r' m',View 3 ⟨[r],m⟩ ⟨[r'],m'⟩/\r'= .bx []/\((T=[]/\m'=[gB k 1 2,lW W,fb l])\/(∃x,T=[x]/\m'=[gB k 1 3,lW W,.aU,fb (l++ [x])]))
theorem l42:bz prog f42=some c42.er:=by kernel_rfl
theorem Lm(k:Kr)(hk:KI k)(W:Wt)(l:List Sp)(hl:l.length<=100000)(c:Int)(p:Nat)(hp:p<k.ps.length)(fd h f g:Int):
  body prog c42 [.rv (.one (.ptr 0 0)),an .i64 c,an .i64 (p:Nat),an .i64 fd,an .i64 h,an .i64 f,an .i64 g] [gB k 1 2,lW W,fb l] (CQ k W l (d7 k c p fd h f g)):=by
 have hg:=dJ hp;rw[<-eD hp]at hg;have hc:d7 k c p fd h f g=if(c7 (ap k.ps p) fd).2≠0 then []else [⟨c,p,fd,h,f,g,(c7 (ap k.ps p) fd).1.2,dM k.ops (c7 (ap k.ps p) fd).1.1⟩]:=rfl
 rw[hc];clear hc;have hh:= @KI.c7 k hk p hp fd;refine af hg ?_;refine BO _ fd ?_;generalize c7 (ap k.ps p) fd=w at hh|-;obtain⟨⟨o,r⟩,e⟩:=w;refine bv (λhe=>?_) (λhe=>?_)
 .have he:e≠0:=he;rw[if_pos he];exact⟨_,_,View.o 4 [0,1,2] [] (.eq rfl .nil) (.pt rfl rfl (.eq rfl (jA _ _ _)) (.pt rfl rfl (.eq (fI _ _) (jP _)) (.pn rfl rfl rfl))),rfl,.inl ⟨rfl,rfl⟩⟩
 .have he:e=0:=he;subst he;rw[if_neg aC];obtain⟨n,j,h1,h2,h3,h4⟩:=hh rfl;have h1:o=n:=h1;subst h1;have ho:dM k.ops (n:Int)=k.ops[n].bp:=by rw[dM,ZW,vR h2]
  refine af (nX h2) ?_;refine⟨⟨rfl,trivial⟩,?_⟩;refine⟨by simp only[b7,aa,N7,aar,abm];omega,trivial,trivial,?_⟩
  rw[show dM k.ops ((n:Int),r).1=k.ops[n].bp from ho];refine⟨_,[gB k 1 3,lW W,.aU,fb (l++ [⟨c,p,fd,h,f,g,r,k.ops[n].bp⟩])],View.o 6 [0,1,2,5] [] (.eq rfl .nil) (.pt rfl rfl (.eq rfl (jA _ _ _)) (.pt rfl rfl (.eq (fI _ _) (jP _)) (.aU (.pt rfl rfl ?_ (.nil _))))),rfl,.inr ⟨_,rfl,rfl⟩⟩;rw[fb,abn];exact .bM (dg (List.map Sp.enc l) (List.map Sp.enc [⟨c,p,fd,h,f,g,r,k.ops[n].bp⟩])).symm
theorem l43:bz prog f43=some c43.er:=by kernel_rfl
theorem PC(b:Kr)(hk:KI b)(p:Nat)(hp:p<b.ps.length)(fd:Int)(he:(c7 (ap b.ps p) fd).2=0):
  body prog c43 [.rv (.one (.ptr 0 0)),an .i64 (p:Nat),an .i64 fd] [kB b] (λr m=>r= .bx [cG (lV b p fd),cG (lU b.l (lV b p fd))]/\∃ex,m=kB b::ex):=by
 have hg:=dJ hp;rw[<-eD hp]at hg;rw[lV];have hh:= @KI.c7 b hk p hp fd he;refine af hg ?_;refine BO _ fd ?_;generalize c7 (ap b.ps p) fd=w at hh he|-;obtain⟨⟨o,r⟩,e⟩:=w;have he:e=0:=he;subst he;obtain⟨n,j,h1,h2,h3,h4⟩:=hh;have h1:o=n:=h1;subst h1;have ho:dM b.ops (n:Int)=b.ops[n].bp:=by rw[dM,ZW,vR h2]
 have ZQ:b.ops[n].bp=(j:Int):=by rw[<-ho];exact h3
 have yR:lU b.l (j:Nat)=b.l[j].bs:=by rw[lU,ZW,vR h4]
 refine af (nX h2) ?_;have hj:=Be h4;rw[<-ZQ]at hj;refine af hj ?_;show _=CV.bx [cG (dM b.ops (n:Int)),cG (lU b.l (dM b.ops (n:Int)))]/\_;rw[h3,yR,ZQ];exact⟨rfl,_,rfl⟩
end Kn
def c20:LF:= ⟨200,[],(.seq (.ai [qm 18 2,qu 19 (.aR 18),qf 20 0 19,ql 21 20,qm 10 21]) (.seq (.ai [qm 22 2,qu 23 (.aR 22),qf 24 1 23,ql 25 24]) (.block 0 (.seq (.ai [qu 27 (.aL .eql 25 (qi 2)),qm 26 27]) (.cond 26 (.ai [qm 28 0,qm 29 1,qm 30 10,qm 31 3,qu 32 (.aR 31),qf 33 1 32,ql 34 33,qu 35 (qc 42 [28,29,30,34,qi 1,(qi (-1)),qi 0])]) (.seq (.seq (.ai [qu 37 (.aL .eql 25 (qi 3)),qm 36 37]) (.cond 36 .skip (.ai [qu 38 (.aL .eql 25 (qi 8)),qm 36 38]))) (.cond 36 (.bV [qm 39 0,qm 40 1,qm 41 10,qm 42 3,qu 43 (.aR 42),qf 44 1 43,ql 45 44,qm 46 10,qm 47 2,qu 48 (.aR 47),qf 49 2 48,ql 50 49,qu 51 (qc 42 [39,40,41,45,qi 3,46,50])] [(eE 12 0 (.cons 12 (some []) .nil))]) (.seq (.ai [qu 53 (.aL .eql 25 (qi 9)),qm 52 53]) (.cond 52 (.bV [qm 54 0,qm 55 1,qm 56 10,qm 57 2,qu 58 (.aR 57),qf 59 2 58,ql 60 59,qm 61 10,qm 62 2,qu 63 (.aR 62),qf 64 2 63,ql 65 64,qu 66 (qc 42 [54,55,56,60,qi 3,61,65])] [(eE 12 0 (.cons 12 (some []) .nil))]) (.seq (.ai [qu 68 (.aL .eql 25 (qi 15)),qm 67 68]) (.cond 67 (.seq (.ai [qm 69 0,qm 70 1,qm 71 10,qm 72 3,qu 73 (.aR 72),qf 74 1 73,ql 75 74,qu 76 (qc 42 [69,70,71,75,qi 2,(qi (-1)),qi 0])]) (.ai [qm 77 0,qm 78 1,qm 79 10,qm 80 3,qu 81 (.aR 80),qf 82 2 81,ql 83 82,qu 84 (qc 42 [77,78,79,83,qi 2,(qi (-1)),qi 0])])) (.seq (.ai [qu 86 (.aL .eql 25 (qi 16)),qm 85 86]) (.cond 85 (.seq (.ai [qm 88 4,qm 89 10,qm 90 2,qu 91 (.aR 90),qf 92 2 91,ql 93 92,qu 94 (qc 43 [88,89,93]),qm 87 94,qu 95 (.ext 87 0),qu 96 (.ext 87 1),qm 11 95,qm 12 96]) (.bV [qm 97 0,qu 98 (.aR 97),qf 99 3 98,ql 100 99,qm 101 12,qm 102 0,qu 103 (.aR 102),qf 104 3 103,ql 105 104,qm 106 12,qu 107 (.yN (.one .aM) (.i .i64) 105 106 false),qm 108 10,qm 109 2,qu 110 (.aR 109),qf 111 3 110,ql 112 111,qu 113 (.build [qd 0,qd 0] [(0,1,108),(1,1,112)]),qu 114 (.nI 2 [qd 0,qd 0] 1 [(0,113)]),qu 115 (.oL 2 16 107 114),qw (.tz (.i .i64) 100 101 115)] [(eE 10 0 (eE 6 11 (.wm (.cons 10 (some [15,3]) (.cons 17 (some [8,3]) (.cons 18 (some [3]) (.cons 19 (some []) .nil)))) (.cons 17 (some [8,3]) (.cons 10 (some [15,3]) (.cons 18 (some [3]) (.cons 19 (some []) .nil)))))))])) (.seq (.ai [qu 117 (.aL .eql 25 (qi 17)),qm 116 117]) (.cond 116 (.seq (.ai [qm 119 4,qm 120 10,qm 121 2,qu 122 (.aR 121),qf 123 2 122,ql 124 123,qu 125 (qc 43 [119,120,124]),qm 118 125,qu 126 (.ext 118 0),qu 127 (.ext 118 1),qm 13 126,qm 14 127]) (.seq (.ai [qm 128 0,qu 129 (.aR 128),qf 130 3 129,ql 131 130,qm 132 13,qu 133 (.yN (.one .aM) (.i .i64) 131 132 false),qu 134 (.cw 2 133 (qi 0)),qL 135 2 134,qu 15 (.alloc [qd 0,qd 0]),qw (.store 2 15 135)]) (.seq (.bV [qm 136 0,qu 137 (.aR 136),qf 138 3 137,ql 139 138,qm 140 13,qm 141 0,qu 142 (.aR 141),qf 143 3 142,ql 144 143,qm 145 13,qu 146 (.yN (.one .aM) (.i .i64) 144 145 false),qu 147 (.oI 2 146 (some (qi 1)) none none),qw (.tz (.i .i64) 139 140 147)] [(eE 10 0 (.cons 10 (some [3]) (.cons 11 none (.cons 12 (some []) .nil))))]) (.seq (.ai [qm 148 3,qu 149 (.aR 148),qf 150 2 149,ql 151 150,qu 152 (.aL .geq 151 (qi 0))]) (.cond 152 (.bV [qm 153 0,qm 154 1,qm 155 10,qm 156 3,qu 157 (.aR 156),qf 158 2 157,ql 159 158,qf 160 0 15,ql 161 160,qf 162 1 15,ql 163 162,qu 164 (qc 42 [153,154,155,159,qi 3,161,163])] [(eE 11 0 (.cons 11 (some []) .nil))]) .skip))))) (.seq (.ai [qu 166 (.aL .eql 25 (qi 18)),qm 165 166]) (.cond 165 (.seq (.seq (.ai [qm 167 4,qu 168 (.aR 167),qf 169 2 168,ql 170 169,qm 171 10,qu 172 (.cw 4 170 171),qf 173 3 172,ql 174 173,qu 175 (qc 44 [174]),qu 176 (.len 1 175),qu 177 (.aN (qi 0))]) (.block 1 (.loop (.seq (.ai [qu 178 (.aL .lss 177 176)]) (.seq (.cond 178 .skip (.exit 1)) (.seq (.block 2 (.seq (.ai [qu 179 (.cw 1 175 177),ql 180 179,qm 17 180]) (.ai [qm 181 0,qm 182 1,qm 183 3,qu 184 (.aR 183),qf 185 1 184,ql 186 185,qm 187 17,qm 188 10,qm 189 17,qu 190 (qc 42 [181,182,186,187,qi 3,188,189])]))) (.ai [qu 191 (.aL .add 177 (qi 1)),qm 177 191]))))))) (.ai [qm 192 0,qm 193 1,qm 194 10,qm 195 3,qu 196 (.aR 195),qf 197 2 196,ql 198 197,qu 199 (qc 42 [192,193,194,198,qi 2,(qi (-1)),qi 0])])) .skip)))))))))))))))))⟩
namespace Kn
def aB(a:An):Bk:= .var (a.enc.map .ah)
theorem yr(a:An):aB a≠.aU:=by intro h;cases h
theorem fF(k:Kr):kB k≠.aU:=by intro h;cases h
theorem yu(Y:Nat->Nat)(l:List Sp):(fb l).bh Y=fb l:=Bk.jG _ _
theorem jV(k:Kr)(hk:KI k)(W:Wt)(l:List Sp)(hl:l.length<=100000)(c:Int)(z:Int)(p:Nat)(hz:z=p)(hp:p<k.ps.length)(fd h f g:Int){m:Mem}(R n:Nat)(hn:m.length=n)(hd:fL [0,1,R]=true)(ha:eR n [0,1,R]=true)(h0:cF m 0=some (gB k 1 R))(h1:cF m 1=some (lW W))(h2:cF m R=some (fb l)){K:CV->Mem->Prop}(Ut:d7 k c p fd h f g=[]->K (.bx []) (c9 m [0,1,R] [gB k 1 R,lW W,fb l]))(hK2:∀x,d7 k c p fd h f g=[x]->K (.bx []) (c9 m [0,1,R] [gB k 1 n,lW W,.aU,fb (l++ [x])])):
  aq prog 42 [.rv (.one (.ptr 0 0)),an .i64 c,an .i64 z,an .i64 fd,an .i64 h,an .i64 f,an .i64 g] m K:=by
 subst hz;refine bw [0,1,R] n hn rfl hd ha (args0:=[.rv (.one (.ptr 0 0)),an .i64 c,an .i64 (p:Nat),an .i64 fd,an .i64 h,an .i64 f,an .i64 g]) rfl (λi b' hi=>?_)
  (bL (cj func42 l42 (Lm k hk W l hl c p hp fd h f g)) λr m1⟨r',m',hv,hq⟩=>⟨r',m',hv,hq⟩) (λr1 m1 sr=>?_)
 .rw[aV]at h0 h1 h2
  match i,hi with
  |0,hi=>cases hi;exact .inr ⟨λh=>h,_,h0,.eq rfl (jA _ _ _)⟩
  |1,hi=>cases hi;exact .inr ⟨λh=>h,_,h1,.eq (fI _ _) (jP _)⟩
  |2,hi=>cases hi;exact .inr ⟨λh=>h,_,h2,.bM rfl⟩
  |i+3,hi=>simp at hi
 .obtain⟨rfl,⟨he,rfl⟩|⟨x,he,rfl⟩⟩:=sr
  .refine⟨Yj _,?_⟩;have:nh (sg [0,1,R] n) [gB k 1 2,lW W,fb l]=[gB k 1 R,lW W,fb l]:=by simp only[nh,fI,yu];rfl
   rw[this];exact Ut he
  .refine⟨aC,?_⟩;have:nh (sg [0,1,R] n) [gB k 1 3,lW W,.aU,fb (l++ [x])]=[gB k 1 n,lW W,.aU,fb (l++ [x])]:=by simp only[nh,fI,yu];rfl
   rw[this];exact hK2 x he
theorem PD(b:Kr)(hk:KI b)(z:Int)(p:Nat)(hz:z=p)(hp:p<b.ps.length)(fd:Int)(he:(c7 (ap b.ps p) fd).2=0){m:Mem}(id:Nat)(hb:cF m id=some (kB b)){K:CV->Mem->Prop}(hK:K (.bx [cG (lV b p fd),cG (lU b.l (lV b p fd))]) m):
  aq prog 43 [.rv (.one (.ptr id 0)),an .i64 z,an .i64 fd] m K:=by
 subst hz;exact fC (args0:=[.rv (.one (.ptr 0 0)),an .i64 (p:Nat),an .i64 fd]) (cs:=kC b.l b.ops b.ps) id hb rfl rfl
  (λ_ hK=>e7 rfl (cj func43 l43 (PC b hk p hp fd he)) hK) hK
theorem R6(l:List eA)(hl:l.length<=2097152){m:Mem}{K:CV->Mem->Prop}(h:K (Tb.NV (B7 l)) m):aq prog 44 [ma l] m K:=by
 rw[ut];exact Tb.UQ _ (by simpa using hl) h
def Ax(x:Int):Prop:=x=2\/x=3\/x=8\/x=9\/x=15\/x=17\/x=18
structure Cb(c:Cl)(a:An)(b k:Kr)(W:Wt)(p:Nat):Prop where
 kb:KI b
 kk:KI k
 pc:c.be=p
 pb:p<b.ps.length
 pk:Ax c.ag->p<k.ps.length
 Zb:c.ag=16\/c.ag=17->(c7 (ap b.ps p) c.fd).2=0
 ws:∀e,e∈W->e.2.length<=100000
 got:c.ag=17->∃x r,gG (lV b p c.fd) W=some (x::r)
 Zc:c.ag=18->∃n:Nat,a.n=n/\n<k.ps.length
def SQ(c:Cl)(a:An)(b k:Kr)(out:List Sp)(x:Wt×List Sp)(r:CV)(m:Mem):Prop:=
 ∃r' m',View 6 ⟨[r],m⟩ ⟨[r'],m'⟩/\r'= .bx []/\m'=[gB k 1 6,lW x.1,.aU,cB c,aB a,kB b,fb (out++x.2)]
theorem iq{c:Cl}{a:An}{b k:Kr}{W:Wt}{out:List Sp}{ex:Mem}(hx:eR (6+ex.length) [0,1,2,3,4,5]=true):SQ c a b k out (W,[]) (.bx []) ([gB k 1 2,lW W,fb out,cB c,aB a,kB b]++ex):=by
 refine⟨_,[gB k 1 6,lW W,.aU,cB c,aB a,kB b,fb out],View.of2 (6+ex.length) 2 [0,1,2,3,4,5] (by simp;omega) rfl rfl rfl rfl hx rfl rfl (.eq rfl .nil)
  (.pt rfl rfl (.eq rfl (jA _ _ _)) (.pt rfl rfl (.eq (fI _ _) (jP _)) (.aU (.pt rfl rfl (.eq rfl (jz _)) (.pt rfl rfl (.eq rfl (yr _)) (.pt rfl rfl (.eq rfl (fF _)) (.pn rfl rfl rfl))))))),rfl,?_⟩
 rw[abV]
theorem mR{c:Cl}{a:An}{b k:Kr}{W:Wt}{out T:List Sp}{m:Mem}(N M:Nat)(hm:m.length=M)(hd:fL [0,1,2,3,4,5,N]=true)(ha:eR M [0,1,2,3,4,5,N]=true)(h0:cF m 0=some (gB k 1 N))(h1:cF m 1=some (lW W))(h3:cF m 3=some (cB c))(h4:cF m 4=some (aB a))(h5:cF m 5=some (kB b))(h6:cF m N=some (fb (out++T))):SQ c a b k out (W,T) (.bx []) m:=
 ⟨_,[gB k 1 6,lW W,.aU,cB c,aB a,kB b,fb (out++T)],View.of M [0,1,2,3,4,5,N] [] hm rfl rfl rfl hd ha (.eq rfl .nil)
  (.put (dI rfl) h0 (.eq rfl (jA _ _ _)) (.put (dI rfl) h1 (.eq (fI _ _) (jP _)) (.aU (.put (dI rfl) h3 (.eq rfl (jz _)) (.put (dI rfl) h4 (.eq rfl (yr _)) (.put (dI rfl) h5 (.eq rfl (fF _)) (.put (dI rfl) h6 (.bM rfl) (.nil _)))))))),rfl,rfl⟩
theorem l20:bz prog Tryz.f20=some c20.er:=by kernel_rfl
theorem uq(i:Int)(c:Cl)(a:An)(b k:Kr)(W:Wt)(out:List Sp)(ho:out.length<=90000)(p:Nat)(h:Cb c a b k W p):
  body prog c20 [.rv (.one (.ptr 0 0)),an .i64 i,.rv (.one (.ptr 3 0)),.rv (.one (.ptr 4 0)),.rv (.one (.ptr 5 0))] [gB k 1 2,lW W,fb out,cB c,aB a,kB b] (SQ c a b k out (dV i p c a b k W)):=by
 have LZ:=h.pc;refine bu (λh2=>?_) (λh2=>?_)
 .have h2:c.ag=2:=h2;have Hs:=h.pk (.inl h2);rw[dV,if_pos h2];refine jV (m:=[gB k 1 2,lW W,fb out,cB c,aB a,kB b]) k h.kk W out om i c.be p LZ Hs a.n 1 (-1) 0 2 6 rfl rfl rfl rfl rfl rfl (λhe=>?_) (λx he=>?_)
  .rw[he];exact iq (ex:=[]) rfl
  .rw[he];exact mR 6 7 rfl rfl rfl rfl rfl rfl rfl rfl rfl
 have h2:¬c.ag=2:=h2;have s38:∀(hk:c.ag=3\/c.ag=8),dV i p c a b k W=(W,d7 k i p a.n 3 c.be c.fd):=λhk=>by rw[dV,if_neg h2,if_pos hk]
 refine bu (λh3=>?_) (λh3=>?_)
 .have Hs:=h.pk (.inr (.inl h3));rw[s38 (.inl h3)];refine jV (m:=[gB k 1 2,lW W,fb out,cB c,aB a,kB b]) k h.kk W out om i c.be p LZ Hs a.n 3 c.be c.fd 2 6 rfl rfl rfl rfl rfl rfl (λhe=>⟨trivial,?_⟩) (λx he=>⟨trivial,?_⟩)
  .rw[he];exact iq (ex:=[]) rfl
  .rw[he];exact mR 6 7 rfl rfl rfl rfl rfl rfl rfl rfl rfl
 have h3:¬c.ag=3:=h3;refine bu (λh8=>?_) (λh8=>?_)
 .have Hs:=h.pk (.inr (.inr (.inl h8)));rw[s38 (.inr h8)];refine jV (m:=[gB k 1 2,lW W,fb out,cB c,aB a,kB b]) k h.kk W out om i c.be p LZ Hs a.n 3 c.be c.fd 2 6 rfl rfl rfl rfl rfl rfl (λhe=>⟨trivial,?_⟩) (λx he=>⟨trivial,?_⟩)
  .rw[he];exact iq (ex:=[]) rfl
  .rw[he];exact mR 6 7 rfl rfl rfl rfl rfl rfl rfl rfl rfl
 have h8:¬c.ag=8:=h8;clear s38;have Wj:¬(c.ag=3\/c.ag=8):=λh=>h.elim h3 h8
 refine bu (λh9=>?_) (λh9=>?_)
 .have Hs:=h.pk (.inr (.inr (.inr (.inl h9))));rw[dV,if_neg h2,if_neg Wj,if_pos h9];refine jV (m:=[gB k 1 2,lW W,fb out,cB c,aB a,kB b]) k h.kk W out om i c.be p LZ Hs c.fd 3 c.be c.fd 2 6 rfl rfl rfl rfl rfl rfl (λhe=>⟨trivial,?_⟩) (λx he=>⟨trivial,?_⟩)
  .rw[he];exact iq (ex:=[]) rfl
  .rw[he];exact mR 6 7 rfl rfl rfl rfl rfl rfl rfl rfl rfl
 have h9:¬c.ag=9:=h9;refine bu (λR7=>?_) (λR7=>?_)
 .have Hs:=h.pk (.inr (.inr (.inr (.inr (.inl R7)))));rw[dV,if_neg h2,if_neg Wj,if_neg h9,if_pos R7];refine jV (m:=[gB k 1 2,lW W,fb out,cB c,aB a,kB b]) k h.kk W out om i c.be p LZ Hs a.n 2 (-1) 0 2 6 rfl rfl rfl rfl rfl rfl (λhe=>?_) (λx he=>?_)
  .refine jV (m:=[gB k 1 2,lW W,fb out,cB c,aB a,kB b]) k h.kk W out om i c.be p LZ Hs a.m 2 (-1) 0 2 6 rfl rfl rfl rfl rfl rfl (λkK=>?_) (λy kK=>?_)
   .rw[he,kK];exact iq (ex:=[]) rfl
   .rw[he,kK];exact mR 6 7 rfl rfl rfl rfl rfl rfl rfl rfl rfl
  .refine jV (m:=[gB k 1 6,lW W,.aU,cB c,aB a,kB b,fb (out++ [x])]) k h.kk W (out++ [x]) (by simp;omega) i c.be p LZ Hs a.m 2 (-1) 0 6 7 rfl rfl rfl rfl rfl rfl (λkK=>?_) (λy kK=>?_)
   .rw[he,kK];exact mR 6 7 rfl rfl rfl rfl rfl rfl rfl rfl rfl
   .rw[he,kK];have e:out++([x]++ [y])=out++ [x]++ [y]:=aC;refine mR 7 8 rfl rfl rfl rfl rfl rfl rfl rfl ?_;rw[e];rfl
 have R7:¬c.ag=15:=R7;refine bu (λHt=>?_) (λHt=>?_)
 .rw[dV,if_neg h2,if_neg Wj,if_neg h9,if_neg R7,if_pos Ht];refine PD b h.kb c.be p LZ h.pb c.fd (h.Zb (.inl Ht)) 5 rfl ?_;generalize lU b.l (lV b p c.fd)=q;have hF:=tm q W 0;have hG:=B8 q W 0;cases hx:E5 q W 0 with
  |none=>
   rw[hx]at hF hG;have hG:none=gG q W:=hG;rw[<-hG];have hS:=IX q [(c.be,c.fY)] W;refine⟨?_,?_⟩
   .refine af hF ?_;refine⟨⟨rfl,rfl,trivial⟩,⟨rfl,rfl,trivial⟩,(show(0+1)*16<=140737488355328 by decide),⟨rfl,trivial⟩,?_⟩
    exact⟨[wE (c.be,c.fY)],_,rfl,hS,trivial,iq (ex:=[.aU,.aU]) rfl⟩
   .refine⟨⟨rfl,rfl,trivial⟩,?_⟩;refine af hF ?_;refine⟨⟨rfl,rfl,trivial⟩,(show(0+1)*16<=140737488355328 by decide),⟨rfl,trivial⟩,?_⟩
    exact⟨[wE (c.be,c.fY)],_,rfl,hS,trivial,iq (ex:=[.aU,.aU]) rfl⟩
  |some r=>
   obtain⟨j,v⟩:=r;rw[hx]at hF hG;have hG:some v=gG q W:=hG;rw[<-hG];obtain⟨_,FM⟩:=B9 q W 0 j v hx;have hv:v.length<=100000:=h.ws _ (Tu FM);have hS:∀n,mU (.int .i64 q) (.ei ((v++ [(c.be,c.fY)]).map wE)) (aX (pH W) j ⟨.int .i64 q,.row n⟩)=some (pH (jO q (v++ [(c.be,c.fY)]) W)):=λn=>by rw[bb];exact Ca q _ (.row n) W 0 j v hx
   have hR:b7 ((v.map wE).map λds=>ds.map CC.ah) 0 none++b7 [[CC.ah (.val (.int .i64 c.be)),CC.ah (.val (.int .i64 c.fY))]] 0 none=((v++ [(c.be,c.fY)]).map wE).map λd=>d.map CC.ah:=by rw[abn,abn];rfl
   have dq:((b7 ((v.map wE).map λds=>ds.map CC.ah) 0 none).length+(b7 [[CC.ah (.val (.int .i64 c.be)),CC.ah (.val (.int .i64 c.fY))]] 0 none).length)*16<=140737488355328:=by simp only[b7,N7,aar,abm];omega
   refine⟨?_,?_⟩
   .refine af hF ?_;refine⟨⟨rfl,rfl,trivial⟩,⟨rfl,rfl,trivial⟩,dq,⟨rfl,trivial⟩,?_⟩;exact⟨(v++ [(c.be,c.fY)]).map wE,_,hR,hS 6,trivial,iq (ex:=[.aU,.aU,.aU]) rfl⟩
   .refine⟨⟨rfl,rfl,trivial⟩,?_⟩;refine af hF ?_;refine⟨⟨rfl,rfl,trivial⟩,dq,⟨rfl,trivial⟩,?_⟩;exact⟨(v++ [(c.be,c.fY)]).map wE,_,hR,hS 7,trivial,iq (ex:=[.aU,.aU,.aU]) rfl⟩
 have Ht:¬c.ag=16:=Ht;refine bu (λEu=>?_) (λEu=>?_)
 .have Hs:=h.pk (.inr (.inr (.inr (.inr (.inr (.inl Eu))))));obtain⟨x,r,hw⟩:=h.got Eu;obtain⟨T,hT⟩:∃T,T=if a.m>=0 then d7 k i p a.m 3 x.1 x.2 else []:=⟨_,rfl⟩
  rw[show dV i p c a b k W=(jO (lV b p c.fd) r W,T) by rw[dV,if_neg h2,if_neg Wj,if_neg h9,if_neg R7,if_neg Ht,if_pos Eu,hw,hT]]
  refine PD b h.kb c.be p LZ h.pb c.fd (h.Zb (.inr Eu)) 5 rfl ?_;generalize lU b.l (lV b p c.fd)=q0;generalize lV b p c.fd=q at hw|-;have hF:=tm q W 0;have hG:=B8 q W 0;rw[hw]at hG;obtain⟨⟨j,v⟩,hx,hv⟩:=aaB.1 hG;have hv:v=x::r:=hv;subst hv;rw[hx]at hF;have hFT:iV (.int .i64 q) (aX (pH W) j ⟨.int .i64 q,.row 6⟩) 0=some (some (j,.row 6)):=by rw[bb];exact Et q (.row 6) W 0 j _ hx
  have hS:mU (.int .i64 q) (.ei (b7 ((x::r).map wE) 1 (some (List.length (((x::r).map wE).map λds=>ds.map CC.ah))))) (aX (pH W) j ⟨.int .i64 q,.row 6⟩)=some (pH (jO q r W)):=by
   rw[bb,show b7 ((x::r).map wE) 1 (some (List.length (((x::r).map wE).map λds=>ds.map CC.ah)))=r.map wE by simp[b7];rw[abT aC]]
   exact Ca q r (.row 6) W 0 j _ hx
  refine af hF ?_;refine af hFT ?_;refine⟨⟨rfl,trivial⟩,?_⟩;refine cM (by simp[lenOf]) ?_
  refine⟨(x::r).map wE,_,rfl,hS,trivial,?_⟩;refine aP (λhm=>?_) (λhm=>?_)
  .have hm:a.m>=0:=hm;rw[if_pos hm]at hT;subst hT;refine jV (m:=[gB k 1 2,lW (jO q r W),fb out,cB c,aB a,kB b,.aU,.var [.ah (.val (.int .i64 x.1)),.ah (.val (.int .i64 x.2))]]) k h.kk (jO q r W) out om i c.be p LZ Hs a.m 3 x.1 x.2 2 8 rfl rfl rfl rfl rfl rfl (λhe=>⟨trivial,?_⟩) (λy he=>⟨trivial,?_⟩)
   .rw[he];exact iq (ex:=[.aU,.var _]) rfl
   .rw[he];exact mR 8 9 rfl rfl rfl rfl rfl rfl rfl rfl rfl
  .have hm:¬a.m>=0:=hm;rw[if_neg hm]at hT;subst hT;exact iq (ex:=[.aU,.var _]) rfl
 have Eu:¬c.ag=17:=Eu;refine bu (λQj=>?_) (λQj=>?_)
 .have Hs:=h.pk (.inr (.inr (.inr (.inr (.inr (.inr Qj))))));obtain⟨n,hn,hnk⟩:=h.Zc Qj;rw[dV,if_neg h2,if_neg Wj,if_neg h9,if_neg R7,if_neg Ht,if_neg Eu,if_pos Qj,show a.n.toNat=n by rw[hn];rfl]
  have hg:=dJ h.pb;rw[<-eD h.pb,<-LZ]at hg;have yU:(ap b.ps p).length<=10:=by rw[eD h.pb];exact h.kb.sl _ (aay h.pb)
  have hL:(B7 (ap b.ps p)).length<=10:=by have:=Tb.sO ((ap b.ps p).map i7) 0;rw[N7]at this;exact abF this yU
  refine af hg ?_;refine R6 _ om ?_;generalize B7 (ap b.ps p)=L at hL|-;have Qu:∀(m:List Int),(fQ k i n c.be m).length<=m.length:=λm=>by
   induction m with
   |nil=>simp[fQ]
   |cons y r ih=>
    have h1:fQ k i n c.be (y::r)=d7 k i n y 3 c.be y++fQ k i n c.be r:=by simp[fQ]
    have h2:(d7 k i n y 3 c.be y).length<=1:=by unfold d7;split<;>simp
    rw[h1,aa5,aar];omega
  refine ba (λj=>j<=L.length) [0,1,3,10,175,176] (λj=>[(177,an .i64 (j:Nat))])
   (λj=>[gB k 1 6,lW W,.aU,cB c,aB a,kB b,fb (out++fQ k i n c.be (L.take j))]) (λj=>L.length-j) 0 (aav _) ?_ (λj hj=>?_)
  .refine View.of2 6 2 [0,1,2,3,4,5] rfl rfl rfl rfl rfl rfl rfl rfl ?_ (.pt rfl rfl (.eq rfl (jA _ _ _)) (.pt rfl rfl (.eq (fI _ _) (jP _)) (.aU (.pt rfl rfl (.eq rfl (jz _)) (.pt rfl rfl (.eq rfl (yr _)) (.pt rfl rfl (.eq rfl (fF _)) (.pt rfl rfl (.bM ?_) (.nil _))))))))
   .repeat(first|exact .nil|refine .aH ?_|refine .eq rfl ?_)
   .simp[fQ]
  have hj:j<=L.length:=hj;refine aP (λaD=>?_) (λaD=>?_)
  .have aD:j<L.length:=by have aD:(j:Int)<((Tb.ph L).length:Int):=aD;rw[Tb.ph,N7]at aD;omega
   have ku:dA (Tb.ph L) ((j:Nat):Int)=some [.val (.int .i64 L[j])]:=by rw[bG,Tb.ph,Tr,vR aD];rfl
   have ht:fQ k i n c.be (L.take (j+1))=fQ k i n c.be (L.take j)++d7 k i n L[j] 3 c.be L[j]:=by rw[fQ,fQ,qy (vR aD),List.flatMap_append,List.flatMap_cons,List.flatMap_nil,abV]
   have zs:=Qu (L.take j);rw[aaE]at zs;refine af ku ?_;refine jV (m:=[gB k 1 6,lW W,.aU,cB c,aB a,kB b,fb (out++fQ k i n c.be (L.take j))]) k h.kk W (out++fQ k i n c.be (L.take j)) (by rw[aa5];omega) i a.n n hn hnk L[j] 3 c.be L[j] 6 7 rfl rfl rfl rfl rfl rfl (λhe=>?_) (λx he=>?_)
   .refine⟨j+1,aD,(show L.length-(j+1)<L.length-j by omega),View.o2 7 [0,1,2,3,4,5,6] [] (.pt rfl rfl (.eq rfl (jA _ _ _)) (.pt rfl rfl (.eq (fI _ _) (jP _)) (.aU (.pt rfl rfl (.eq rfl (jz _)) (.pt rfl rfl (.eq rfl (yr _)) (.pt rfl rfl (.eq rfl (fF _)) (.pt rfl rfl (.bM ?_) (.nil _))))))))⟩
    .rw[ht,he,abV]
   .refine⟨j+1,aD,(show L.length-(j+1)<L.length-j by omega),View.o2 8 [0,1,2,3,4,5,7] [] (.pt rfl rfl (.eq rfl (jA _ _ _)) (.pt rfl rfl (.eq (fI _ _) (jP _)) (.aU (.pt rfl rfl (.eq rfl (jz _)) (.pt rfl rfl (.eq rfl (yr _)) (.pt rfl rfl (.eq rfl (fF _)) (.pt rfl rfl (.bM ?_) (.nil _))))))))⟩
    .rw[ht,he,ac2]
  .have ET:j=L.length:=by have aD:¬(j:Int)<((Tb.ph L).length:Int):=aD;rw[Tb.ph,N7]at aD;omega
   subst ET;rw[aaZ];have zs:=Qu L;refine jV (m:=[gB k 1 6,lW W,.aU,cB c,aB a,kB b,fb (out++fQ k i n c.be L)]) k h.kk W (out++fQ k i n c.be L) (by rw[aa5];omega) i c.be p LZ Hs a.m 2 (-1) 0 6 7 rfl rfl rfl rfl rfl rfl (λhe=>?_) (λx he=>?_)
   .rw[he,abV];exact mR 6 7 rfl rfl rfl rfl rfl rfl rfl rfl rfl
   .rw[he];refine mR 7 8 rfl rfl rfl rfl rfl rfl rfl rfl ?_;rw[<-ac2];rfl
 have Qj:¬c.ag=18:=Qj;rw[dV,if_neg h2,if_neg Wj,if_neg h9,if_neg R7,if_neg Ht,if_neg Eu,if_neg Qj];exact iq (ex:=[]) rfl
theorem BK(i:Int)(c:Cl)(a:An)(b k:Kr)(W:Wt)(out:List Sp)(ho:out.length<=90000)(p:Nat)(h:Cb c a b k W p)(X:Bk)(x:Wt×List Sp)(hx:x=dV i p c a b k W){K:CV->Mem->Prop}(hK:K (.bx []) [gB k 1 7,lW x.1,.aU,cB c,aB a,kB b,X,fb (out++x.2)]):
  aq prog 20 [.rv (.one (.ptr 0 0)),an .i64 i,.rv (.one (.ptr 3 0)),.rv (.one (.ptr 4 0)),.rv (.one (.ptr 5 0))] [gB k 1 2,lW W,fb out,cB c,aB a,kB b,X] K:=by
 refine bw [0,1,2,3,4,5] 7 rfl rfl rfl rfl (args0:=[.rv (.one (.ptr 0 0)),an .i64 i,.rv (.one (.ptr 3 0)),.rv (.one (.ptr 4 0)),.rv (.one (.ptr 5 0))]) rfl (λj b' hi=>?_)
  (bL (cj func20 l20 (uq i c a b k W out ho p h)) λr m1⟨r',m',hv,hq⟩=>⟨r',m',hv,hq⟩) (λr1 m1 sr=>?_)
 .match j,hi with
  |0,hi=>cases hi;exact .inr ⟨λh=>h,_,rfl,.eq rfl (jA _ _ _)⟩
  |1,hi=>cases hi;exact .inr ⟨λh=>h,_,rfl,.eq (fI _ _) (jP _)⟩
  |2,hi=>cases hi;exact .inr ⟨λh=>h,_,rfl,.bM rfl⟩
  |3,hi=>cases hi;exact .inr ⟨λh=>h,_,rfl,.eq rfl (jz _)⟩
  |4,hi=>cases hi;exact .inr ⟨λh=>h,_,rfl,.eq rfl (yr _)⟩
  |5,hi=>cases hi;exact .inr ⟨λh=>h,_,rfl,.eq rfl (fF _)⟩
  |j+6,hi=>simp at hi
 .obtain⟨rfl,rfl⟩:=sr;refine⟨aC,?_⟩;rw[<-hx];have:nh (sg [0,1,2,3,4,5] 7) [gB k 1 6,lW x.1,.aU,cB c,aB a,kB b,fb (out++x.2)]=[gB k 1 7,lW x.1,.aU,cB c,aB a,kB b,fb (out++x.2)]:=by simp only[nh,fI,yu];rfl
  rw[this];exact hK
end Kn
namespace Kn
def wL(L:List ((Int×List (Int×Int))×Nat)):Wt:=L.map (·.1)
theorem PE(x:Int):∀(W:Wt)(n i:Nat)(e:Int×List (Int×Int)),(W.map (·.1)).Nodup->W[i]? =some e->e.1=x->E5 x W n=some (n+i,e.2)
 | [],_,_,_,_,h,_=>by simp at h
 |y::r,n,0,e,_,h,he=>by simp only[acK,aaA]at h;subst h;rw[E5,if_pos he.symm];rfl
 |y::r,n,i+1,e,hn,h,he=>by
  rw[aaR,abH]at hn;have h:r[i]? =some e:=by simpa using h
  have dy:¬x=y.1:=λh2=>hn.1 (by rw[<-h2,<-he];exact aaz.2 ⟨e,Tu h,rfl⟩)
  rw[E5,if_neg dy,PE x r (n+1) i e hn.2 h he,show n+1+i=n+(i+1) by omega]
abbrev Pr:=List ((Int×List (Int×Int))×Nat)
def vX(l:List Obj)(L0:Pr)(seen:List Nat):Pr:=L0.filter λx=>gk l x.1.1|| !seen.contains x.2
theorem R9(l:List Obj)(L0:Pr):vX l L0 []=L0:=adf.2 aC
theorem Cc:∀{L:Pr}{x y:(Int×List (Int×Int))×Nat},(L.map (·.2)).Nodup->x∈L->y∈L->x.2=y.2->x=y
 | [],_,_,_,h,_,_=>by cases h
 |z::r,x,y,hn,hx,hy,he=>by
  rw[aaR,abH]at hn;rcases aaL.1 hx with h1|h1<;>rcases aaL.1 hy with h2|h2
  .rw[h1,h2]
  .rw[h1]at he;exact absurd (he▸aaz.2 ⟨y,h2,rfl⟩) hn.1
  .rw[h2]at he;exact absurd (he▸aaz.2 ⟨x,h1,rfl⟩) hn.1
  .exact Cc hn.2 h1 h2 he
theorem IZ{α:Type}{p q:α->Bool}(h:∀z,p z=true->q z=true):∀r:List α,(r.filter p).length<=(r.filter q).length
 | []=>Yj _
 |z::r=>by
  have ih:=IZ h r;rw[ab2,ab2];by_cases hp:p z=true
  .rw[if_pos hp,if_pos (h z hp),aar,aar];omega
  .rw[if_neg hp];split
   .rw[aar];omega
   .exact ih
theorem Sa{l:List Obj}{L0:Pr}{seen:List Nat}{s:Nat}{x:(Int×List (Int×Int))×Nat}(hx:x∈L0)(hs:x.2=s)(hn:(L0.map (·.2)).Nodup)(hk:gk l x.1.1=true):vX l L0 (s::seen)=vX l L0 seen:=by
 refine ad0 λy hy=>?_
 by_cases h:y.2=s
 .have:=Cc hn hy hx (h.trans hs.symm);subst this;rw[hk];simp
 .congr 1;simp[h]
theorem Ev:∀{L:Pr}{i:Nat}{x:(Int×List (Int×Int))×Nat},L[i]? =some x->(L.map (·.2)).Nodup->L.filter (λy=>!(y.2==x.2))=L.eraseIdx i
 | [],i,e,h,_=>by simp at h
 |x::r,0,e,h,hn=>by
  simp only[acK,aaA]at h;subst h;rw[aaR,abH]at hn;rw[ab2,if_neg aC,List.eraseIdx_zero,List.tail_cons];refine adf.2 λy hy=>?_
  have:y.2≠x.2:=λhe=>hn.1 (he▸aaz.2 ⟨y,hy,rfl⟩)
  simpa using this
 |x::r,i+1,e,h,hn=>by
  simp only[abv]at h;rw[aaR,abH]at hn;have:x.2≠e.2:=λhe=>hn.1 (he▸aaz.2 ⟨e,Tu h,rfl⟩)
  rw[ab2,if_pos (by simpa using this),List.eraseIdx_cons_succ,Ev h hn.2]
theorem Sb{l:List Obj}{L0:Pr}{seen:List Nat}{i:Nat}{x:(Int×List (Int×Int))×Nat}(hx:(vX l L0 seen)[i]? =some x)(hn:(L0.map (·.2)).Nodup)(hk:gk l x.1.1=false):vX l L0 (x.2::seen)=(vX l L0 seen).eraseIdx i:=by
 have QK:((vX l L0 seen).map (·.2)).Nodup:=(List.filter_sublist.map _).nodup hn
 rw[<-Ev hx QK,vX,vX,List.filter_filter];have Vu:x∈L0:=(acL.1 (Tu hx)).1;refine ad0 λy hy=>?_
 by_cases h:y.2=x.2
 .have:=Cc hn hy Vu h;subst this;rw[hk];simp
 .simp[h]
theorem VA{l:List Obj}{L0:Pr}{seen:List Nat}(h:∀s,s∈(vX l L0 seen).map (·.2)->s∈seen):wL (vX l L0 seen)=tk l (wL L0):=by
 have:vX l L0 seen=L0.filter λx=>gk l x.1.1:=by
  refine ad0 λy hy=>?_
  cases hk:gk l y.1.1 with
  |true=>rfl
  |false=>
   simp only[ac0];cases hc:seen.contains y.2 with
   |true=>rfl
   |false=>
    have:=h y.2 (aaz.2 ⟨y,acL.2 ⟨hy,by rw[hc];simp⟩,rfl⟩)
    rw[List.contains_eq_mem]at hc;simp at hc;exact absurd this hc
 rw[this,wL,wL,tk,List.filter_map];rfl
def left(L0:Pr)(seen:List Nat):Nat:=(L0.filter λx=>!seen.contains x.2).length
theorem Sc{L0:Pr}{seen:List Nat}{x:(Int×List (Int×Int))×Nat}(hx:x∈L0)(hs:¬x.2∈seen):left L0 (x.2::seen)<left L0 seen:=by
 unfold left
 induction L0 with
 |nil=>cases hx
 |cons y r ih=>
  have mono:(r.filter λz=>!(x.2::seen).contains z.2).length<=(r.filter λz=>!seen.contains z.2).length:=by exact IZ (λz hz=>by simp at hz|-;exact hz.2) r
  rw[ab2,ab2];rcases aaL.1 hx with rfl|hx
  .rw[if_neg aC,if_pos (by simpa using hs),aar]
   omega
  .have:=ih hx;by_cases h1:(!(x.2::seen).contains y.2)=true
   .have h2:(!seen.contains y.2)=true:=by simp at h1|-;exact h1.2
    rw[if_pos h1,if_pos h2,aar,aar];omega
   .rw[if_neg h1];split
    .rw[aar];omega
    .exact this
end Kn
namespace Kn
structure oH(k x:Kr):Prop where
 o:∀(i:Nat)o,k.l[i]? =some o->o.ag≠0->∃o':Obj,x.l[i]? =some o'/\o'.ag=o.ag/\o'.be=o.be/\(∀z,sE o z->sE o' z)/\
  (∀z,sQ o z->sQ o' z\/∃(t:Nat)(y:bl)(s:eA),x.ps[t]? =some y/\y.aO=true/\s∈y.aQ/\s.has=true/\s.dG=z)
 p:∀(c:Nat)o,k.ops[c]? =some o->0<=o.bp->∃o':bI,x.ops[c]? =some o'/\o'.bp=o.bp
 s:∀(t:Nat)y,k.ps[t]? =some y->y.aO=true->∃y':bl,x.ps[t]? =some y'/\y'.aO=true/\∀s,s∈y.aQ->s.has=true->∃s',s'∈y'.aQ/\s'.has=true/\s'.dG=s.dG
 nl:∀(i:Nat)o,x.l[i]? =some o->o.ag≠0->(∃o0,k.l[i]? =some o0/\o0.ag≠0)\/∃(t:Nat)(y:bl)(s:eA)(c:Nat)(o1:bI),x.ps[t]? =some y/\y.aO=true/\s∈y.aQ/\s.has=true/\s.dG=c/\x.ops[c]? =some o1/\o1.bp=i
 no:∀(c:Nat)o,x.ops[c]? =some o->k.ops[c]? =some o\/∃(t:Nat)(y:bl)(s:eA),x.ps[t]? =some y/\y.aO=true/\s∈y.aQ/\s.has=true/\s.dG=c
 np:∀(t:Nat)y,x.ps[t]? =some y->y.aO=true->(∃y0,k.ps[t]? =some y0/\y0.aO=true)\/∃o,o∈x.l/\dL (t:Int) o=true
theorem oH.vO{k x:Kr}(e:oH k x){z:Int}{n:Nat}(h:_root_.Go.Proofs.YtodckkkbiidffaaGreatDoor.vO k.l z n):_root_.Go.Proofs.YtodckkkbiidffaaGreatDoor.vO x.l z n:=by
 obtain⟨rfl,o,ho,hk⟩:=h;obtain⟨o',h1,h2,-⟩:=e.o n o ho hk;exact⟨rfl,o',h1,by rw[h2];exact hk⟩
theorem oH.NI{k x:Kr}(e:oH k x)(hk:KI k){b b2:Mk}(hb:g9 k.l k.ops k.ps b)(hx:g9 x.l x.ops x.ps b2):
  (∀i,dz b.O i->dz b2.O i)/\∀(c:Nat),dz b.P c->∀o,k.ops[c]? =some o->0<=o.bp->dz b2.P c:=by
 have hvP:∀(c:Nat)o,k.ops[c]? =some o->0<=o.bp->∀z:Int,z=c->vP x.ops z c:=λc o ho h0 z hz=>by obtain⟨o',h1,_⟩:=e.p c o ho h0;exact⟨hz,(Ki.1 h1).1⟩
 have iU:=hb.ov (λi=>dz b2.O i) (λc=>∀o,k.ops[c]? =some o->0<=o.bp->dz b2.P c) ⟨λi o hi ho z n hz hv=>?_,λi o hi ho z c hz hv o1 T3 h0=>?_,λc o hc ho n hv=>?_⟩
  ⟨λn hv=>hx.nu.1 n (e.vO hv),λp pr hp bK s hs hh c hv o1 T3 h0=>?_⟩
 .exact⟨iU.1,iU.2⟩
 .have h0:o.ag≠0:=λh0=>by rw[hk.z o (Tu ho) h0]at hz;obtain⟨nm,MM⟩:=hz;simp[ij]at MM
  obtain⟨o',h1,-,-,h4,-⟩:=e.o i o ho h0;exact hx.cl.e i o' hi h1 z n (h4 z hz) (e.vO hv)
 .have H2:o.ag≠0:=λh0=>by rw[hk.z o (Tu ho) h0]at hz;obtain⟨q,hq,-⟩:=hz;simp[ij]at hq
  obtain⟨o',h1,-,-,-,h5⟩:=e.o i o ho H2;rcases h5 z hz with h6|⟨t,y,s,g1,g2,g3,g4,g5⟩
  .exact hx.cl.q i o' hi h1 z c h6 (hvP c o1 T3 h0 z hv.1)
  .exact hx.nu.2 t y g1 g2 s g3 g4 c (hvP c o1 T3 h0 _ (by rw[g5];exact hv.1))
 .have h0:0<=o.bp:=by have:=hv.1;omega
  obtain⟨o',h1,h2⟩:=e.p c o ho h0;exact hx.cl.p c o' (hc o ho h0) h1 n (by rw[h2];exact e.vO hv)
 .obtain⟨y',h1,h2,h3⟩:=e.s p pr hp bK;obtain⟨s',h4,h5,h6⟩:=h3 s hs hh;exact hx.nu.2 p y' h1 h2 s' h4 h5 c (hvP c o1 T3 h0 _ (by rw[h6];exact hv.1))
theorem KI.Zd{k x:Kr}(h:KI k)(hs:LY k)(hx:KI x)(e:oH k x):fa x=J6 x:=by
 obtain⟨b,hb⟩:=hs.left h;refine hx.Y9 (λb2 fK=>?_) (λt y hy=>?_)
 .obtain⟨m1,m2⟩:=e.NI h hb.ok fK;have TN:∀(t:Nat)(y:bl)(s:eA)(c:Nat),x.ps[t]? =some y->y.aO=true->s∈y.aQ->s.has=true->s.dG=c->c<x.ops.length->dz b2.P c:=λt y s c g1 g2 g3 g4 g5 g6=>
   fK.nu.2 t y g1 g2 s g3 g4 c ⟨g5,g6⟩
  refine⟨λn o ho hk=>?_,λn o ho hn=>?_⟩
  .rcases e.nl n o ho hk with⟨o0,h1,h2⟩|⟨t,y,s,c,o1,g1,g2,g3,g4,g5,g6,g7⟩
   .exact m1 n (hb.all n o0 h1 h2)
   .exact fK.cl.p c o1 (TN t y s c g1 g2 g3 g4 g5 (Ki.1 g6).1) g6 n ⟨g7,o,ho,hk⟩
  .rcases e.no n o ho with h1|⟨t,y,s,g1,g2,g3,g4,g5⟩
   .by_cases qq:dz b.P n
    .exact absurd (m2 n qq o h1 (h.Za hb.ok qq h1)) hn
    .exact hb.ops n o h1 qq
   .exact absurd (TN t y s n g1 g2 g3 g4 g5 (Ki.1 ho).1) hn
 .cases ZP:y.aO with
  |false=>simp[iQ,ZP]
  |true=>
   by_cases h0:t=0
   .subst h0;simp[iQ]
   have held:∃o,o∈x.l/\dL (t:Int) o=true:=by
    rcases e.np t y hy ZP with⟨y',Vp,AP⟩|h1
    .have:=hb.prs t y' Vp;unfold iQ at this;simp only[AP,adC,adl,decide_eq_false_iff_not,Bool.not_eq_false',abc]at this;rcases this with h3|⟨o,ho,hh⟩
     .omega
     .obtain⟨n,hn⟩:=aab ho;obtain⟨o',g1,g2,g3,-⟩:=e.o n o hn (xx hh);refine⟨o',Tu g1,?_⟩;unfold dL at hh|-;rw[g2,g3];exact hh
    .exact h1
   have ha:(x.l.any (dL (t:Int)))=true:=by rw[abc];exact held
   unfold iQ;rw[ha];simp
end Kn
namespace Kn
structure OX(N:Nat->Prop)(l l':List Obj):Prop where
 m:∀(i:Nat)o,l[i]? =some o->o.ag≠0->∃o':Obj,l'[i]? =some o'/\o'.ag=o.ag/\o'.be=o.be/\o'.ax=o.ax
 n:∀(i:Nat)o',l'[i]? =some o'->o'.ag≠0->(∃o,l[i]? =some o/\o.ag≠0)\/(N i/\o'.ax=[])
def OE(l l':List Obj):Prop:=∀(i:Nat)o o',l[i]? =some o->o.ag≠0->l'[i]? =some o'->∀z,sE o z->sE o' z
theorem OX.refl(N:Nat->Prop)(l:List Obj):OX N l l:=⟨λi o h _=>⟨o,h,rfl,rfl,rfl⟩,λi o h hk=>.inl ⟨o,h,hk⟩⟩
theorem OE.refl(l:List Obj):OE l l:=λi o o' h _ h' z hz=>by rw[h]at h';cases h';exact hz
theorem OX.trans{N:Nat->Prop}{a b c:List Obj}(h:OX N a b)(g:OX N b c):OX N a c:=by
 refine⟨λi o ho hk=>?_,λi o ho hk=>?_⟩
 .obtain⟨o1,h1,h2,h3,h4⟩:=h.m i o ho hk;obtain⟨o2,g1,g2,g3,g4⟩:=g.m i o1 h1 (by rw[h2];exact hk)
  exact⟨o2,g1,g2.trans h2,g3.trans h3,g4.trans h4⟩
 .rcases g.n i o ho hk with⟨o1,g1,g2⟩|g1
  .rcases h.n i o1 g1 g2 with h1|⟨h1,h2⟩
   .exact .inl h1
   .obtain⟨o2,q1,_,_,q4⟩:=g.m i o1 g1 g2;rw[ho]at q1;cases q1;exact .inr ⟨h1,q4.trans h2⟩
  .exact .inr g1
theorem OE.trans{N:Nat->Prop}{a b c:List Obj}(hx:OX N a b)(h:OE a b)(g:OE b c):OE a c:=λi o o2 ho hk ib z hz=>by
 obtain⟨o1,h1,h2,_⟩:=hx.m i o ho hk;exact g i o1 o2 h1 (by rw[h2];exact hk) ib z (h i o o1 ho hk h1 z hz)
theorem OX.set(N:Nat->Prop){l:List Obj}{n:Nat}{o o':Obj}(ho:l[n]? =some o)(h:o'.ag=o.ag/\o'.be=o.be/\o'.ax=o.ax):OX N l (l.set n o'):=by
 have hn:=(Ki.1 ho).1;refine⟨λi a ha hk=>?_,λi a ha hk=>?_⟩
 .by_cases e:n=i
  .subst e;rw[ho]at ha;cases ha;exact⟨o',TK hn,h.1,h.2.1,h.2.2⟩
  .exact⟨a,by rw[U9 e];exact ha,rfl,rfl,rfl⟩
 .by_cases e:n=i
  .subst e;rw[TK hn]at ha;cases ha;exact .inl ⟨o,ho,by rw[<-h.1];exact hk⟩
  .rw[U9 e]at ha;exact .inl ⟨a,ha,hk⟩
theorem OE.set{l:List Obj}{n:Nat}{o o':Obj}(ho:l[n]? =some o)(h:o'.ak=o.ak):OE l (l.set n o'):=λi a b ha _ hb z hz=>by
 have hn:=(Ki.1 ho).1;by_cases e:n=i
 .subst e;rw[ho]at ha;cases ha;rw[TK hn]at hb;cases hb;unfold sE;rw[h];exact hz
 .rw[U9 e,ha]at hb;cases hb;exact hz
theorem OX.make{l:List Obj}{o:Obj}(h:(aG l o).2.2=0)(hl:l.length<=40)(hq:o.ax=[]):∃j:Nat,(aG l o).2.1=j/\OX (λi=>i=j) l (aG l o).1/\OE l (aG l o).1/\(aG l o).1[j]? =some o:=by
 obtain⟨j,h1,h2,h3,h4,_,_⟩:=gg h hl;have dy:∀i a,l[i]? =some a->a.ag≠0->i≠j:=λi a ha hk e=>hk (h4 a (e▸ha))
 refine⟨j,h1,⟨λi a ha hk=>⟨a,by rw[h3 i (dy i a ha hk)];exact ha,rfl,rfl,rfl⟩,λi a ha hk=>?_⟩,λi a b ha hk hb z hz=>?_,h2⟩
 .by_cases e:i=j
  .subst e;rw[h2]at ha;cases ha;exact .inr ⟨rfl,hq⟩
  .rw[h3 i e]at ha;exact .inl ⟨a,ha,hk⟩
 .rw[h3 i (dy i a ha hk),ha]at hb;cases hb;exact hz
theorem OX.two(N:Nat->Prop){l l':List Obj}{n p:Nat}{o q o' q':Obj}(hn:l[n]? =some o)(hp:l[p]? =some q)(h1:l'[n]? =some o')(h2:l'[p]? =some q')(h3:∀j,j≠n->j≠p->l'[j]? =l[j]?)(ho:o'.ag=o.ag/\o'.be=o.be/\o'.ax=o.ax)(hq:q'.ag=q.ag/\q'.be=q.be/\q'.ax=q.ax):OX N l l':=by
 refine⟨λi a ha hk=>?_,λi a ha hk=>?_⟩
 .by_cases e:i=n
  .subst e;rw[hn]at ha;cases ha;exact⟨o',h1,ho.1,ho.2.1,ho.2.2⟩
  by_cases e2:i=p
  .subst e2;rw[hp]at ha;cases ha;exact⟨q',h2,hq.1,hq.2.1,hq.2.2⟩
  .exact⟨a,by rw[h3 i e e2];exact ha,rfl,rfl,rfl⟩
 .by_cases e:i=n
  .subst e;rw[h1]at ha;cases ha;exact .inl ⟨o,hn,by rw[<-ho.1];exact hk⟩
  by_cases e2:i=p
  .subst e2;rw[h2]at ha;cases ha;exact .inl ⟨q,hp,by rw[<-hq.1];exact hk⟩
  .rw[h3 i e e2]at ha;exact .inl ⟨a,ha,hk⟩
theorem OX.enter(N:Nat->Prop){b:Bool}{l:List Obj}{cL bp:Int}{name:ByteArray}(dy:∀(p:Nat)q,bp=p->l[p]? =some q->q.am=0)(h:(cQ b l cL name bp).2=0):OX N l (cQ b l cL name bp).1/\OE l (cQ b l cL name bp).1:=by
 obtain⟨n,p,o,q,rfl,rfl,hn,hp,hq,ho,A0,_,_,_,e⟩:=pF h;rw[e];have BY:n≠p:=λe=>by subst e;rw[hn]at hp;cases hp;exact A0 (dy n o rfl hn)
 obtain⟨g1,g2,g3,_⟩:=uB hn hp BY name;refine⟨OX.two N hn hp g1 g2 g3 ⟨rfl,rfl,rfl⟩ ⟨rfl,rfl,rfl⟩,λi a a' ha hk Tt z hz=>?_⟩
 by_cases e1:i=n
 .subst e1;rw[hn]at ha;cases ha;rw[g1]at Tt;cases Tt;obtain⟨nm,hm⟩:=hz;refine⟨nm,?_⟩;show gl (nm,z)∈(iZ (name,((p:Nat):Int)) (dQ o)).map gl;refine aaz.2 ⟨(nm,z),yi ?_,rfl⟩;refine aaz.2 ⟨gl (nm,z),hm,rfl⟩
 by_cases e2:i=p
 .subst e2;rw[hp]at ha;cases ha;rw[g2]at Tt;cases Tt;exact hz
 .rw[g3 i e1 e2,ha]at Tt;cases Tt;exact hz
theorem uL{k:Kr}(h:KI k){f:R4}{o:Obj}(ho:Hh o)(he:(ce k f o).2.2=0):∃j:Nat,(ce k f o).2.1=j/\OX (λi=>i=j) k.l (ce k f o).1.l/\OE k.l (ce k f o).1.l/\(ce k f o).1.ops=k.ops/\(ce k f o).1.ps=k.ps:=by
 obtain⟨j,C⟩:=tj h.ll he;obtain⟨j',e1,g1,g2,g3⟩:=OX.make C.em h.ll (show(gR o).ax=[]from(ho.RQ k).q);have:j'=j:=by have:=C.ej;omega
 subst this;obtain⟨q1,q2⟩:=OX.enter (λi=>i=j') (λp q hp hq=>by have:p=j':=om;subst this;rw[g3]at hq;cases hq;exact(ho.RQ k).l) C.ee
 rw[C.R];exact⟨j',rfl,g1.trans q1,OE.trans g1 g2 q2,rfl,rfl⟩
end Kn
end Go.Proofs.YtodckkkbiidffaaGreatDoor
