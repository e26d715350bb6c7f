/- Part 16 of 18. -/
import Derived.Test.YtojhmadmlnfpcaaGreatDoorS10
import Derived.Test.YtojhmadmlnfpcaaGreatDoorS11
import Derived.Test.YtojhmadmlnfpcaaGreatDoorS15
import Derived.Shelf.SlSortCmp.WholeK
import Derived.Shelf.SlicesG.Cmp
import Derived.WalkKit
import Derived.OwnWalkIn
set_option linter.unusedVariables false
set_option linter.unusedSimpArgs false
set_option linter.unnecessarySimpa false
set_option maxRecDepth 100000
set_option maxHeartbeats 0
namespace Go.Proofs.YtojhmadmlnfpcaaGreatDoor
open Go.AM Go.ChangeShapes Go.WideShapes Go.ChangeAt Go.RowKit
namespace Kn
def d7(o:Obj):List NE:=o.ak.map nq
structure Sk where
 ah:Int
 up:Int
 am:Int
 es:List NE
def ur(o:Obj):Sk:=⟨o.ah,o.up,o.am,d7 o⟩
def skZ:Sk:=⟨0,0,0,[]⟩
inductive Lk(t:List Sk):Nat->Prop
 |ar:Lk t 0
 |step {i j:Nat} {d:Sk} {e:NE} (h:Lk t i) (hd:t[i]? =some d) (he:e∈d.es) (hj:e.2=(j:Nat)):Lk t j
structure Tree(t:List Sk):Prop where
 z:∀(i:Nat)d,t[i]? =some d->d.ah=0->d=skZ
 r0:∃d,t[0]? =some d/\d.ah=2/\d.am=1/\d.up=0
 tr:∀(i:Nat)d e,t[i]? =some d->e∈d.es->∃(j:Nat)(x:Sk),e.2=j/\j≠0/\t[j]? =some x/\x.ah≠0/\x.am=1/\(x.ah=2->x.up=i)
 un:∀(i i':Nat)d d' e e',t[i]? =some d->t[i']? =some d'->e∈d.es->e'∈d'.es->e.2=e'.2->i=i'/\e=e'
 lk:∀(i:Nat)d,t[i]? =some d->d.am≠0->Lk t i
 em:∀(i:Nat)d,t[i]? =some d->d.am=0->d.es=[]
 lr:∀(i:Nat)d,t[i]? =some d->d.am=0\/d.am=1
 ux:∀(i:Nat)d,t[i]? =some d->d.up=i\/d.up=0\/d.ah=2/\∃(u:Nat)(x:Sk)(e:NE),d.up=u/\t[u]? =some x/\e∈x.es/\e.2=i
theorem Tree.WU{t:List Sk}(h:Tree t){i:Nat}{d:Sk}(hd:t[i]? =some d):0<=d.up/\d.up<t.length:=by
 have hi:=(Mh.1 hd).1;rcases h.ux i d hd with h1|h1|⟨_,u,x,e,h1,h2,_⟩
 .omega
 .omega
 .have:=(Mh.1 h2).1;omega
theorem Lk.mono{t t':List Sk}(h:∀(i:Nat)d,t[i]? =some d->d.es≠[]->∃d',t'[i]? =some d'/\∀e,e∈d.es->e∈d'.es){i:Nat}(hl:Lk t i):Lk t' i:=by
 induction hl with
 |ar=>exact .ar
 |step _ hd he hj ih=>
  obtain⟨d',h1,h2⟩:=h _ _ hd (fun e=>by rw[e]at he;cases he)
  exact .step ih h1 (h2 _ he) hj
theorem Tree.new{t t':List Sk}(h:Tree t){k:Nat}{s:Sk}(hs:s.ah≠0/\s.am=0/\s.es=[]/\(s.up=0\/s.up=k))(h1:t'[k]? =some s)(h2:∀j,j≠k->t'[j]? =t[j]?)(h3:∀d,t[k]? =some d->d.ah=0):Tree t':=by
 obtain⟨hk,hl,he,hu⟩:=hs;have old:∀(i:Nat)d,t[i]? =some d->d.ah≠0->t'[i]? =some d:=fun i d hd hn=>by rw[h2 i fun e=>hn (h3 d (e▸hd))];exact hd
 have WV:∀(i:Nat)d e,t[i]? =some d->e∈d.es->t'[i]? =some d:=fun i d e hd he=>old i d hd fun hz=>by rw[h.z i d hd hz]at he;cases he
 have pi:∀(i:Nat)d,t'[i]? =some d->(i=k/\d=s)\/t[i]? =some d:=fun i d hd=>by
  by_cases e:i=k
  .subst e;rw[h1]at hd;cases hd;exact .inl ⟨rfl,rfl⟩
  .rw[h2 i e]at hd;exact .inr hd
 have hE:∀(i:Nat)d e,t'[i]? =some d->e∈d.es->t[i]? =some d:=fun i d e hd hx=>by
  rcases pi i d hd with⟨_,rfl⟩|h
  .rw[he]at hx;cases hx
  .exact h
 have N8:∀i,Lk t i->Lk t' i:=fun i hi=>hi.mono fun i d hd hn=>by obtain⟨e,hx⟩:=acG _ hn;exact⟨d,WV i d e hd hx,fun _ h=>h⟩
 refine⟨fun i d hd hz=>?_,?_,fun i d e hd hx=>?_,fun i i' d d' e e' hd zm hx uc mU=>h.un i i' d d' e e' (hE i d e hd hx) (hE i' d' e' zm uc) hx uc mU,fun i d hd hn=>?_,fun i d hd hn=>?_,fun i d hd=>?_,fun i d hd=>?_⟩
 .rcases pi i d hd with⟨_,rfl⟩|h'
  .exact absurd hz hk
  .exact h.z i d h' hz
 .obtain⟨d,a1,a2,a3⟩:=h.r0;exact⟨d,old 0 d a1 om,a2,a3⟩
 .obtain⟨j,x,a1,a2,a3,a4,a5⟩:=h.tr i d e (hE i d e hd hx) hx;exact⟨j,x,a1,a2,old j x a3 a4,a4,a5⟩
 .rcases pi i d hd with⟨_,rfl⟩|h'
  .exact absurd hl hn
  .exact N8 i (h.lk i d h' hn)
 .rcases pi i d hd with⟨_,rfl⟩|h'
  .exact he
  .exact h.em i d h' hn
 .rcases pi i d hd with⟨_,rfl⟩|h'
  .exact .inl hl
  .exact h.lr i d h'
 .rcases pi i d hd with⟨rfl,rfl⟩|h'
  .exact hu.elim (fun e=>.inr (.inl e)) .inl
  .rcases h.ux i d h' with a|a|⟨a0,u,x,e,a1,a2,a3,a4⟩
   .exact .inl a
   .exact .inr (.inl a)
   .exact .inr (.inr ⟨a0,u,x,e,a1,WV u x e a2 a3,a3,a4⟩)
theorem Tree.enter{t t':List Sk}(h:Tree t){n p:Nat}{d q d' q':Sk}(hn:t[n]? =some d)(hp:t[p]? =some q)(lH:d.am≠0)(Il:q.am=0)(Jh:q.ah≠0){nm:ByteArray}(h1:t'[n]? =some d')(h2:t'[p]? =some q')(h3:∀j,j≠n->j≠p->t'[j]? =t[j]?)(hd:d'.ah=d.ah/\d'.up=d.up/\d'.am=d.am)(Rl:∀e,e∈d'.es↔e∈d.es\/e=(nm,(p:Int)))(hq:q'.ah=q.ah/\q'.am=1/\q'.es=q.es/\q'.up=if q.ah=2 then(n:Int)else q.up):Tree t':=by
 have Fr:n≠p:=fun e=>by subst e;rw[hn]at hp;cases hp;exact lH Il
 have M7:q.es=[]:=h.em p q hp Il;have DM:d.ah≠0:=fun e=>by rw[h.z n d hn e]at lH;exact lH rfl
 have xw:p≠0:=fun e=>by obtain⟨r,a1,a2,a3,a4⟩:=h.r0;rw[e,a1]at hp;cases hp;omega
 have nop:∀(i:Nat)x e,t[i]? =some x->e∈x.es->e.2≠(p:Int):=fun i x e hx he hc=>by obtain⟨j,y,a1,_,a3,_,a5,_⟩:=h.tr i x e hx he;have:j=p:=om;subst this;rw[hp]at a3;cases a3;omega
 have pi:∀(i:Nat)x,t'[i]? =some x->(i=n/\x=d')\/(i=p/\x=q')\/(i≠n/\i≠p/\t[i]? =some x):=fun i x hx=>by
  by_cases e:i=n
  .subst e;rw[h1]at hx;cases hx;exact .inl ⟨rfl,rfl⟩
  .by_cases e2:i=p
   .subst e2;rw[h2]at hx;cases hx;exact .inr (.inl ⟨rfl,rfl⟩)
   .rw[h3 i e e2]at hx;exact .inr (.inr ⟨e,e2,hx⟩)
 have back:∀(i:Nat)x e,t'[i]? =some x->e∈x.es->(∃y,t[i]? =some y/\e∈y.es)\/(i=n/\e=(nm,(p:Int))):=fun i x e hx he=>by
  rcases pi i x hx with⟨rfl,rfl⟩|⟨rfl,rfl⟩|⟨_,_,hx⟩
  .rcases(Rl e).1 he with he|he
   .exact .inl ⟨d,hn,he⟩
   .exact .inr ⟨rfl,he⟩
  .rw[hq.2.2.1,M7]at he;cases he
  .exact .inl ⟨x,hx,he⟩
 have fwd:∀(i:Nat)x,t[i]? =some x->∃x',t'[i]? =some x'/\x'.ah=x.ah/\∀e,e∈x.es->e∈x'.es:=fun i x hx=>by
  by_cases e:i=n
  .subst e;rw[hn]at hx;cases hx;exact⟨d',h1,hd.1,fun e he=>(Rl e).2 (.inl he)⟩
  .by_cases e2:i=p
   .subst e2;rw[hp]at hx;cases hx;exact⟨q',h2,hq.1,fun e he=>by rw[M7]at he;cases he⟩
   .exact⟨x,by rw[h3 i e e2];exact hx,rfl,fun _ h=>h⟩
 have N8:∀i,Lk t i->Lk t' i:=fun i hi=>hi.mono fun i x hx _=>by obtain⟨x',a1,_,a2⟩:=fwd i x hx;exact⟨x',a1,a2⟩
 refine⟨fun i x hx hz=>?_,?_,fun i x e hx he=>?_,fun i i' x x' e e' hx uc he tm mU=>?_,fun i x hx NV=>?_,fun i x hx hz=>?_,fun i x hx=>?_,fun i x hx=>?_⟩
 .rcases pi i x hx with⟨rfl,rfl⟩|⟨rfl,rfl⟩|⟨_,_,hx⟩
  .exact absurd (hd.1▸hz) DM
  .exact absurd (hq.1▸hz) Jh
  .exact h.z i x hx hz
 .obtain⟨r,a1,a2,a3,a4⟩:=h.r0;by_cases e:(0:Nat)=n
  .subst e;rw[a1]at hn;cases hn;exact⟨d',h1,by rw[hd.1];exact a2,by rw[hd.2.2];exact a3,by rw[hd.2.1];exact a4⟩
  .exact⟨r,by rw[h3 0 e (fun e=>xw e.symm)];exact a1,a2,a3,a4⟩
 .rcases back i x e hx he with⟨y,hy,PB⟩|⟨rfl,rfl⟩
  .obtain⟨j,z,a1,a2,a3,a4,a5,a6⟩:=h.tr i y e hy PB;by_cases ej:j=n
   .subst ej;rw[hn]at a3;cases a3;exact⟨j,d',a1,a2,h1,by rw[hd.1];exact a4,by rw[hd.2.2];exact a5,by rw[hd.1,hd.2.1];exact a6⟩
   .have ejp:j≠p:=fun e=>by subst e;rw[hp]at a3;cases a3;omega
    exact⟨j,z,a1,a2,by rw[h3 j ej ejp];exact a3,a4,a5,a6⟩
  .refine⟨p,q',rfl,xw,h2,by rw[hq.1];exact Jh,hq.2.1,fun hk=>?_⟩
   rw[hq.2.2.2,if_pos (by rw[<-hq.1];exact hk)]
 .rcases back i x e hx he with⟨y,hy,PB⟩|⟨rfl,rfl⟩
  .rcases back i' x' e' uc tm with⟨y',WW,M8⟩|⟨rfl,rfl⟩
   .exact h.un i i' y y' e e' hy WW PB M8 mU
   .exact absurd mU (nop i y e hy PB)
  .rcases back i' x' e' uc tm with⟨y',WW,M8⟩|⟨rfl,rfl⟩
   .exact absurd mU.symm (nop i' y' e' WW M8)
   .exact⟨rfl,rfl⟩
 .rcases pi i x hx with⟨rfl,rfl⟩|⟨rfl,rfl⟩|⟨_,_,hx⟩
  .exact N8 _ (h.lk _ d hn lH)
  .exact .step (N8 _ (h.lk _ d hn lH)) h1 ((Rl _).2 (.inr rfl)) rfl
  .exact N8 _ (h.lk i x hx NV)
 .rcases pi i x hx with⟨rfl,rfl⟩|⟨rfl,rfl⟩|⟨_,_,hx⟩
  .exact absurd (hd.2.2▸hz) lH
  .rw[hq.2.1]at hz;omega
  .exact h.em i x hx hz
 .rcases pi i x hx with⟨rfl,rfl⟩|⟨rfl,rfl⟩|⟨_,_,hx⟩
  .rw[hd.2.2];exact h.lr i d hn
  .exact .inr hq.2.1
  .exact h.lr i x hx
 .have key:∀(i:Nat)(y:Sk),t[i]? =some y->(y.up=i\/y.up=0\/y.ah=2/\∃(u:Nat)(x:Sk)(e:NE),y.up=u/\t'[u]? =some x/\e∈x.es/\e.2=i):=fun i y hy=>by
   rcases h.ux i y hy with a|a|⟨a0,u,z,e,a1,a2,a3,a4⟩
   .exact .inl a
   .exact .inr (.inl a)
   .obtain⟨z',b1,_,b2⟩:=fwd u z a2;exact .inr (.inr ⟨a0,u,z',e,a1,b1,b2 e a3,a4⟩)
  rcases pi i x hx with⟨rfl,rfl⟩|⟨rfl,rfl⟩|⟨_,_,hx⟩
  .rw[hd.2.1,hd.1];exact key i d hn
  .rw[hq.2.2.2,hq.1];by_cases e2:q.ah=2
   .rw[if_pos e2];exact .inr (.inr ⟨e2,n,d',_,rfl,h1,(Rl _).2 (.inr rfl),rfl⟩)
   .rw[if_neg e2];exact key i q hp
  .exact key i x hx
theorem Tree.Fs{t t':List Sk}(h:Tree t){n p:Nat}{d q d' q':Sk}{e0:NE}(hn:t[n]? =some d)(CI:e0∈d.es)(hep:e0.2=(p:Int))(hp:t[p]? =some q)(M7:q.es=[])(h1:t'[n]? =some d')(h2:t'[p]? =some q')(h3:∀j,j≠n->j≠p->t'[j]? =t[j]?)(hd:d'.ah=d.ah/\d'.up=d.up/\d'.am=d.am)(Rl:∀e,e∈d'.es↔e∈d.es/\e≠e0)(hq:q'.ah=q.ah/\q'.am=0/\q'.es=[]/\q'.up=if q.ah=2 then(p:Int)else q.up):Tree t':=by
 have Fr:n≠p:=fun e=>by subst e;rw[hn]at hp;cases hp;rw[M7]at CI;cases CI
 obtain⟨p',q2,b1,xw,b3,Jh,Il,_⟩:=h.tr n d e0 hn CI;have:p'=p:=om;subst this;rw[hp]at b3;cases b3;have DM:d.ah≠0:=fun e=>by rw[h.z n d hn e]at CI;cases CI
 have pi:∀(i:Nat)x,t'[i]? =some x->(i=n/\x=d')\/(i=p'/\x=q')\/(i≠n/\i≠p'/\t[i]? =some x):=fun i x hx=>by
  by_cases e:i=n
  .subst e;rw[h1]at hx;cases hx;exact .inl ⟨rfl,rfl⟩
  .by_cases e2:i=p'
   .subst e2;rw[h2]at hx;cases hx;exact .inr (.inl ⟨rfl,rfl⟩)
   .rw[h3 i e e2]at hx;exact .inr (.inr ⟨e,e2,hx⟩)
 have back:∀(i:Nat)x e,t'[i]? =some x->e∈x.es->∃y,t[i]? =some y/\e∈y.es/\e≠e0:=fun i x e hx he=>by
  rcases pi i x hx with⟨rfl,rfl⟩|⟨rfl,rfl⟩|⟨c1,_,hx⟩
  .exact⟨d,hn,((Rl e).1 he).1,((Rl e).1 he).2⟩
  .rw[hq.2.2.1]at he;cases he
  .exact⟨x,hx,he,fun e1=>by subst e1;exact c1 (h.un i n x d e e hx hn he CI rfl).1⟩
 have fwd:∀(i:Nat)x,t[i]? =some x->∃x',t'[i]? =some x'/\x'.ah=x.ah/\∀e,e∈x.es->e≠e0->e∈x'.es:=fun i x hx=>by
  by_cases e:i=n
  .subst e;rw[hn]at hx;cases hx;exact⟨d',h1,hd.1,fun e he fc=>(Rl e).2 ⟨he,fc⟩⟩
  .by_cases e2:i=p'
   .subst e2;rw[hp]at hx;cases hx;exact⟨q',h2,hq.1,fun e he=>by rw[M7]at he;cases he⟩
   .exact⟨x,by rw[h3 i e e2];exact hx,rfl,fun _ h _=>h⟩
 have N8:∀i,Lk t i->i≠p'->Lk t' i:=fun i hi=>by
  induction hi with
  |ar=>exact fun _=>.ar
  | @step i j x e hl hx he hj ih=>
   intro hjp;have Ua:i≠p':=fun e1=>by subst e1;rw[hp]at hx;cases hx;rw[M7]at he;cases he
   obtain⟨x',a1,_,a2⟩:=fwd i x hx;exact .step (ih Ua) a1 (a2 e he fun e1=>hjp (by subst e1;omega)) hj
 refine⟨fun i x hx hz=>?_,?_,fun i x e hx he=>?_,fun i i' x x' e e' hx uc he tm mU=>?_,fun i x hx NV=>?_,fun i x hx hz=>?_,fun i x hx=>?_,fun i x hx=>?_⟩
 .rcases pi i x hx with⟨rfl,rfl⟩|⟨rfl,rfl⟩|⟨_,_,hx⟩
  .exact absurd (hd.1▸hz) DM
  .exact absurd (hq.1▸hz) Jh
  .exact h.z i x hx hz
 .obtain⟨r,a1,a2,a3,a4⟩:=h.r0;by_cases e:(0:Nat)=n
  .subst e;rw[a1]at hn;cases hn;exact⟨d',h1,by rw[hd.1];exact a2,by rw[hd.2.2];exact a3,by rw[hd.2.1];exact a4⟩
  .exact⟨r,by rw[h3 0 e (fun e=>xw e.symm)];exact a1,a2,a3,a4⟩
 .obtain⟨y,hy,PB,fc⟩:=back i x e hx he;obtain⟨j,z,a1,a2,a3,a4,a5,a6⟩:=h.tr i y e hy PB;by_cases ej:j=n
  .subst ej;rw[hn]at a3;cases a3;exact⟨j,d',a1,a2,h1,by rw[hd.1];exact a4,by rw[hd.2.2];exact a5,by rw[hd.1,hd.2.1];exact a6⟩
  .have ejp:j≠p':=fun e1=>by subst e1;exact fc (h.un i n y d e e0 hy hn PB CI (a1.trans hep.symm)).2
   exact⟨j,z,a1,a2,by rw[h3 j ej ejp];exact a3,a4,a5,a6⟩
 .obtain⟨y,hy,PB,_⟩:=back i x e hx he;obtain⟨y',WW,M8,_⟩:=back i' x' e' uc tm;exact h.un i i' y y' e e' hy WW PB M8 mU
 .rcases pi i x hx with⟨rfl,rfl⟩|⟨rfl,rfl⟩|⟨_,c2,hx⟩
  .exact N8 _ (h.lk _ d hn fun e=>by rw[h.em i d hn e]at CI;cases CI) Fr
  .exact absurd hq.2.1 NV
  .exact N8 _ (h.lk i x hx NV) c2
 .rcases pi i x hx with⟨rfl,rfl⟩|⟨rfl,rfl⟩|⟨_,_,hx⟩
  .rw[h.em i d hn (hd.2.2▸hz)]at CI;cases CI
  .exact hq.2.2.1
  .exact h.em i x hx hz
 .rcases pi i x hx with⟨rfl,rfl⟩|⟨rfl,rfl⟩|⟨_,_,hx⟩
  .rw[hd.2.2];exact h.lr i d hn
  .exact .inl hq.2.1
  .exact h.lr i x hx
 .have key:∀(i:Nat)(y:Sk),t[i]? =some y->i≠p'->(y.up=i\/y.up=0\/y.ah=2/\∃(u:Nat)(x:Sk)(e:NE),y.up=u/\t'[u]? =some x/\e∈x.es/\e.2=i):=fun i y hy Ua=>by
   rcases h.ux i y hy with a|a|⟨a0,u,z,e,a1,a2,a3,a4⟩
   .exact .inl a
   .exact .inr (.inl a)
   .obtain⟨z',b1,_,b2⟩:=fwd u z a2;exact .inr (.inr ⟨a0,u,z',e,a1,b1,b2 e a3 fun e1=>Ua (by subst e1;omega),a4⟩)
  rcases pi i x hx with⟨rfl,rfl⟩|⟨rfl,rfl⟩|⟨_,c2,hx⟩
  .rw[hd.2.1,hd.1];exact key i d hn Fr
  .rw[hq.2.2.2,hq.1];by_cases e2:q.ah=2
   .rw[if_pos e2];exact .inl rfl
   .rw[if_neg e2];rcases h.ux i q hp with a|a|⟨a0,_⟩
    .exact .inl a
    .exact .inr (.inl a)
    .exact absurd a0 e2
  .exact key i x hx c2
theorem Tree.sub{t t':List Sk}(h:Tree t){M:Nat->Prop}(h0:M 0)(fU:∀(i:Nat)d e(j:Nat),M i->t[i]? =some d->e∈d.es->e.2=(j:Nat)->M j)(h1:∀(i:Nat)d,M i->t[i]? =some d->d.ah≠0->t'[i]? =some d)(h2:∀(i:Nat)d',t'[i]? =some d'->d'=skZ\/t[i]? =some d'/\M i):Tree t':=by
 have hM:∀i,Lk t i->M i:=fun i hi=>by
  induction hi with
  |ar=>exact h0
  |step _ hd he hj ih=>exact fU _ _ _ _ ih hd he hj
 have kE:∀(i:Nat)d e,t[i]? =some d->e∈d.es->d.ah≠0:=fun i d e hd he hz=>by rw[h.z i d hd hz]at he;cases he
 have oE:∀(i:Nat)d e,t[i]? =some d->e∈d.es->M i:=fun i d e hd he=>hM i (h.lk i d hd fun hz=>by rw[h.em i d hd hz]at he;cases he)
 have N8:∀i,Lk t i->Lk t' i:=fun i hi=>hi.mono fun i d hd hn=>by obtain⟨e,hx⟩:=acG _ hn;exact⟨d,h1 i d (oE i d e hd hx) hd (kE i d e hd hx),fun _ h=>h⟩
 have bk:∀(i:Nat)d e,t'[i]? =some d->e∈d.es->t[i]? =some d/\M i:=fun i d e hd he=>by
  rcases h2 i d hd with rfl|h
  .cases he
  .exact h
 refine⟨fun i d hd hz=>?_,?_,fun i d e hd hx=>?_,fun i i' d d' e e' hd zm hx uc mU=>h.un i i' d d' e e' (bk i d e hd hx).1 (bk i' d' e' zm uc).1 hx uc mU,fun i d hd hn=>?_,fun i d hd hn=>?_,fun i d hd=>?_,fun i d hd=>?_⟩
 .rcases h2 i d hd with h'|⟨h',_⟩
  .exact h'
  .exact h.z i d h' hz
 .obtain⟨d,a1,a2,a3⟩:=h.r0;exact⟨d,h1 0 d h0 a1 om,a2,a3⟩
 .obtain⟨zm,hm⟩:=bk i d e hd hx;obtain⟨j,x,a1,a2,a3,a4,a5⟩:=h.tr i d e zm hx;exact⟨j,x,a1,a2,h1 j x (fU i d e j hm zm hx a1) a3 a4,a4,a5⟩
 .rcases h2 i d hd with rfl|⟨h',_⟩
  .exact absurd rfl hn
  .exact N8 i (h.lk i d h' hn)
 .rcases h2 i d hd with rfl|⟨h',_⟩
  .rfl
  .exact h.em i d h' hn
 .rcases h2 i d hd with rfl|⟨h',_⟩
  .exact .inl rfl
  .exact h.lr i d h'
 .rcases h2 i d hd with rfl|⟨h',_⟩
  .exact .inr (.inl rfl)
  .rcases h.ux i d h' with a|a|⟨a0,u,x,e,a1,a2,a3,a4⟩
   .exact .inl a
   .exact .inr (.inl a)
   .exact .inr (.inr ⟨a0,u,x,e,a1,h1 u x (oE u x e a2 a3) a2 (kE u x e a2 a3),a3,a4⟩)
theorem Tree.take{t:List Sk}(h:Tree t){n:Nat}(hn:1<=n)(hz:∀(i:Nat)d,n<=i->t[i]? =some d->d.ah=0):Tree (t.take n):=by
 have get:∀(i:Nat)d,(t.take n)[i]? =some d->t[i]? =some d:=fun i d hd=>by
  rw[abm]at hd;split at hd
  .exact hd
  .cases hd
 have put:∀(i:Nat)d,t[i]? =some d->d.ah≠0->(t.take n)[i]? =some d:=fun i d hd hk=>by
  rw[abm,if_pos (acS fun hle=>hk (hz i d hle hd))]
  exact hd
 have kE:∀(i:Nat)d e,t[i]? =some d->e∈d.es->d.ah≠0:=fun i d e hd he hz=>by rw[h.z i d hd hz]at he;cases he
 refine⟨fun i d hd hz=>h.z i d (get i d hd) hz,?_,fun i d e hd hx=>?_,fun i i' d d' e e' hd zm hx uc mU=>h.un i i' d d' e e' (get i d hd) (get i' d' zm) hx uc mU,fun i d hd hn=>?_,fun i d hd hn=>h.em i d (get i d hd) hn,fun i d hd=>h.lr i d (get i d hd),fun i d hd=>?_⟩
 .obtain⟨d,a1,a2,a3⟩:=h.r0;exact⟨d,put 0 d a1 om,a2,a3⟩
 .obtain⟨j,x,a1,a2,a3,a4,a5⟩:=h.tr i d e (get i d hd) hx;exact⟨j,x,a1,a2,put j x a3 a4,a4,a5⟩
 .refine(h.lk i d (get i d hd) hn).mono fun i d hd fc=>?_
  obtain⟨e,hx⟩:=acG _ fc;exact⟨d,put i d hd (kE i d e hd hx),fun _ h=>h⟩
 .rcases h.ux i d (get i d hd)with a|a|⟨a0,u,x,e,a1,a2,a3,a4⟩
  .exact .inl a
  .exact .inr (.inl a)
  .exact .inr (.inr ⟨a0,u,x,e,a1,put u x a2 (kE u x e a2 a3),a3,a4⟩)
end Kn
namespace Kn
structure Ft(l:List Obj)(o:Obj):Prop where
 eq:o.ak=(d7 o).map eG
 Df:Ea (d7 o)
 cT:o.ah≠2->o.ak=[]
 to:∀e,e∈d7 o->e.1.size<=12/\∃(j:Nat)(x:Obj),e.2=j/\l[j]? =some x/\x.ah≠0
def fR(l:List Obj)(z:Int):Prop:=∃(j:Nat)(x:Obj),z=j/\l[j]? =some x/\x.ah≠0
def fK(k:Kr)(z r:Int):Prop:=(0<=r/\r<=4095)/\∃(n:Nat)(o:bi),z=n/\k.ops[n]? =some o/\fR k.l o.bD
structure KI(k:Kr):Prop where
 ll:k.l.length<=40
 lo:k.ops.length<=60
 lp:k.ps.length<=8
 sm:∀o,o∈k.l->o.sm
 sl:∀x,x∈k.ps->x.aJ.length<=10
 ne:k.ps≠[]
 aW:∀x,x∈k.ps->x.aQ=false->x.aJ=[]
 cap:∀x,x∈k.ps->∀s,s∈x.aJ->s.has=true->fK k s.dk s.bZ
 qu:∀o,o∈k.l->∀q,q∈o.aj->q.has=true->fK k q.dk q.bZ
 pr:∀o,o∈k.l->o.ah=5->∃n:Nat,o.aM=n/\n<k.ps.length
 en:∀o,o∈k.l->Ft k.l o
 z:∀o,o∈k.l->o.ah=0->o=eQ
 pe:∀(i:Nat)o,k.l[i]? =some o->o.ah=4->o.aD= -1\/∃(j:Nat)(x:Obj),o.aD=j/\k.l[j]? =some x/\x.ah=4/\x.aD=i
 dh:∀o,o∈k.ops->0<=o.dh/\o.dh<=64
 PC:∀o,o∈k.l->o.data.length<=60
 rK:Tree (k.l.map ur)
theorem KI.kr{k:Kr}(h:KI k):dF k.l k.ops k.ps:=⟨h.sm,by have:=h.ll;omega,by have:=h.lo;omega,by have:=h.lp;omega,h.sl,h.ne⟩
theorem gd{l:List Obj}{i:Nat}{o:Obj}(h:l[i]? =some o):(l.map ur)[i]? =some (ur o):=by rw[Q8,h];rfl
theorem oH{l:List Obj}{i:Nat}{d:Sk}(h:(l.map ur)[i]? =some d):∃o,l[i]? =some o/\d=ur o:=by
 rw[Q8]at h;cases ho:l[i]? with
 |none=>rw[ho]at h;cases h
 |some o=>rw[ho]at h;cases h;exact⟨o,rfl,rfl⟩
theorem KI.up{k:Kr}(h:KI k){o:Obj}(ho:o∈k.l):0<=o.up/\o.up<k.l.length:=by obtain⟨i,hi⟩:=Xf ho;have:=h.rK.WU (gd hi);rwa [Nq]at this
theorem KI.ar{k:Kr}(h:KI k):∃o,k.l[0]? =some o/\o.ah=2:=by obtain⟨d,h1,h2,_⟩:=h.rK.r0;obtain⟨o,h3,rfl⟩:=oH h1;exact⟨o,h3,h2⟩
theorem KI.pos{k:Kr}(h:KI k):0<k.l.length:=by obtain⟨o,h1,_⟩:=h.ar;exact(Mh.1 h1).1
theorem Ft.len{l:List Obj}{o:Obj}(h:Ft l o):(d7 o).length=o.ak.length:=by have:=congrArg List.length h.eq;rw[Nq]at this;exact this.symm
theorem KI.Df{k:Kr}(h:KI k):wo k.l:=by
 refine⟨⟨by have:=h.ll;omega,fun o ho=>(h.sm o ho).mL⟩,fun o ho=>?_⟩
 have he:=h.en o ho;refine⟨d7 o,he.eq,he.Df,by rw[he.len];have:=(h.sm o ho).e;omega,fun e hx=>?_⟩
 obtain⟨_,j,x,h1,h2,_⟩:=he.to e hx;have:=(Mh.1 h2).1;omega
theorem KI.lk{k:Kr}(h:KI k):m6 (k.l.map Obj.ob):=by
 refine⟨by rw[Nq];have:=h.ll;omega,by rw[Nq];exact h.pos,fun o ho=>?_,fun o ho=>?_,fun o ho=>?_⟩
 .obtain⟨x,hx,rfl⟩:=aaQ.1 ho;have he:=h.en x hx;refine⟨d7 x,he.eq,he.Df,fun e YU=>?_,fun hk=>?_⟩
  .obtain⟨_,j,y,h1,h2,_⟩:=he.to e YU;have:=(Mh.1 h2).1;rw[Nq];omega
  .have:=he.cT hk;show x.ak.map nq=[];rw[this];rfl
 .obtain⟨x,hx,rfl⟩:=aaQ.1 ho;have:=(h.sm x hx).e;show x.ak.length<=64;omega
 .obtain⟨x,hx,rfl⟩:=aaQ.1 ho;have:=h.up hx;rw[Nq];exact this
def yQ(x o:Obj):Prop:=x=o\/x={o with aD:= -1}
theorem yQ.all{x o:Obj}(h:yQ x o):x.ah=o.ah/\x.data=o.data/\x.ak=o.ak/\x.target=o.target/\x.aj=o.aj/\x.aM=o.aM/\x.am=o.am/\x.up=o.up:=by
 rcases h with rfl|rfl<;>exact⟨rfl,rfl,rfl,rfl,rfl,rfl,rfl,rfl⟩
theorem yQ.sk{x o:Obj}(h:yQ x o):ur x=ur o:=by obtain⟨h1,_,h2,_,_,_,h3,h4⟩:=h.all;unfold ur d7;rw[h1,h2,h3,h4]
theorem kg{l:List Obj}(hz:∀o,o∈l->o.ah=0->o=eQ)(b:Mk){i:Nat}{o:Obj}(ho:l[i]? =some o):
  (cy b l l.length i o=eQ/\(o.ah=0\/¬dx b.O i))\/(dx b.O i/\o.ah≠0/\((cy b l l.length i o=o/\(o.ah=4->∀(j:Nat)x,o.aD=j->l[j]? =some x->x.ah≠0->dx b.O j))\/
   (cy b l l.length i o={o with aD:= -1}/\o.ah=4/\∃(j:Nat)(x:Obj),o.aD=j/\l[j]? =some x/\¬dx b.O j))):=by
 have hi:=(Mh.1 ho).1;have LK:∀j,(b.O[j]? ==some true)=true↔dx b.O j:=fun j=>by unfold dx;simp
 have mE:∀(j:Nat)x,l[j]? =some x->(dB b l j=true↔¬dx b.O j/\x.ah≠0):=fun j x hx=>by unfold dB;rw[hx];simp only[ZM,abX,bne_iff_ne,ne_eq];rw[<-LK j];simp
 unfold cy;by_cases h1:(dB b l i&&decide (i<l.length))=true
 .rw[if_pos h1];rw[ZM]at h1;exact .inl ⟨rfl,.inr ((mE i o ho).1 h1.1).1⟩
 .rw[if_neg h1];have qz:¬dB b l i=true:=fun h=>h1 (by rw[h];simpa using hi)
  by_cases hk:o.ah=0
  .have:=hz o (Rq ho) hk;subst this;exact .inl ⟨rfl,.inl rfl⟩
  .have hM:dx b.O i:=aaH fun hn=>qz ((mE i o ho).2 ⟨hn,hk⟩)
   refine .inr ⟨hM,hk,?_⟩;by_cases h2:(o.ah==4&&jK b l l.length o.aD)=true
   .rw[if_pos h2];rw[ZM]at h2;refine .inr ⟨rfl,by simpa using h2.1,?_⟩
    have h3:=h2.2;unfold jK at h3;rw[ZM,decide_eq_true_eq]at h3;obtain⟨⟨h4,h5⟩,h6⟩:=h3;refine⟨o.aD.toNat,l[o.aD.toNat],om,IE h5,((mE _ _ (IE h5)).1 h6).1⟩
   .rw[if_neg h2];refine .inl ⟨rfl,fun h4 j x hp hx WX=>?_⟩
    refine aaH fun hn=>h2 ?_
    have hj:=(Mh.1 hx).1;rw[h4,ZM];refine⟨rfl,?_⟩;unfold jK;rw[hp,Z3,(mE j x hx).2 ⟨hn,WX⟩,ada,decide_eq_true_eq];omega
theorem Ji(L:List Obj)(k t:Nat)(x:aT):vK L k t x=eR\/vK L k t x=x:=by
 unfold vK;split
 .exact .inl rfl
 .exact .inr rfl
theorem PD:eQ.data.length<=60:=by simp[eQ]
theorem KI.LL{k c:Kr}{en:Bool}(h:KI k)(ho:cL k.l k.ops k.ps c.l c.ops c.ps en):KI c:=by
 obtain⟨b,hb,hL,hP⟩:=ho.ex;have hR:=ho.pr;have pi:∀(i:Nat)x,c.l[i]? =some x->x=eQ\/∃o,k.l[i]? =some o/\dx b.O i/\o.ah≠0/\yQ x o:=fun i x hx=>by
  obtain⟨o,h1,h2⟩:=hL.get hx;rcases kg h.z b h1 with⟨h3,_⟩|⟨h3,h4,h5⟩
  .exact .inl (h2.trans h3)
  .refine .inr ⟨o,h1,h3,h4,?_⟩;rcases h5 with⟨h5,_⟩|⟨h5,_⟩
   .exact .inl (h2.trans h5)
   .exact .inr (h2.trans h5)
 have eS:∀(i:Nat)o,k.l[i]? =some o->dx b.O i->o.ah≠0->∃x,c.l[i]? =some x/\yQ x o:=fun i o h1 hM hk=>by
  refine⟨_,hL.2 i o h1,?_⟩;rcases kg h.z b h1 with⟨_,h4|h4⟩|⟨_,_,⟨h5,_⟩|⟨h5,_⟩⟩
  .exact absurd h4 hk
  .exact absurd hM h4
  .exact .inl h5
  .exact .inr h5
 have Au:∀z,fR k.l z->(∀n:Nat,vO k.l z n->dx b.O n)->fR c.l z:=fun z⟨j,x,h1,h2,h3⟩hm=>by
  obtain⟨y,h4,h5⟩:=eS j x h2 (hm j ⟨h1,x,h2,h3⟩) h3;exact⟨j,y,h1,h4,by rw[h5.all.1];exact h3⟩
 have ei:∀z r,fK k z r->(∀n:Nat,vP k.ops z n->dx b.P n)->fK c z r:=fun z r⟨hr,n,o,h1,h2,h3⟩hm=>by
  have hn:=(Mh.1 h2).1;have hM:=hm n ⟨h1,hn⟩;refine⟨hr,n,o,h1,?_,Au _ h3 fun j hv=>hb.cl.p n o hM h2 j hv⟩
  rw[hP.2 n o h2,zL,if_neg];have:(b.P[n]? ==some true)=true:=by unfold dx at hM;rw[hM];rfl
  rw[this];simp
 have hlen:c.l.length=k.l.length:=hL.1;have mem:∀x,x∈c.l->∃i:Nat,c.l[i]? =some x:=fun x hx=>Xf hx
 have M9:∀x,x∈c.ps->x=eR\/x∈k.ps:=fun x hx=>by
  obtain⟨t,ht⟩:=Xf hx;obtain⟨o,h1,h2⟩:=hR.get ht;rcases Ji c.l k.ps.length t o with h3|h3
  .exact .inl (h2.trans h3)
  .exact .inr (by rw[h2,h3];exact Rq h1)
 refine⟨by rw[hlen];exact h.ll,by rw[hP.1];exact h.lo,by rw[hR.1];exact h.lp,(ho.kr h.kr).sm,(ho.kr h.kr).sl,(ho.kr h.kr).ne,fun x hx hl=>?_,fun x hx s hs hh=>?_,fun o im q hq hh=>?_,fun o im h5=>?_,fun o im=>?_,fun o im hk=>?_,fun i o hi h4=>?_,fun o im=>?_,fun o im=>?_,?_⟩
 .rcases M9 x hx with rfl|hx
  .rfl
  .exact h.aW x hx hl
 .rcases M9 x hx with rfl|uc
  .cases hs
  .cases hl:x.aQ with
   |false=>rw[h.aW x uc hl]at hs;cases hs
   |true=>
    obtain⟨p,hp⟩:=Xf uc;exact ei _ _ (h.cap x uc s hs hh) fun n hv=>hb.oe.2 p x hp hl s hs hh n hv
 .obtain⟨i,hi⟩:=mem o im;rcases pi i o hi with rfl|⟨y,h1,hM,hk,hs⟩
  .cases hq
  .rw[hs.all.2.2.2.2.1]at hq;exact ei _ _ (h.qu y (Rq h1) q hq hh) fun n hv=>hb.cl.q i y hM h1 q.dk n ⟨q,hq,hh,rfl⟩ hv
 .obtain⟨i,hi⟩:=mem o im;rcases pi i o hi with rfl|⟨y,h1,hM,hk,hs⟩
  .cases h5
  .rw[hs.all.1]at h5;rw[hs.all.2.2.2.2.2.1,hR.1];exact h.pr y (Rq h1) h5
 .obtain⟨i,hi⟩:=mem o im;rcases pi i o hi with rfl|⟨y,h1,hM,hk,hs⟩
  .exact⟨rfl,List.Pairwise.nil,fun _=>rfl,fun e he=>by cases he⟩
  .have he:=h.en y (Rq h1);have mU:d7 o=d7 y:=by unfold d7;rw[hs.all.2.2.1]
   refine⟨by rw[hs.all.2.2.1,mU];exact he.eq,by rw[mU];exact he.Df,fun hn=>by rw[hs.all.2.2.1];exact he.cT (by rw[<-hs.all.1];exact hn),fun e hx=>?_⟩
   rw[mU]at hx;obtain⟨h2,j,x,h3,h4,h5⟩:=he.to e hx;have DC:sE y e.2:=⟨e.1,by rw[he.eq];exact aaQ.2 ⟨e,hx,rfl⟩⟩
   obtain⟨x',h6,h7⟩:=eS j x h4 (hb.cl.e i y hM h1 e.2 j DC ⟨h3,x,h4,h5⟩) h5;exact⟨h2,j,x',h3,h6,by rw[h7.all.1];exact h5⟩
 .obtain⟨i,hi⟩:=mem o im;rcases pi i o hi with rfl|⟨y,h1,hM,pd,hs⟩
  .rfl
  .exact absurd (hs.all.1▸hk) pd
 .obtain⟨y,h1,h2⟩:=hL.get hi;rcases kg h.z b h1 with⟨h3,_⟩|⟨hM,hk,h5⟩
  .rw[h2,h3]at h4;cases h4
  .rcases h5 with⟨h5,h6⟩|⟨h5,_⟩
   .rw[h2,h5]at h4⊢;rcases h.pe i y h1 h4 with h7|⟨j,x,h7,h8,h9,S0⟩
    .exact .inl h7
    .refine .inr ⟨j,cy b k.l k.l.length j x,h7,hL.2 j x h8,?_⟩;have Ub:=h6 h4 j x h7 h8 om;rcases kg h.z b h8 with⟨_,J6|J6⟩|⟨_,_,⟨J6,_⟩|⟨_,_,j',x',F7,Dg,MW⟩⟩
     .omega
     .exact absurd Ub J6
     .rw[J6];exact⟨h9,S0⟩
     .have:j'=i:=om;subst this;exact absurd hM MW
   .rw[h2,h5];exact .inl rfl
 .obtain⟨t,ht⟩:=Xf im;obtain⟨x,h1,h2⟩:=hP.get ht;rw[h2,zL];split
  .exact⟨acP _,by show(0:Int)<=64;omega⟩
  .exact h.dh x (Rq h1)
 .obtain⟨i,hi⟩:=mem o im;rcases pi i o hi with rfl|⟨y,h1,hM,hk,hs⟩
  .exact PD
  .rw[hs.all.2.1];exact h.PC y (Rq h1)
 .obtain⟨r,AW,uo⟩:=h.ar;refine h.rK.sub (M:=dx b.O) (hb.oe.1 0 ⟨rfl,r,AW,om⟩) (fun i d e j hM hd he hj=>?_) (fun i d hM hd hk=>?_) (fun i d' zm=>?_)
  .obtain⟨o,h1,rfl⟩:=oH hd;have mX:=h.en o (Rq h1);obtain⟨_,j',x,h3,h4,h5⟩:=mX.to e he;have:j'=j:=om;subst this;exact hb.cl.e i o hM h1 e.2 j' ⟨e.1,by rw[mX.eq];exact aaQ.2 ⟨e,he,rfl⟩⟩ ⟨h3,x,h4,h5⟩
  .obtain⟨o,h1,rfl⟩:=oH hd;obtain⟨x,h2,h3⟩:=eS i o h1 hM hk;rw[<-h3.sk];exact gd h2
  .obtain⟨x,h1,rfl⟩:=oH zm;rcases pi i x h1 with rfl|⟨y,h2,hM,hk,hs⟩
   .exact .inl rfl
   .exact .inr ⟨by rw[hs.sk];exact gd h2,hM⟩
theorem Na{α:Type}{l:List α}{n i:Nat}{x:α}(h:(l.take n)[i]? =some x):l[i]? =some x/\i<n:=by
 rw[abm]at h;split at h
 .exact⟨h,by assumption⟩
 .cases h
theorem CJ{α:Type}{l:List α}{n i:Nat}{x:α}(h:l[i]? =some x)(hi:i<n):(l.take n)[i]? =some x:=by rw[abm,if_pos hi];exact h
theorem Jj(O:List Obj)(k t:Nat)(x:aT):ru O k t x=eR\/ru O k t x=x:=by
 unfold ru;split
 .exact .inl rfl
 .exact .inr rfl
theorem KI.iC{c d:Kr}(h:KI c)(hf:gl c d):KI d:=by
 obtain⟨n1,n2,n3,P,h1,h2,h3,h4,rfl⟩:=hf.ex;have eS:∀(i:Nat)o,c.l[i]? =some o->o.ah≠0->(c.l.take n1)[i]? =some o:=fun i o ho hk=>CJ ho (acS fun hle=>hk (by simpa[qO]using h1.t.dr i o hle ho))
 have Au:∀z,fR c.l z->fR (c.l.take n1) z:=fun z⟨j,x,a1,a2,a3⟩=>⟨j,x,a1,eS j x a2 a3,a3⟩
 have ei:∀z r,fK c z r->fK ⟨c.l.take n1,c.ops.take n2,P.take n3⟩ z r:=fun z r⟨hr,n,o,a1,a2,a3⟩=>by
  refine⟨hr,n,o,a1,CJ a2 (acS fun hle=>?_),Au _ a3⟩
  have hq:=h2.t.dr n o hle a2;obtain⟨j,_,e,_⟩:=a3;simp only[qP,decide_eq_true_eq]at hq;omega
 have dz:=h.pos;have pQ:1<=n1:=by have:=h1.t.mn;omega
 have VZ:P.length=c.ps.length:=h3.1;have mJ:0<c.ps.length:=ac5.2 h.ne;have Wp:1<=n3:=by have:=h4.t.mn;omega
 have afg:=h4.t.le;have M9:∀x,x∈P.take n3->x=eR\/x∈c.ps:=fun x hx=>by
  obtain⟨t,ht⟩:=Xf (abC hx);obtain⟨o,a1,a2⟩:=h3.get ht;rcases Jj (c.l.take n1) c.ps.length t o with a3|a3
  .exact .inl (a2.trans a3)
  .exact .inr (by rw[a2,a3];exact Rq a1)
 have kr:=hf.kr h.kr;refine⟨?_,?_,?_,kr.sm,kr.sl,kr.ne,fun x hx hl=>?_,fun x hx s hs hh=>?_,fun o ho q hq hh=>ei _ _ (h.qu o (abC ho) q hq hh),fun o ho h5=>?_,fun o ho=>?_,fun o ho hk=>h.z o (abC ho) hk,fun i o hi hk=>?_,fun o ho=>h.dh o (abC ho),fun o ho=>h.PC o (abC ho),?_⟩
 .show(c.l.take n1).length<=40;rw[Z4];have:=h.ll;omega
 .show(c.ops.take n2).length<=60;rw[Z4];have:=h.lo;omega
 .show(P.take n3).length<=8;rw[Z4];have:=h.lp;omega
 .rcases M9 x hx with rfl|hx
  .rfl
  .exact h.aW x hx hl
 .rcases M9 x hx with rfl|hx
  .cases hs
  .exact ei _ _ (h.cap x hx s hs hh)
 .obtain⟨n,a1,a2⟩:=h.pr o (abC ho) h5;refine⟨n,a1,?_⟩;show n<(P.take n3).length;rw[Z4];refine Nat.lt_min.2 ⟨acS fun hle=>?_,om⟩
  have hq:=h4.t.dr n P[n] hle (IE om);simp only[qR,ZM,abX]at hq;have:(c.l.take n1).any (cH (n:Int))=true:=abt.2 ⟨o,ho,by simp[cH,h5,a1]⟩
  rw[this]at hq;cases hq.2
 .have he:=h.en o (abC ho);refine⟨he.eq,he.Df,he.cT,fun e hx=>?_⟩
  obtain⟨a0,j,x,a1,a2,a3⟩:=he.to e hx;exact⟨a0,j,x,a1,eS j x a2 a3,a3⟩
 .obtain⟨a1,a2⟩:=Na hi;rcases h.pe i o a1 hk with a3|⟨j,x,a3,a4,a5,a6⟩
  .exact .inl a3
  .exact .inr ⟨j,x,a3,eS j x a4 om,a5,a6⟩
 .show Tree ((c.l.take n1).map ur);rw[acu];refine h.rK.take pQ fun i d hle hd=>?_
  obtain⟨o,a1,rfl⟩:=oH hd;have:=h1.t.dr i o hle a1;show o.ah=0;simpa[qO]using this
theorem KI.to{k a:Kr}(h:KI k)(h1:gQ k a):KI a:=by
 induction h1 with
 |refl=>exact h
 |step _ ho ih=>exact ih.LL ho
theorem KI.Rm{k:Kr}(h:KI k):KI (kU k):=by obtain⟨a,c,h1,h2,h3⟩:=(iZ h.kr).ex;exact((h.to h1).LL h2).iC h3
end Kn
namespace Kn
theorem uJ{l:List Ob}{aA:Nat}{aE follow:Bool}{rec:Nat->List bP.dG->Nat->R4}{A:Nat->Prop}{Q:R4->Prop}(h0:∀e,e≠0->Q (R4.no e))(h1:∀a,A a->Q ⟨a,Aa l a,[],0⟩)(h2:∀a w,A a->(lg l a).ah=2->l3 l a w<0->Q ⟨-1,a,w,0⟩)(h3:∀a w,A a->(lg l a).ah=2->¬l3 l a w<0->Q ⟨l3 l a w,a,w,0⟩)(PE:∀a,A a->(lg l a).ah=2->¬(aE=true/\a=aA)->A (Aa l a))(PF:∀a w,A a->(lg l a).ah=2->¬l3 l a w<0->A (l3 l a w).toNat)(zs:∀a rest k,A a->Q (rec a rest k)):∀(parts:List bP.dG)(a:Nat),A a->Q (GR l aA aE follow rec parts a)
 | [],a,ha=>h1 a ha
 |w::rest,a,ha=>by
  rw[GR];split
  .exact h0 11 (by decide)
  .rename_i hk;have hk:(lg l a).ah=2:=by simpa using hk
   split
   .split
    .exact h0 14 (by decide)
    .rename_i hf;exact uJ h0 h1 h2 h3 PE PF zs rest _ (PE a ha hk hf)
   .split
    .rename_i hn;split
     .exact h0 6 (by decide)
     .exact h2 a w ha hk hn
    .rename_i hn;split
     .exact zs a rest _ ha
     .split
      .exact h3 a w ha hk hn
      .exact uJ h0 h1 h2 h3 PE PF zs rest _ (PF a w ha hk hn)
theorem G6{l:List Ob}{aA:Nat}{aE follow:Bool}{A:Nat->Prop}{Q:R4->Prop}(h0:∀e,e≠0->Q (R4.no e))(h1:∀a,A a->Q ⟨a,Aa l a,[],0⟩)(h2:∀a w,A a->(lg l a).ah=2->l3 l a w<0->Q ⟨-1,a,w,0⟩)(h3:∀a w,A a->(lg l a).ah=2->¬l3 l a w<0->Q ⟨l3 l a w,a,w,0⟩)(PE:∀a,A a->(lg l a).ah=2->¬(aE=true/\a=aA)->A (Aa l a))(PF:∀a w,A a->(lg l a).ah=2->¬l3 l a w<0->A (l3 l a w).toNat)(hr:aE=false->A 0):
  ∀(n:Nat)(parts:List bP.dG)(a:Nat),A a->Q (AZ l aA aE follow n parts a)
 |0,parts,a,ha=>uJ h0 h1 h2 h3 PE PF (fun _ _ _ _=>h0 13 (by decide)) parts a ha
 |n+1,parts,a,ha=>by
  refine uJ h0 h1 h2 h3 PE PF (fun a rest k ha=>?_) parts a ha
  rw[Pa];split
  .rename_i h;exact h0 _ h
  .split
   .exact h0 14 (by decide)
   .rename_i hf;refine G6 h0 h1 h2 h3 PE PF hr n _ _ ?_;split
    .rename_i fX;exact hr (by cases aE with|false=>rfl|true=>exact absurd ⟨fX,rfl⟩ hf)
    .exact ha
theorem Jk{l:List Ob}{aA:Int}{s:bP.dG}{aE follow:Bool}{A:Nat->Prop}{Q:R4->Prop}(h0:∀e,e≠0->Q (R4.no e))(h1:∀a,A a->Q ⟨a,Aa l a,[],0⟩)(h2:∀a w,A a->(lg l a).ah=2->l3 l a w<0->Q ⟨-1,a,w,0⟩)(h3:∀a w,A a->(lg l a).ah=2->¬l3 l a w<0->Q ⟨l3 l a w,a,w,0⟩)(PE:∀a,A a->(lg l a).ah=2->¬(aE=true/\a=aA.toNat)->A (Aa l a))(PF:∀a w,A a->(lg l a).ah=2->¬l3 l a w<0->A (l3 l a w).toNat)(hr:aE=false->A 0)(hb:∀n:Nat,aA=n->n<l.length->(lg l n).ah=2->A n):Q (pB l aA s aE follow):=by
 rw[pB];split
 .rename_i hi;obtain⟨n,rfl,hn⟩:=Lu hi;split
  .exact h0 11 (by decide)
  .rename_i hk;have hk:(lg l n).ah=2:=by simpa using hk
   split
   .rename_i h;exact h0 _ h
   .split
    .exact h0 14 (by decide)
    .rename_i hf;refine G6 h0 h1 h2 h3 PE PF hr 6 _ _ ?_;split
     .rename_i fX;exact hr (by cases aE with|false=>rfl|true=>exact absurd ⟨fX,rfl⟩ hf)
     .exact hb n rfl hn hk
 .exact h0 6 (by decide)
theorem Nb{l:List Obj}{n:Nat}{o:Obj}(h:l[n]? =some o):lg (l.map Obj.ob) n=o.ob:=by rw[lg,Q8,h];rfl
theorem WY{l:List Obj}{n:Nat}(h:(lg (l.map Obj.ob) n).ah≠0):∃o,l[n]? =some o/\lg (l.map Obj.ob) n=o.ob:=by
 cases ho:l[n]? with
 |none=>exfalso;apply h;rw[lg,Q8,ho];rfl
 |some o=>exact⟨o,rfl,Nb ho⟩
theorem Ti{l:List Obj}{n:Nat}{o:Obj}(h:l[n]? =some o):Aa (l.map Obj.ob) n=o.up.toNat:=by rw[Aa,Nb h];rfl
theorem Tj{l:List Obj}{n:Nat}{o:Obj}(h:l[n]? =some o)(w:bP.dG):l3 (l.map Obj.ob) n w=fE (d7 o) (bP.cK w):=by rw[l3,Nb h];rfl
theorem PG{l:List Obj}{n:Nat}{o:Obj}(h:l[n]? =some o){w:bP.dG}(hf:¬l3 (l.map Obj.ob) n w<0):∃e,e∈d7 o/\e.1.toList=(bP.cK w).toList/\l3 (l.map Obj.ob) n w=e.2:=by
 rw[Tj h]at hf⊢;rcases jo (d7 o) (bP.cK w)with⟨e,h1,h2,h3⟩|⟨h3,_⟩
 .exact⟨e,h1,h2,h3⟩
 .omega
def CK(l:List Obj)(a:Nat):Prop:=∃o,l[a]? =some o/\o.ah≠0
theorem KI.Nc{k:Kr}(h:KI k){a:Nat}(ha:CK k.l a):CK k.l (Aa (k.l.map Obj.ob) a):=by
 obtain⟨o,h1,h2⟩:=ha;rw[Ti h1];rcases h.rK.ux a (ur o) (gd h1)with h3|h3|⟨_,u,x,e,h3,h4,h5,_⟩
 .have h3:o.up=a:=h3;rw[h3];exact⟨o,h1,h2⟩
 .have h3:o.up=0:=h3;rw[h3];obtain⟨r,h4,h5⟩:=h.ar;exact⟨r,h4,om⟩
 .have h3:o.up=u:=h3;rw[h3];obtain⟨y,h6,rfl⟩:=oH h4;refine⟨y,h6,fun hz=>?_⟩
  have:=h.z y (Rq h6) hz;subst this;cases h5
theorem KI.yR{k:Kr}(h:KI k){a:Nat}{w:bP.dG}(ha:CK k.l a)(hf:¬l3 (k.l.map Obj.ob) a w<0):CK k.l (l3 (k.l.map Obj.ob) a w).toNat/\0<=l3 (k.l.map Obj.ob) a w:=by obtain⟨o,h1,_⟩:=ha;obtain⟨e,h3,_,h4⟩:=PG h1 hf;obtain⟨_,j,x,h5,h6,h7⟩:=(h.en o (Rq h1)).to e h3;rw[h4,h5];exact⟨⟨x,h6,h7⟩,om⟩
theorem KI.Tk{k:Kr}(h:KI k)(aA:Int)(s:bP.dG)(aE follow:Bool):(jx k aA s aE follow).js=0->(jx k aA s aE follow).bD= -1\/fR k.l (jx k aA s aE follow).bD:=by
 refine Jk (A:=CK k.l) (Q:=fun r=>r.js=0->r.bD= -1\/fR k.l r.bD) (fun e he h0=>absurd h0 he) (fun a⟨o,h1,h2⟩ _=>.inr ⟨a,o,rfl,h1,h2⟩) (fun _ _ _ _ _ _=>.inl rfl) (fun a w ha _ hf _=>?_)
  (fun a ha _ _=>h.Nc ha) (fun a w ha _ hf=>(h.yR ha hf).1) (fun _=>?_) (fun n _ hn hk=>?_)
 .obtain⟨⟨o,h1,h2⟩,h3⟩:=h.yR ha hf;exact .inr ⟨_,o,by show l3 _ _ _=_;omega,h1,h2⟩
 .obtain⟨r,h4,h5⟩:=h.ar;exact⟨r,h4,om⟩
 .obtain⟨o,h1,h2⟩:=WY (l:=k.l) (n:=n) (by rw[hk];decide)
  rw[h2]at hk;have hk:o.ah=2:=hk;exact⟨o,h1,om⟩
theorem fK.at{k:Kr}{z r:Int}(h:fK k z r):∃n j:Nat,z=n/\n<k.ops.length/\lN k.ops n=j/\j<k.l.length:=by obtain⟨_,n,o,h1,h2,j,x,h3,h4,_⟩:=h;refine⟨n,j,h1,(Mh.1 h2).1,?_,(Mh.1 h4).1⟩;rw[lN,Z3,h2];exact h3
theorem KI.ei{k:Kr}(h:KI k){p:Nat}{s:fz}(hs:s∈ba k.ps p)(hh:s.has=true):fK k s.dk s.bZ:=by
 unfold ba at hs;cases hp:k.ps[p]? with
 |none=>rw[hp]at hs;cases hs
 |some x=>rw[hp]at hs;exact h.cap x (Rq hp) s hs hh
theorem KI.kw{k:Kr}(h:KI k){p:Nat}(hp:p<k.ps.length):KW k p:=
 ⟨h.kr,h.ll,h.Df,h.lk,fun o ho e he=>((h.en o ho).to e he).1,hp,fun s hs hh=>(h.ei hs hh).at⟩
end Kn
namespace Kn
theorem Ft.mono{l l':List Obj}{o:Obj}(h:Ft l o)(hm:∀(j:Nat)x,l[j]? =some x->x.ah≠0->∃y,l'[j]? =some y/\y.ah≠0):Ft l' o:=
 ⟨h.eq,h.Df,h.cT,fun e he=>by obtain⟨h1,j,x,h2,h3,h4⟩:=h.to e he;obtain⟨y,h5,h6⟩:=hm j x h3 h4;exact⟨h1,j,y,h2,h5,h6⟩⟩
structure Tl(k:Kr)(l':List Obj)(x:Obj):Prop where
 sm:x.sm
 d:x.data.length<=60
 q:∀q,q∈x.aj->q.has=true->fK k q.dk q.bZ
 p:x.ah=5->∃n:Nat,x.aM=n/\n<k.ps.length
 e:Ft l' x
 z:x.ah=0->x=eQ
theorem KI.bD{k:Kr}(h:KI k){l':List Obj}(hm:∀(j:Nat)x,k.l[j]? =some x->x.ah≠0->∃y,l'[j]? =some y/\y.ah≠0){x:Obj}(hx:x∈k.l):Tl k l' x:=
 ⟨h.sm x hx,h.PC x hx,h.qu x hx,h.pr x hx,(h.en x hx).mono hm,h.z x hx⟩
theorem fK.mono{k k':Kr}{z r:Int}(h:fK k z r)(ho:∀(n:Nat)o,k.ops[n]? =some o->fR k.l o.bD->∃o',k'.ops[n]? =some o'/\fR k'.l o'.bD):fK k' z r:=by obtain⟨h0,n,o,h1,h2,h3⟩:=h;obtain⟨o',h4,h5⟩:=ho n o h2 h3;exact⟨h0,n,o',h1,h4,h5⟩
theorem fR.mono{l l':List Obj}{z:Int}(h:fR l z)(hm:∀(j:Nat)x,l[j]? =some x->x.ah≠0->∃y,l'[j]? =some y/\y.ah≠0):fR l' z:=by obtain⟨j,x,h1,h2,h3⟩:=h;obtain⟨y,h4,h5⟩:=hm j x h2 h3;exact⟨j,y,h1,h4,h5⟩
theorem KI.Au{k:Kr}(h:KI k){l':List Obj}(WL:l'.length<=40)(hm:∀(j:Nat)x,k.l[j]? =some x->x.ah≠0->∃y,l'[j]? =some y/\y.ah≠0)(hx:∀x,x∈l'->Tl k l' x)(ue:∀(i:Nat)o,l'[i]? =some o->o.ah=4->o.aD= -1\/∃(j:Nat)(x:Obj),o.aD=j/\l'[j]? =some x/\x.ah=4/\x.aD=i)(ht:Tree (l'.map ur)):KI ⟨l',k.ops,k.ps⟩:=by
 have ei:∀z r,fK k z r->fK ⟨l',k.ops,k.ps⟩ z r:=fun z r hc=>hc.mono fun n o ho hi=>⟨o,ho,hi.mono hm⟩
 exact⟨WL,h.lo,h.lp,fun o ho=>(hx o ho).sm,h.sl,h.ne,h.aW,fun x hx s hs hh=>ei _ _ (h.cap x hx s hs hh),fun o ho q hq hh=>ei _ _ ((hx o ho).q q hq hh),fun o ho=>(hx o ho).p,fun o ho=>(hx o ho).e,fun o ho=>(hx o ho).z,ue,h.dh,fun o ho=>(hx o ho).d,ht⟩
theorem KI.I6{k:Kr}(h:KI k){n:Nat}{o o':Obj}(ho:k.l[n]? =some o)(hs:o'.ah=o.ah/\o'.ak=o.ak/\o'.up=o.up/\o'.am=o.am/\o'.aD=o.aD/\o'.aM=o.aM)(hk:o.ah≠0)(u9:o'.sm)(hd:o'.data.length<=60)(hq:∀q,q∈o'.aj->q.has=true->fK k q.dk q.bZ):KI ⟨k.l.set n o',k.ops,k.ps⟩:=by
 obtain⟨s1,s2,s3,s4,s5,s6⟩:=hs;have hn:=(Mh.1 ho).1;have get:∀i:Nat,(k.l.set n o')[i]? =if i=n then some o' else k.l[i]? :=fun i=>by
  by_cases e:i=n
  .subst e;rw[if_pos rfl,Wl hn]
  .rw[if_neg e,ZZ (fun x=>e x.symm)]
 have hm:∀(j:Nat)x,k.l[j]? =some x->x.ah≠0->∃y,(k.l.set n o')[j]? =some y/\y.ah≠0:=fun j x hx WX=>by
  rw[get];by_cases e:j=n
  .rw[if_pos e];exact⟨o',rfl,by rw[s1];exact hk⟩
  .rw[if_neg e];exact⟨x,hx,WX⟩
 have Jl:=Rq ho;refine h.Au (by rw[aaJ];exact h.ll) hm (fun x hx=>?_) (fun i x hx h4=>?_) ?_
 .rcases aaX hx with hx|rfl
  .exact h.bD hm hx
  .have he:=(h.en o Jl).mono hm;have mU:d7 x=d7 o:=by unfold d7;rw[s2]
   exact⟨u9,hd,hq,fun h5=>by rw[s6];exact h.pr o Jl (s1▸h5),⟨by rw[mU,s2];exact he.eq,by rw[mU];exact he.Df,fun hn=>by rw[s2];exact he.cT (s1▸hn),fun e hx=>he.to e (mU▸hx)⟩,fun hz=>absurd (s1▸hz) hk⟩
 .have key:∀y:Obj,k.l[i]? =some y->y.ah=4->y.aD= -1\/∃(j:Nat)(x:Obj),y.aD=j/\(k.l.set n o')[j]? =some x/\x.ah=4/\x.aD=i:=fun y hy Jm=>by
   rcases h.pe i y hy Jm with h1|⟨j,z,h1,h2,h3,h4⟩
   .exact .inl h1
   .right;by_cases e:j=n
    .subst e;rw[ho]at h2;cases h2;exact⟨j,o',h1,by rw[get,if_pos rfl],by rw[s1];exact h3,by rw[s5];exact h4⟩
    .exact⟨j,z,h1,by rw[get,if_neg e];exact h2,h3,h4⟩
  rw[get]at hx;by_cases e:i=n
  .rw[if_pos e]at hx;cases hx;rw[s5];exact key o (e▸ho) (s1▸h4)
  .rw[if_neg e]at hx;exact key x hx h4
 .have:(k.l.set n o').map ur=k.l.map ur:=by
   apply abF;intro i;rw[Q8,Q8,get];by_cases e:i=n
   .subst e;rw[if_pos rfl,ho];show some _=some _;unfold ur d7;rw[s1,s2,s3,s4]
   .rw[if_neg e]
  rw[this];exact h.rK
theorem gT{l:List Obj}{o:Obj}(h:(aN l o).2.2=0)(hl:l.length<=40):∃j:Nat,(aN l o).2.1=j/\(aN l o).1[j]? =some o/\(∀i,i≠j->(aN l o).1[i]? =l[i]?)/\(∀d,l[j]? =some d->d.ah=0)/\(aN l o).1.length<=40/\(∀x,x∈(aN l o).1->x∈l\/x=o):=by
 have hm:∀x,x∈(aN l o).1->x∈l\/x=o:=fun x=>yA
 revert h hm;unfold aN;split
 .rename_i k hk;intro _ hm;have pd:=abz.1 hk;refine⟨k,rfl,Wl pd.1,fun i hi=>ZZ (fun e=>hi e.symm),fun d hd=>?_,by rw[aaJ];exact hl,fun x hx=>hm x hx⟩
  rw[IE pd.1]at hd;cases hd;simpa using pd.2.1
 .split
  .intro h;cases h
  .rename_i WL;intro _ hm;refine⟨l.length,rfl,by rw[ZW (SS _)];simp,fun i hi=>?_,fun d hd=>?_,by simp only[abO,aar,aby];omega,fun x hx=>hm x hx⟩
   .rcases ZX i l.length with h1|h1
    .exact ZY h1
    .rw[ZW h1,abg h1];cases e:i-l.length with
     |zero=>omega
     |succ n=>rfl
   .rw[abg (SS _)]at hd;cases hd
structure PH(k:Kr)(o:Obj):Prop where
 sm:o.sm
 kd:o.ah≠0
 e:o.ak=[]
 q:o.aj=[]
 d:o.data.length<=60
 l:o.am=0
 u:o.up=0
 pe:o.ah=4->o.aD= -1
 p:o.ah=5->∃n:Nat,o.aM=n/\n<k.ps.length
theorem KI.make{k:Kr}(h:KI k){o:Obj}(ho:PH k o)(he:(aN k.l o).2.2=0):KI ⟨(aN k.l o).1,k.ops,k.ps⟩:=by
 obtain⟨j,_,h2,h3,h4,h5,h6⟩:=gT he h.ll;have hm:∀(i:Nat)x,k.l[i]? =some x->x.ah≠0->∃y,(aN k.l o).1[i]? =some y/\y.ah≠0:=fun i x hx hk=>by
  by_cases e:i=j
  .subst e;exact absurd (h4 x hx) hk
  .exact⟨x,by rw[h3 i e];exact hx,hk⟩
 refine h.Au h5 hm (fun x hx=>?_) (fun i x hx h4'=>?_) ?_
 .rcases h6 x hx with hx|rfl
  .exact h.bD hm hx
  .exact⟨ho.sm,ho.d,fun q hq=>(by rw[ho.q]at hq;cases hq),ho.p,⟨(by unfold d7;rw[ho.e];rfl),(by unfold d7;rw[ho.e];exact List.Pairwise.nil),fun _=>ho.e,fun e he=>(by unfold d7 at he;rw[ho.e]at he;cases he)⟩,fun hz=>absurd hz ho.kd⟩
 .by_cases e:i=j
  .subst e;rw[h2]at hx;cases hx;exact .inl (ho.pe h4')
  .rw[h3 i e]at hx;rcases h.pe i x hx h4' with a|⟨n,y,a1,a2,a3,a4⟩
   .exact .inl a
   .exact .inr ⟨n,y,a1,by rw[h3 n fun e=>by subst e;have:=h4 y a2;omega];exact a2,a3,a4⟩
 .refine h.rK.new (k:=j) (s:=ur o) ⟨ho.kd,ho.l,by unfold ur d7;rw[ho.e];rfl,.inl ho.u⟩ (gd h2) (fun i hi=>by rw[Q8,Q8,h3 i hi]) fun d hd=>?_
  obtain⟨x,a1,rfl⟩:=oH hd;exact h4 x a1
theorem qp{l:List Obj}{z:Int}(h:ph l z 0=true):fR l z:=by unfold ph oc at h;rw[ZM,ZM,decide_eq_true_eq,decide_eq_true_eq,Nq]at h;obtain⟨h1,h2,h3⟩:=h;have hz:z.toNat<l.length:=om;rw[Q8,IE hz]at h3;simp only[aaG,ZM]at h3;refine⟨z.toNat,l[z.toNat],om,IE hz,?_⟩;have:=h3.1;simpa[Obj.ob]using this
theorem tY{b:Bool}{l:List Obj}{cT bD:Int}{name:ByteArray}(h:(di b l cT name bD).2=0):∃(n p:Nat)(o q:Obj),cT=n/\bD=p/\l[n]? =some o/\l[p]? =some q/\q.ah≠0/\o.ah=2/\o.am≠0/\b=true/\
  ¬fE (d7 o) name>=0/\o.ak.length<8/\(di b l cT name bD).1=jv l n p name:=by
 have hr:=h;unfold di at hr;by_cases h1:ph l cT 0=true
 .rw[if_pos h1]at hr;by_cases h2:ph l bD 0=true
  .rw[if_pos h2]at hr;obtain⟨n,o,rfl,hn,_⟩:=qp h1;obtain⟨p,q,rfl,hp,hq⟩:=qp h2;rw[Z3,Z3,hn]at hr;simp only[]at hr;have hR:di b l n name p=yF b o (jv l n p name) name:=by unfold di;rw[if_pos h1,if_pos h2,Z3,Z3,hn]
   unfold yF at hr;by_cases a1:o.ah≠2
   .rw[if_pos a1]at hr;cases hr
   rw[if_neg a1]at hr;by_cases a2:o.am=0
   .rw[if_pos a2]at hr;cases hr
   rw[if_neg a2]at hr;by_cases a3:b=false
   .rw[if_pos a3]at hr;cases hr
   rw[if_neg a3]at hr;by_cases a4:fE (o.ak.map nq) name>=0
   .rw[if_pos a4]at hr;cases hr
   rw[if_neg a4]at hr;by_cases a5:o.ak.length>=8
   .rw[if_pos a5]at hr;cases hr
   exact⟨n,p,o,q,rfl,rfl,hn,hp,hq,by simpa using a1,a2,by simpa using a3,a4,om,by rw[hR,yF,if_neg a1,if_neg a2,if_neg a3,if_neg a4,if_neg a5]⟩
  .rw[if_neg h2]at hr;cases hr
 .rw[if_neg h1]at hr;cases hr
def rL(o:Obj)(name:ByteArray)(p:Nat):Obj:={o with ak:=(iF (name,(p:Int)) (d7 o)).map eG}
def G7(q:Obj)(n:Nat):Obj:={q with am:=IntKind.i64.wrap (q.am+1),up:=if q.ah=2 then(n:Int)else q.up}
theorem yS{l:List Obj}{n p:Nat}{o q:Obj}(hn:l[n]? =some o)(hp:l[p]? =some q)(Fr:n≠p)(name:ByteArray):
  (jv l n p name)[n]? =some (rL o name p)/\(jv l n p name)[p]? =some (G7 q n)/\(∀j,j≠n->j≠p->(jv l n p name)[j]? =l[j]?)/\(jv l n p name).length=l.length:=by
 have ld:=(Mh.1 hn).1;have fW:=(Mh.1 hp).1;have G4:(l.set n (rL o name p))[p]? =some q:=by rw[ZZ Fr];exact hp
 have e:jv l n p name=(l.set n (rL o name p)).set p (G7 q n):=by
  unfold jv;rw[hn];simp only[];rw[show {o with ak:=(iF (name,(p:Int)) (o.ak.map nq)).map eG}=rL o name p from rfl,G4]
  rfl
 rw[e];refine⟨?_,?_,fun j h1 h2=>?_,aG⟩
 .rw[ZZ Fr.symm,Wl ld]
 .rw[Wl (by simpa using fW)]
 .rw[ZZ (fun e=>h2 e.symm),ZZ (fun e=>h1 e.symm)]
theorem yT(x:NE):∀es:List NE,x∈iF x es
 | []=>by simp[iF]
 |e::r=>by
  rw[iF];split
  .simp
  .exact acD _ (yT x r)
theorem CL{x y:NE}:∀{es:List NE},y∈es->y∈iF x es
 | [],h=>by cases h
 |e::r,h=>by
  rw[iF];split
  .exact acD _ h
  .rcases abo.1 h with rfl|h
   .simp
   .exact acD _ (CL h)
theorem Fu{es:List NE}{name:ByteArray}(dz:∀e,e∈es->0<=e.2)(h:¬fE es name>=0):∀e,e∈es->e.1.toList≠name.toList:=by
 rcases jo es name with⟨e,he,_,h2⟩|⟨_,h2⟩
 .have:=dz e he;rw[h2]at h;omega
 .exact h2
theorem KI.enter{k:Kr}(h:KI k){b:Bool}{cT bD:Int}{name:ByteArray}(Gg:b=true->name.size<=12)(wY:∀(p:Nat)q,bD=p->k.l[p]? =some q->q.am=0)(he:(di b k.l cT name bD).2=0):KI ⟨(di b k.l cT name bD).1,k.ops,k.ps⟩:=by
 obtain⟨n,p,o,q,rfl,rfl,hn,hp,Jh,jJ,zt,hb,hf,h8,hR⟩:=tY he;have Um:=wY p q rfl hp;have Fr:n≠p:=fun e=>by subst e;rw[hn]at hp;cases hp;exact zt Um
 rw[hR];obtain⟨g1,g2,g3,g4⟩:=yS hn hp Fr name;have Jl:=Rq hn;have PI:=Rq hp;have mX:=h.en o Jl;have M7:q.ak=[]:=by have:=h.rK.em p (ur q) (gd hp) Um;have h2:=(h.en q PI).eq;have this:d7 q=[]:=this;rw[this]at h2;exact h2
 have tZ:d7 (rL o name p)=iF (name,(p:Int)) (d7 o):=by unfold d7 rL;exact mW _
 have Nd:d7 (G7 q n)=d7 q:=rfl;have hw:IntKind.i64.wrap (q.am+1)=1:=by rw[Um];rfl
 have hm:∀(j:Nat)x,k.l[j]? =some x->x.ah≠0->∃y,(jv k.l n p name)[j]? =some y/\y.ah≠0:=fun j x hx hk=>by
  by_cases e:j=n
  .subst e;rw[hn]at hx;cases hx;exact⟨_,g1,hk⟩
  .by_cases e2:j=p
   .subst e2;rw[hp]at hx;cases hx;exact⟨_,g2,hk⟩
   .exact⟨x,by rw[g3 j e e2];exact hx,hk⟩
 have pi:∀(i:Nat)x,(jv k.l n p name)[i]? =some x->(i=n/\x=rL o name p)\/(i=p/\x=G7 q n)\/(i≠n/\i≠p/\k.l[i]? =some x):=fun i x hx=>by
  by_cases e:i=n
  .subst e;rw[g1]at hx;cases hx;exact .inl ⟨rfl,rfl⟩
  .by_cases e2:i=p
   .subst e2;rw[g2]at hx;cases hx;exact .inr (.inl ⟨rfl,rfl⟩)
   .rw[g3 i e e2]at hx;exact .inr (.inr ⟨e,e2,hx⟩)
 have dz:∀e,e∈d7 o->0<=e.2:=fun e hx=>by obtain⟨_,j,_,h1,_⟩:=mX.to e hx;omega
 refine h.Au (by rw[g4];exact h.ll) hm (fun x hx=>?_) (fun i x hx h4=>?_) ?_
 .obtain⟨i,hi⟩:=Xf hx;rcases pi i x hi with⟨rfl,rfl⟩|⟨rfl,rfl⟩|⟨_,_,hx⟩
  .have hO:=h.bD hm Jl;refine⟨⟨⟨hO.sm.t.1,⟨_,rfl⟩,hO.sm.t.2.2⟩,hO.sm.d,?_,hO.sm.q,hO.sm.qd⟩,hO.d,hO.q,hO.p,?_,fun hz=>absurd hz (by rw[show(rL o name p).ah=o.ah from rfl,jJ];decide)⟩
   .show((iF (name,(p:Int)) (d7 o)).map eG).length<=8;rw[Nq,BO,mX.len];omega
   .refine⟨by rw[tZ];rfl,by rw[tZ];exact Lt mX.Df (Fu dz hf),fun hk=>absurd jJ hk,fun e hx=>?_⟩
    rw[tZ]at hx;rcases rm hx with hx|rfl
    .exact hO.e.to e hx
    .exact⟨Gg hb,p,_,rfl,g2,Jh⟩
  .have hO:=h.bD hm PI;exact⟨⟨hO.sm.t,hO.sm.d,hO.sm.e,hO.sm.q,hO.sm.qd⟩,hO.d,hO.q,hO.p,⟨hO.e.eq,hO.e.Df,hO.e.cT,hO.e.to⟩,fun hz=>absurd hz Jh⟩
  .exact h.bD hm (Rq hx)
 .have key:∀(i:Nat)y,k.l[i]? =some y->y.ah=4->y.aD= -1\/∃(j:Nat)(x:Obj),y.aD=j/\(jv k.l n p name)[j]? =some x/\x.ah=4/\x.aD=i:=fun i y hy Jm=>by
   rcases h.pe i y hy Jm with h1|⟨j,z,h1,h2,h3,h4⟩
   .exact .inl h1
   .right;by_cases e:j=n
    .subst e;rw[hn]at h2;cases h2;omega
    .by_cases e2:j=p
     .subst e2;rw[hp]at h2;cases h2;exact⟨j,_,h1,g2,h3,h4⟩
     .exact⟨j,z,h1,by rw[g3 j e e2];exact h2,h3,h4⟩
  rcases pi i x hx with⟨rfl,rfl⟩|⟨rfl,rfl⟩|⟨_,_,hx⟩
  .exact key _ o hn h4
  .exact key _ q hp h4
  .exact key i x hx h4
 .refine h.rK.enter (nm:=name) (gd hn) (gd hp) zt Um Jh (gd g1) (gd g2) (fun j a b=>by rw[Q8,Q8,g3 j a b]) ⟨rfl,rfl,rfl⟩ (fun e=>?_) ⟨rfl,hw,Nd,rfl⟩
  show e∈d7 (rL o name p)↔_;rw[tZ];exact⟨rm,fun hx=>hx.elim CL fun hx=>hx▸yT _ _⟩
end Kn
namespace Kn
theorem Av{l:List Obj}{cT:Int}{name:ByteArray}(h:(df l cT name).2.2=0):∃(n k:Nat)(o q:Obj),cT=n/\l[n]? =some o/\o.ah=2/\fE (d7 o) name=k/\l[k]? =some q/\¬(q.ah=2/\q.ak.length>0)/\
  (df l cT name).1=kY l n k name/\(df l cT name).2.1=k:=by
 have hr:=h;unfold df at hr;by_cases h1:ph l cT 0=true
 .rw[if_pos h1]at hr;obtain⟨n,o,rfl,hn,_⟩:=qp h1;rw[Z3,hn]at hr;simp only[]at hr;have hR:df l n name=wq o l n name:=by unfold df;rw[if_pos h1,Z3,hn]
  unfold wq at hr;by_cases a1:o.ah≠2
  .rw[if_pos a1]at hr;cases hr
  rw[if_neg a1]at hr;by_cases a2:fE (o.ak.map nq) name<0
  .rw[if_pos a2]at hr;cases hr
  rw[if_neg a2]at hr;cases hq:l[(fE (o.ak.map nq) name).toNat]? with
  |none=>rw[hq]at hr;cases hr
  |some q=>
   rw[hq]at hr;simp only[]at hr;by_cases a3:q.ah=2/\q.ak.length>0
   .rw[if_pos a3]at hr;cases hr
   have hk:fE (o.ak.map nq) name=((fE (o.ak.map nq) name).toNat:Nat):=om;refine⟨n,_,o,q,rfl,hn,by simpa using a1,hk,hq,a3,?_,?_⟩
   .rw[hR,wq,if_neg a1,if_neg a2,hq];simp only[if_neg a3]
   .rw[hR,wq,if_neg a1,if_neg a2,hq];simp only[if_neg a3];exact hk
 .rw[if_neg h1]at hr;cases hr
def t6(o:Obj)(name:ByteArray):Obj:={o with ak:=((d7 o).filter fun e=>decide (e.1.toList≠name.toList)).map eG}
def G8(q:Obj)(p:Nat):Obj:={q with am:=IntKind.i64.wrap (q.am-1),up:=if q.ah=2 then(p:Int)else q.up}
theorem Jn{l:List Obj}{n p:Nat}{o q:Obj}(hn:l[n]? =some o)(hp:l[p]? =some q)(Fr:n≠p)(name:ByteArray):
  (kY l n p name)[n]? =some (t6 o name)/\(kY l n p name)[p]? =some (G8 q p)/\(∀j,j≠n->j≠p->(kY l n p name)[j]? =l[j]?)/\(kY l n p name).length=l.length:=by
 have ld:=(Mh.1 hn).1;have fW:=(Mh.1 hp).1;have G4:(l.set n (t6 o name))[p]? =some q:=by rw[ZZ Fr];exact hp
 have e:kY l n p name=(l.set n (t6 o name)).set p (G8 q p):=by
  unfold kY;rw[hn];simp only[];rw[show {o with ak:=((o.ak.map nq).filter fun e=>decide (e.1.toList≠name.toList)).map eG}=t6 o name from rfl,G4]
  rfl
 rw[e];refine⟨?_,?_,fun j h1 h2=>?_,aG⟩
 .rw[ZZ Fr.symm,Wl ld]
 .rw[Wl (by simpa using fW)]
 .rw[ZZ (fun e=>h2 e.symm),ZZ (fun e=>h1 e.symm)]
theorem KI.Fs{k:Kr}(h:KI k){cT:Int}{name:ByteArray}(he:(df k.l cT name).2.2=0):KI ⟨(df k.l cT name).1,k.ops,k.ps⟩:=by
 obtain⟨n,p,o,q,rfl,hn,jJ,hf,hp,M7,hR,_⟩:=Av he;have Jl:=Rq hn;have PI:=Rq hp;have mX:=h.en o Jl;obtain⟨e0,CI,Qz,hep⟩:∃e0,e0∈d7 o/\e0.1.toList=name.toList/\e0.2=(p:Int):=by
  rcases jo (d7 o) name with⟨e,a1,a2,a3⟩|⟨a3,_⟩
  .exact⟨e,a1,a2,om⟩
  .omega
 have Um:q.ak=[]:=by
  by_cases hk:q.ah=2
  .exact Z1 (by
    have:=fun h=>M7 ⟨hk,h⟩
    omega)
  .exact(h.en q PI).cT hk
 have hqn:d7 q=[]:=by unfold d7;rw[Um];rfl
 have Fr:n≠p:=fun e=>by subst e;rw[hn]at hp;cases hp;rw[hqn]at CI;cases CI
 obtain⟨p',x,b1,_,b3,Jh,Il,_⟩:=h.rK.tr n (ur o) e0 (gd hn) CI;have:p'=p:=om;subst this;rw[gd hp]at b3;cases b3;have Jh:q.ah≠0:=Jh;have Il:q.am=1:=Il;rw[hR];obtain⟨g1,g2,g3,g4⟩:=Jn hn hp Fr name;have tZ:d7 (t6 o name)=(d7 o).filter fun e=>decide (e.1.toList≠name.toList):=by
  show((((d7 o).filter fun e=>decide (e.1.toList≠name.toList)).map eG).map nq)=_
  exact mW _
 have kL:∀e,e∈d7 (t6 o name)↔e∈d7 o/\e≠e0:=fun e=>by rw[tZ,adq,decide_eq_true_eq];refine⟨fun⟨a,b⟩=>⟨a,fun e1=>by subst e1;exact b Qz⟩,fun⟨a,b⟩=>⟨a,fun e1=>b (vF mX.Df a CI (e1.trans Qz.symm))⟩⟩
 have Nd:d7 (G8 q p')=[]:=hqn;have hw:IntKind.i64.wrap (q.am-1)=0:=by rw[Il];rfl
 have hm:∀(j:Nat)x,k.l[j]? =some x->x.ah≠0->∃y,(kY k.l n p' name)[j]? =some y/\y.ah≠0:=fun j x hx hk=>by
  by_cases e:j=n
  .subst e;rw[hn]at hx;cases hx;exact⟨_,g1,hk⟩
  .by_cases e2:j=p'
   .subst e2;rw[hp]at hx;cases hx;exact⟨_,g2,hk⟩
   .exact⟨x,by rw[g3 j e e2];exact hx,hk⟩
 have pi:∀(i:Nat)x,(kY k.l n p' name)[i]? =some x->(i=n/\x=t6 o name)\/(i=p'/\x=G8 q p')\/(i≠n/\i≠p'/\k.l[i]? =some x):=fun i x hx=>by
  by_cases e:i=n
  .subst e;rw[g1]at hx;cases hx;exact .inl ⟨rfl,rfl⟩
  .by_cases e2:i=p'
   .subst e2;rw[g2]at hx;cases hx;exact .inr (.inl ⟨rfl,rfl⟩)
   .rw[g3 i e e2]at hx;exact .inr (.inr ⟨e,e2,hx⟩)
 refine h.Au (by rw[g4];exact h.ll) hm (fun x hx=>?_) (fun i x hx h4=>?_) ?_
 .obtain⟨i,hi⟩:=Xf hx;rcases pi i x hi with⟨rfl,rfl⟩|⟨rfl,rfl⟩|⟨_,_,hx⟩
  .have hO:=h.bD hm Jl;refine⟨⟨⟨hO.sm.t.1,⟨_,rfl⟩,hO.sm.t.2.2⟩,hO.sm.d,?_,hO.sm.q,hO.sm.qd⟩,hO.d,hO.q,hO.p,?_,fun hz=>absurd hz (by rw[show(t6 o name).ah=o.ah from rfl,jJ];decide)⟩
   .show(((d7 o).filter fun e=>decide (e.1.toList≠name.toList)).map eG).length<=8
    rw[Nq];have:=ack (fun e:NE=>decide (e.1.toList≠name.toList)) (d7 o)
    have:=mX.len;have:=hO.sm.e;omega
   .exact⟨by rw[tZ];rfl,by rw[tZ];exact mX.Df.filter _,fun hk=>absurd jJ hk,fun e hx=>hO.e.to e ((kL e).1 hx).1⟩
  .have hO:=h.bD hm PI;exact⟨⟨hO.sm.t,hO.sm.d,hO.sm.e,hO.sm.q,hO.sm.qd⟩,hO.d,hO.q,hO.p,⟨hO.e.eq,hO.e.Df,hO.e.cT,hO.e.to⟩,fun hz=>absurd hz Jh⟩
  .exact h.bD hm (Rq hx)
 .have key:∀(i:Nat)y,k.l[i]? =some y->y.ah=4->y.aD= -1\/∃(j:Nat)(x:Obj),y.aD=j/\(kY k.l n p' name)[j]? =some x/\x.ah=4/\x.aD=i:=fun i y hy Jm=>by
   rcases h.pe i y hy Jm with h1|⟨j,z,h1,h2,h3,h4⟩
   .exact .inl h1
   .right;by_cases e:j=n
    .subst e;rw[hn]at h2;cases h2;omega
    .by_cases e2:j=p'
     .subst e2;rw[hp]at h2;cases h2;exact⟨j,_,h1,g2,h3,h4⟩
     .exact⟨j,z,h1,by rw[g3 j e e2];exact h2,h3,h4⟩
  rcases pi i x hx with⟨rfl,rfl⟩|⟨rfl,rfl⟩|⟨_,_,hx⟩
  .exact key _ o hn h4
  .exact key _ q hp h4
  .exact key i x hx h4
 .exact h.rK.Fs (gd hn) CI hep (gd hp) hqn (gd g1) (gd g2) (fun j a b=>by rw[Q8,Q8,g3 j a b]) ⟨rfl,rfl,rfl⟩ kL ⟨rfl,hw,Nd,rfl⟩
theorem Nf(k:Kr):PH k (bU (-1)):=⟨⟨⟨⟨[],rfl⟩,⟨[],rfl⟩,by simp[bU]⟩,by simp[bU],by simp[bU],by simp[bU],by simp[bU]⟩,by simp[bU],rfl,rfl,by simp[bU],rfl,rfl,fun _=>rfl,fun h=>by simp[bU]at h⟩
structure WZ(l:List Obj)(P:List Obj×(Int×Int)×Int)(a b:Nat):Prop where
 ea:P.2.1.1=a
 eb:P.2.1.2=b
 ab:a≠b
 za:∀d,l[a]? =some d->d.ah=0
 zb:∀d,l[b]? =some d->d.ah=0
 ga:P.1[a]? =some (bU b)
 gb:P.1[b]? =some (bU a)
 go:∀i,i≠a->i≠b->P.1[i]? =l[i]?
 m:∀x,x∈P.1->x∈l\/x=bU b\/x=bU a
 ll:P.1.length<=40
theorem Fv{l:List Obj}(hl:l.length<=40)(h:(fC l).2.2=0):(aN l (bU (-1))).2.2=0/\∃a b:Nat,(aN l (bU (-1))).2.1=a/\WZ l (fC l) a b/\(∀d,(aN l (bU (-1))).1[b]? =some d->d.ah=0):=by
 unfold fC at h;by_cases h1:(aN l (bU (-1))).2.2=0
 .refine⟨h1,?_⟩;rw[if_neg (by simp[h1])]at h
  obtain⟨a,e1,a2,a3,a4,a5,a6⟩:=gT h1 hl;by_cases h2:(aN (aN l (bU (-1))).1 (bU (aN l (bU (-1))).2.1)).2.2=0
  .obtain⟨b,b1,b2,b3,b4,b5,b6⟩:=gT h2 a5;have Dd:a≠b:=fun e=>by subst e;have:=b4 _ a2;simp[bU]at this
   have hP:fC l=(lK (aN (aN l (bU (-1))).1 (bU (aN l (bU (-1))).2.1)).1 a b,((a:Int),(b:Int)),0):=by
    rw[fC,if_neg (by simp[h1]),if_neg (by simp[h2]),e1]
    rw[e1]at b1;rw[b1,Z3]
   rw[e1]at b2 b3 hP b5 b6;have ha:(aN (aN l (bU (-1))).1 (bU (a:Int))).1[a]? =some (bU (-1)):=by rw[b3 a Dd];exact a2
   have T0:=(Mh.1 ha).1;have zw:lK (aN (aN l (bU (-1))).1 (bU (a:Int))).1 a b=(aN (aN l (bU (-1))).1 (bU (a:Int))).1.set a (bU b):=by rw[lK,ha];rfl
   rw[zw]at hP;refine⟨a,b,e1,?_,b4⟩;rw[hP];refine⟨rfl,rfl,Dd,a4,fun d hd=>b4 d (by rw[a3 b (fun e=>Dd e.symm)];exact hd),Wl T0,by rw[ZZ Dd];exact b2,fun i h3 h4=>by rw[ZZ (fun e=>h3 e.symm),b3 i h4,a3 i h3],fun x hx=>?_,by rw[aaJ];exact b5⟩
   rcases aaX hx with hx|hx
   .rcases b6 x hx with hx|hx
    .rcases a6 x hx with hx|hx
     .exact .inl hx
     .obtain⟨i,hi⟩:=Xf (show x∈(aN (aN l (bU (-1))).1 (bU (a:Int))).1.set a (bU b)from by assumption)
      by_cases ea:i=a
      .subst ea;rw[Wl T0]at hi;cases hi;exact .inr (.inl rfl)
      .rw[ZZ (fun e=>ea e.symm)]at hi
       by_cases eb:i=b
       .subst eb;rw[b2]at hi;cases hi;exact .inr (.inr rfl)
       .rw[b3 i eb,a3 i ea]at hi;exact .inl (Rq hi)
    .exact .inr (.inr hx)
   .exact .inr (.inl hx)
  .rw[if_pos h2]at h;exact absurd h h2
 .rw[if_pos h1]at h;exact absurd h h1
theorem KI.Tm{k:Kr}(h:KI k)(he:(fC k.l).2.2=0):KI ⟨(fC k.l).1,k.ops,k.ps⟩/\fR (fC k.l).1 (fC k.l).2.1.1/\fR (fC k.l).1 (fC k.l).2.1.2:=by
 obtain⟨h1,a,b,e1,P,X4⟩:=Fv h.ll he;have h2:=h.make (Nf k) h1;obtain⟨a',e1',a2,a3,a4,a5,a6⟩:=gT h1 h.ll;have:a'=a:=om;subst this;have hEK:∀p:Int,Tl k (fC k.l).1 (bU p):=fun p=>⟨⟨⟨⟨[],rfl⟩,⟨[],rfl⟩,by simp[bU]⟩,by simp[bU],by simp[bU],by simp[bU],by simp[bU]⟩,by simp[bU],by simp[bU],fun h=>by simp[bU]at h,⟨rfl,List.Pairwise.nil,fun _=>rfl,fun e he=>by cases he⟩,fun h=>by simp[bU]at h⟩
 have hm:∀(j:Nat)x,k.l[j]? =some x->x.ah≠0->∃y,(fC k.l).1[j]? =some y/\y.ah≠0:=fun j x hx hk=>by
  have ea:j≠a':=fun e=>by subst e;exact hk (P.za x hx)
  have eb:j≠b:=fun e=>by subst e;exact hk (P.zb x hx)
  exact⟨x,by rw[P.go j ea eb];exact hx,hk⟩
 refine⟨h.Au P.ll hm (fun x hx=>?_) (fun i x hx h4=>?_) ?_,⟨a',_,P.ea,P.ga,by simp[bU]⟩,⟨b,_,P.eb,P.gb,by simp[bU]⟩⟩
 .rcases P.m x hx with hx|rfl|rfl
  .exact h.bD hm hx
  .exact hEK _
  .exact hEK _
 .by_cases ea:i=a'
  .subst ea;rw[P.ga]at hx;cases hx;exact .inr ⟨b,_,rfl,P.gb,rfl,rfl⟩
  .by_cases eb:i=b
   .subst eb;rw[P.gb]at hx;cases hx;exact .inr ⟨a',_,rfl,P.ga,rfl,rfl⟩
   .rw[P.go i ea eb]at hx;rcases h.pe i x hx h4 with c|⟨j,y,c1,c2,c3,c4⟩
    .exact .inl c
    .refine .inr ⟨j,y,c1,?_,c3,c4⟩;rw[P.go j (fun e=>by subst e;have:=P.za y c2;omega) (fun e=>by subst e;have:=P.zb y c2;omega)]
     exact c2
 .refine h2.rK.new (k:=b) (s:=ur (bU a')) ⟨by simp[ur,bU],rfl,rfl,.inl rfl⟩ (gd P.gb) (fun j hj=>?_) fun d hd=>?_
  .rw[Q8,Q8];by_cases ea:j=a'
   .subst ea;rw[P.ga,a2];rfl
   .rw[P.go j ea hj,a3 j ea]
  .obtain⟨x,c1,rfl⟩:=oH hd;exact X4 x c1
theorem Fw{l:List Obj}{e:Int}{m:bw}(h:(fk l e m).2=0):∃(n p:Nat)(o q:Obj),e=n/\l[n]? =some o/\o.ah=4/\o.aD=p/\l[p]? =some q/\q.ah=4/\m.data.length<=60/\q.aj.length<4/\(fk l e m).1=l.set p {q with aj:=q.aj++ [m]}:=by
 have hr:=h;unfold fk at hr;by_cases h1:e<0\/e>=l.length
 .rw[if_pos h1]at hr;cases hr
 rw[if_neg h1]at hr;have hn:e.toNat<l.length:=om;have jc:=IE hn;rw[jc]at hr;simp only[]at hr;by_cases h2:l[e.toNat].ah≠4
 .rw[if_pos h2]at hr;cases hr
 rw[if_neg h2]at hr;by_cases h3:l[e.toNat].aD<0\/l[e.toNat].aD>=l.length
 .rw[if_pos h3]at hr;cases hr
 rw[if_neg h3]at hr;have hp:l[e.toNat].aD.toNat<l.length:=om;have hpo:=IE hp;rw[hpo]at hr;simp only[]at hr;by_cases h4:l[l[e.toNat].aD.toNat].ah≠4
 .rw[if_pos h4]at hr;cases hr
 rw[if_neg h4]at hr;by_cases h5:m.data.length>60
 .rw[if_pos h5]at hr;cases hr
 rw[if_neg h5]at hr;by_cases h6:l[l[e.toNat].aD.toNat].aj.length>=4
 .rw[if_pos h6]at hr;cases hr
 refine⟨e.toNat,l[e.toNat].aD.toNat,_,_,om,jc,by simpa using h2,om,hpo,by simpa using h4,om,om,?_⟩
 rw[fk,if_neg h1,jc];simp only[];rw[if_neg h2,if_neg h3,hpo];simp only[];rw[if_neg h4,if_neg h5,if_neg h6]
theorem KI.send{k:Kr}(h:KI k){e:Int}{m:bw}(ht:m.JZ)(hc:m.has=true->fK k m.dk m.bZ)(he:(fk k.l e m).2=0):KI ⟨(fk k.l e m).1,k.ops,k.ps⟩:=by
 obtain⟨n,p,o,q,_,_,_,_,hp,hq4,T5,Il,hR⟩:=Fw he;have PI:=Rq hp;have hs:=h.sm q PI;rw[hR];refine h.I6 hp ⟨rfl,rfl,rfl,rfl,rfl,rfl⟩ om ⟨⟨hs.t.1,hs.t.2.1,fun x hx=>?_⟩,hs.d,hs.e,?_,fun x hx=>?_⟩ (h.PC q PI) fun x hx hh=>?_
 .rcases abL.1 hx with hx|hx
  .exact hs.t.2.2 x hx
  .simp at hx;subst hx;exact ht
 .simp only[abO,aar,aby];omega
 .rcases abL.1 hx with hx|hx
  .exact hs.qd x hx
  .simp at hx;subst hx;omega
 .rcases abL.1 hx with hx|hx
  .exact h.qu q PI x hx hh
  .simp at hx;subst hx;exact hc hh
theorem wK{l:List Obj}{e:Int}(h:(fD l e).2.2=0):∃(n:Nat)(o:Obj)(x:bw)(r:List bw),e=n/\l[n]? =some o/\o.ah=4/\o.aj=x::r/\(fD l e).1=l.set n {o with aj:=r}/\(fD l e).2.1=x:=by
 have hr:=h;unfold fD at hr;by_cases h1:e<0\/e>=l.length
 .rw[if_pos h1]at hr;cases hr
 rw[if_neg h1]at hr;have hn:e.toNat<l.length:=om;have jc:=IE hn;rw[jc]at hr;simp only[]at hr;by_cases h2:l[e.toNat].ah≠4
 .rw[if_pos h2]at hr;cases hr
 rw[if_neg h2]at hr;have hR:fD l e=(match l[e.toNat].aj with
  | []=>if l[e.toNat].aD<0\/l[e.toNat].aD>=l.length then([],mC,17)else match l[l[e.toNat].aD.toNat]? with
   |none=>([],mC,17)
   |some q=>if q.ah≠4 then([],mC,17)else([],mC,16)
  |x::r=>(l.set e.toNat {l[e.toNat]with aj:=r},x,0)):=by
  rw[fD,if_neg h1,jc];simp only[];rw[if_neg h2];rfl
 cases hq:l[e.toNat].aj with
 |nil=>
  rw[hq]at hr;simp only[]at hr;split at hr
  .cases hr
  .split at hr
   .cases hr
   .split at hr<;>cases hr
 |cons x r=>
  rw[hq]at hR;refine⟨e.toNat,_,x,r,om,jc,by simpa using h2,hq,?_,?_⟩<;>rw[hR]
theorem KI.recv{k:Kr}(h:KI k){e:Int}(he:(fD k.l e).2.2=0):KI ⟨(fD k.l e).1,k.ops,k.ps⟩/\((fD k.l e).2.1.has=true->fK k (fD k.l e).2.1.dk (fD k.l e).2.1.bZ):=by
 obtain⟨n,o,x,r,_,hn,ho4,hq,hR,hx⟩:=wK he;have Jl:=Rq hn;have hs:=h.sm o Jl;rw[hR,hx];have r8:∀y,y∈r->y∈o.aj:=fun y hy=>by rw[hq];exact acD _ hy
 refine⟨h.I6 hn ⟨rfl,rfl,rfl,rfl,rfl,rfl⟩ om ⟨⟨hs.t.1,hs.t.2.1,fun y hy=>hs.t.2.2 y (r8 y hy)⟩,hs.d,hs.e,?_,fun y hy=>hs.qd y (r8 y hy)⟩ (h.PC o Jl) fun y hy hh=>h.qu o Jl y (r8 y hy) hh,fun hh=>h.qu o Jl x (by rw[hq];simp) hh⟩
 have:=hs.q;rw[hq]at this;simp only[aar]at this⊢;omega
end Kn
namespace Kn
structure W0(k:Kr)(x:aT):Prop where
 sl:x.aJ.length<=10
 aW:x.aQ=false->x.aJ=[]
 cap:∀s,s∈x.aJ->s.has=true->fK k s.dk s.bZ
theorem KI.Rn{k:Kr}(h:KI k){x:aT}(hx:x∈k.ps):W0 k x:=⟨h.sl x hx,h.aW x hx,h.cap x hx⟩
theorem KI.Ha{k:Kr}(h:KI k){oR:List aT}(hl:oR.length<=8)(ew:k.ps.length<=oR.length)(hx:∀x,x∈oR->W0 k x):KI ⟨k.l,k.ops,oR⟩:=
 ⟨h.ll,h.lo,hl,h.sm,fun x h=>(hx x h).sl,fun e=>h.ne (Z1 (by have:oR=[]:=e;rw[this]at ew;simpa using ew)),fun x h=>(hx x h).aW,fun x h=>(hx x h).cap,
  h.qu,fun o ho h5=>let⟨n,a,b⟩:=h.pr o ho h5;⟨n,a,abh b ew⟩,h.en,h.z,h.pe,h.dh,h.PC,h.rK⟩
theorem KI.W4{k:Kr}(h:KI k){nI:List bi}(hl:nI.length<=60)(hm:∀(n:Nat)o,k.ops[n]? =some o->fR k.l o.bD->∃o',nI[n]? =some o'/\fR k.l o'.bD)(ha:∀o,o∈nI->0<=o.dh/\o.dh<=64):KI ⟨k.l,nI,k.ps⟩:=by
 have ei:∀z r,fK k z r->fK ⟨k.l,nI,k.ps⟩ z r:=fun z r hc=>hc.mono hm
 exact⟨h.ll,hl,h.lp,h.sm,h.sl,h.ne,h.aW,fun x hx s hs hh=>ei _ _ (h.cap x hx s hs hh),fun o ho q hq hh=>ei _ _ (h.qu o ho q hq hh),h.pr,h.en,h.z,h.pe,ha,h.PC,h.rK⟩
theorem KI.RI{k:Kr}(h:KI k)(z:Int){a:Int}(ha:0<=a/\a<=64):KI (tW k z a):=by
 unfold tW;cases ho:k.ops[z.toNat]? with
 |none=>exact h
 |some o=>
  have hz:=(Mh.1 ho).1;refine h.W4 (by rw[aaJ];exact h.lo) (fun n x hx hi=>?_) fun x hx=>?_
  .by_cases e:n=z.toNat
   .subst e;rw[ho]at hx;cases hx;exact⟨_,Wl hz,hi⟩
   .exact⟨x,by rw[ZZ (fun x=>e x.symm)];exact hx,hi⟩
  .rcases aaX hx with hx|rfl
   .exact h.dh x hx
   .exact ha
theorem KI.fv{k:Kr}(h:KI k){p:Nat}{x:aT}(hp:k.ps[p]? =some x)(cX:x.aQ=true){l:List fz}(hl:l.length<=10)(hc:∀s,s∈l->s.has=true->fK k s.dk s.bZ):KI ⟨k.l,k.ops,fv k.ps p l⟩:=by
 have e:Go.Proofs.YtojhmadmlnfpcaaGreatDoor.fv k.ps p l=k.ps.set p {x with aJ:=l}:=by unfold Go.Proofs.YtojhmadmlnfpcaaGreatDoor.fv;rw[hp]
 rw[e];refine h.Ha (by rw[aaJ];exact h.lp) (by rw[aaJ];exact SS _) fun y hy=>?_
 rcases aaX hy with hy|rfl
 .exact h.Rn hy
 .exact⟨hl,fun hd=>(by rw[cX]at hd;cases hd),hc⟩
theorem qq{l:List fz}{o r:Int}(h:(gH l o r).2.2=0):Tb.eU r=true/\0<=o/\∀s,s∈(gH l o r).1->s∈l\/s=⟨true,o,r⟩:=by
 have N1:∀s:fz,O0 (p5 s)=s:=fun s=>rfl
 unfold gH at h⊢;simp only[]at h⊢;unfold Tb.iH at h⊢;split at h
 .cases h
 .rename_i h1;have hr:Tb.eU r=true:=by
   cases hx:Tb.eU r with
   |true=>rfl
   |false=>exact absurd (.inl hx) h1
  have ho:0<=o:=Int.not_lt.1 fun hx=>h1 (.inr hx)
  refine⟨hr,ho,fun s hs=>?_⟩
  rw[if_neg h1]at hs;split at hs
  .obtain⟨t,ht,rfl⟩:=aaQ.1 hs;rcases aaX ht with ht|rfl
   .obtain⟨u,hu,rfl⟩:=aaQ.1 ht;exact .inl hu
   .exact .inr rfl
  .split at hs
   .cases hs
   .obtain⟨t,ht,rfl⟩:=aaQ.1 hs;rcases abL.1 ht with ht|ht
    .obtain⟨u,hu,rfl⟩:=aaQ.1 ht;exact .inl hu
    .simp at ht;subst ht;exact .inr rfl
theorem sX{n:Int}:Tb.eU n=true↔0<=n/\n<=4095:=by unfold Tb.eU;rw[ZM,decide_eq_true_eq,decide_eq_true_eq]
theorem KI.wL{k:Kr}(h:KI k){p:Nat}{x:aT}(hp:k.ps[p]? =some x)(cX:x.aQ=true){bD bZ:Int}(ho:fR k.l bD)(he:(aP k p bD bZ).2.2=0):KI (aP k p bD bZ).1:=by
 have GM:ba k.ps p=x.aJ:=by rw[ba,hp]
 unfold aP at he⊢;split at he
 .cases he
 rename_i h1;rw[if_neg h1];split at he
 .rename_i h2;exact absurd he h2
 rename_i h2;rw[if_neg h2];have h2:(gH (ba k.ps p) (ec k.ops) bZ).2.2=0:=aaH h2;rw[GM]at h2⊢;obtain⟨c1,c2,c3⟩:=qq h2;have hi:ec k.ops<k.ops.length\/ec k.ops=k.ops.length/\k.ops.length<60:=by
  unfold ec;cases hf:GK k.ops with
  |none=>exact .inr ⟨rfl,Nat.not_le.1 fun a=>h1 ⟨hf,a⟩⟩
  |some i=>exact .inl (EA hf)
 have K5:∀o,k.ops[ec k.ops]? =some o->o.bD<0:=fun o hx=>by
  unfold ec at hx;cases hf:GK k.ops with
  |none=>
   rw[hf]at hx;rw[show(none:Option Nat).getD k.ops.length=k.ops.length from rfl,abg (SS _)]at hx;cases hx
  |some i=>
   rw[hf]at hx;have:=abz.1 hf;obtain⟨a1,a2,_⟩:=this;rw[show(some i).getD k.ops.length=i from rfl,IE a1]at hx;cases hx;simpa using a2
 have jT:∀n:Nat,(jM k.ops (ec k.ops) ⟨bD,0⟩)[n]? =if n=ec k.ops then some ⟨bD,0⟩else k.ops[n]? :=fun n=>by
  unfold jM;split
  .rename_i e;rw[e];by_cases hn:n=k.ops.length
   .subst hn;rw[if_pos rfl,ZW (SS _)];simp
   .rw[if_neg hn];rcases ZX n k.ops.length with a|a
    .exact ZY a
    .rw[ZW a,abg a];cases e2:n-k.ops.length with
     |zero=>omega
     |succ m=>rfl
  .rename_i e;have aB:ec k.ops<k.ops.length:=om;by_cases hn:n=ec k.ops
   .subst hn;rw[if_pos rfl,Wl aB]
   .rw[if_neg hn,ZZ (fun a=>hn a.symm)]
 have jI:KI ⟨k.l,jM k.ops (ec k.ops) ⟨bD,0⟩,k.ps⟩:=by
  refine h.W4 ?_ (fun n o hx hio=>?_) fun o hx=>?_
  .unfold jM;split
   .rw[abO];simp;omega
   .rw[aaJ];exact h.lo
  .rw[jT];by_cases e:n=ec k.ops
   .subst e;have:=K5 o hx;obtain⟨j,_,e2,_⟩:=hio;omega
   .rw[if_neg e];exact⟨o,hx,hio⟩
  .unfold jM at hx;split at hx
   .rcases abL.1 hx with hx|hx
    .exact h.dh o hx
    .simp at hx;subst hx;exact⟨acP _,by show(0:Int)<=64;omega⟩
   .rcases aaX hx with hx|rfl
    .exact h.dh o hx
    .exact⟨acP _,by show(0:Int)<=64;omega⟩
 refine jI.fv hp cX (rI (h.sl x (Rq hp))) fun s hs hh=>?_
 rcases c3 s hs with hs|rfl
 .exact jI.cap x (Rq hp) s hs hh
 .exact⟨sX.1 c1,ec k.ops,⟨bD,0⟩,rfl,by rw[jT,if_pos rfl],ho⟩
theorem KI.exit{k:Kr}(h:KI k){p code:Int}(he:(iN k p code).2=0):KI (iN k p code).1:=by
 unfold iN at he⊢;split at he
 .cases he
 rename_i h1;rw[if_neg h1];split at he
 .cases he
 rename_i h2;rw[if_neg h2];refine h.Ha (by rw[aaJ];exact h.lp) (by rw[aaJ];exact SS _) fun y hy=>?_
 rcases aaX hy with hy|rfl
 .exact h.Rn hy
 .exact⟨aG,fun _=>rfl,fun s hs=>by cases hs⟩
theorem KI.fen{k:Kr}(h:KI k)(p:Nat):KI ⟨k.l,k.ops,oG k.ps p⟩:=by
 unfold oG;cases hp:k.ps[p]? with
 |none=>exact h
 |some x=>
  refine h.Ha (by rw[aaJ];exact h.lp) (by rw[aaJ];exact SS _) fun y hy=>?_
  have:=h.Rn (Rq hp);rcases aaX hy with hy|rfl
  .exact h.Rn hy
  .exact⟨this.sl,this.aW,this.cap⟩
theorem Fx{l:List Obj}{ps:List aT}(h:¬gw l ps<0):∃c:Nat,gw l ps=c/\c<=ps.length/\c<8/\(c<ps.length->tT l ps c=true):=by obtain⟨c,hc⟩:∃c:Nat,gw l ps=c:=⟨(gw l ps).toNat,om⟩;obtain⟨h1,_,h3,h4⟩:=ot l ps 8 0 c hc (Wi _);exact⟨c,hc,h1,om,h4⟩
theorem Ng{k:Kr}{c:Nat}(hc:c<k.ps.length):PH k (ef c):=⟨Ca _,by simp[ef],rfl,rfl,by simp[ef],rfl,rfl,fun h=>by simp[ef]at h,fun _=>⟨c,rfl,hc⟩⟩
theorem Jo{ps:List aT}{n c:Nat}{x:aT}(hn:ps[n]? =some x)(hc:c<=ps.length):(jr ps n c).length=(if c=ps.length then ps.length+1 else ps.length)/\(jr ps n c)[c]? =some ⟨true,x.fenced,0,x.aJ⟩/\(∀i,i≠c->(jr ps n c)[i]? =ps[i]?)/\(∀y,y∈jr ps n c->y∈ps\/y=⟨true,x.fenced,0,x.aJ⟩):=by
 unfold jr;rw[hn];simp only[];split
 .rename_i e;subst e;refine⟨aG,by rw[ZW (SS _)];simp,fun i hi=>?_,fun y hy=>by simpa using hy⟩
  rcases ZX i ps.length with a|a
  .exact ZY a
  .rw[ZW a,abg a];cases e2:i-ps.length with
   |zero=>omega
   |succ m=>rfl
 .exact⟨aG,Wl om,fun i hi=>ZZ (fun e=>hi e.symm),fun y hy=>aaX hy⟩
structure W5(k:Kr)(p:Nat)(x:aT)(c:Nat):Prop where
 le:c<=k.ps.length
 c8:c<8
 aW:c<k.ps.length->tT k.l k.ps c=true
 ne:p≠c
 em:(aN k.l (ef c)).2.2=0
 eo:(aP ⟨(aN k.l (ef c)).1,k.ops,jr k.ps p c⟩ p (aN k.l (ef c)).2.1 3200).2.2=0
 R:jN k p=((aP ⟨(aN k.l (ef c)).1,k.ops,jr k.ps p c⟩ p (aN k.l (ef c)).2.1 3200).1,(c:Int),(aP ⟨(aN k.l (ef c)).1,k.ops,jr k.ps p c⟩ p (aN k.l (ef c)).2.1 3200).2.1,0)
theorem Fy{k:Kr}{p:Nat}{x:aT}(hp:k.ps[p]? =some x)(cX:x.aQ=true)(he:(jN k p).2.2.2=0):∃c:Nat,W5 k p x c:=by
 have hl:fu k.ps p=true:=by have fW:=(Mh.1 hp).1;refine OZ fW ?_;have:=IE fW;rw[hp]at this;cases this;exact cX
 unfold jN at he;rw[if_neg (by rw[hl];simp)]at he
 split at he
 .cases he
 rename_i hf;obtain⟨c,hc,c1,c2,c3⟩:=Fx hf;rw[hc,Z3,Z3]at he;have hR:jN k p=vX k.l k.ops (jr k.ps p c) p c:=by
  rw[jN,if_neg (by rw[hl];simp),if_neg hf,hc,Z3,Z3]
 unfold vX at he;split at he
 .rename_i h1;exact absurd he h1
 rename_i h1;split at he
 .rename_i h2;exact absurd he h2
 rename_i h2;refine⟨c,c1,c2,c3,fun e=>?_,aaH h1,aaH h2,?_⟩
 .subst e;have:=c3 (Mh.1 hp).1;rw[tT,hp]at this;simp only[cX]at this;cases this
 .rw[hR,vX,if_neg h1,if_neg h2]
theorem KI.aaL{k:Kr}(h:KI k){p:Nat}{x:aT}(hp:k.ps[p]? =some x)(cX:x.aQ=true)(he:(jN k p).2.2.2=0):KI (jN k p).1:=by
 obtain⟨c,C⟩:=Fy hp cX he;obtain⟨g1,g2,g3,g4⟩:=Jo hp C.le;have hx:=h.Rn (Rq hp);have h1:KI ⟨k.l,k.ops,jr k.ps p c⟩:=by
  refine h.Ha ?_ ?_ fun y hy=>?_
  .rw[g1];have:=C.c8;have:=h.lp;split<;>omega
  .rw[g1];split<;>omega
  .rcases g4 y hy with hy|rfl
   .exact h.Rn hy
   .exact⟨hx.sl,fun hd=>(by cases hd),hx.cap⟩
 have fU:c<(jr k.ps p c).length:=(Mh.1 g2).1;have h2:=h1.make (Ng fU) C.em;obtain⟨j,j1,j2,_⟩:=gT C.em h.ll;rw[C.R];refine h2.wL (p:=p) (x:=x) (by show(jr k.ps p c)[p]? =some x;rw[g3 p C.ne];exact hp) cX ⟨j,_,j1,j2,by simp[ef]⟩ C.eo
end Kn
namespace Kn
theorem Fz{b:Bool}{l:List Obj}{cT bD:Int}{name:ByteArray}(wY:∀(p:Nat)q,bD=p->l[p]? =some q->q.am=0)(h:(di b l cT name bD).2=0){z:Int}(hz:fR l z):fR (di b l cT name bD).1 z:=by
 obtain⟨n,p,o,q,rfl,rfl,hn,hp,Jh,jJ,zt,_,_,_,hR⟩:=tY h;have Fr:n≠p:=fun e=>by subst e;rw[hn]at hp;cases hp;exact zt (wY n _ rfl hn)
 obtain⟨g1,g2,g3,g4⟩:=yS hn hp Fr name;rw[hR];refine hz.mono fun j x hx hk=>?_
 by_cases e:j=n
 .subst e;rw[hn]at hx;cases hx;exact⟨_,g1,hk⟩
 .by_cases e2:j=p
  .subst e2;rw[hp]at hx;cases hx;exact⟨_,g2,hk⟩
  .exact⟨x,by rw[g3 j e e2];exact hx,hk⟩
theorem Jp{t:bP.dG}(h:bP.fI t=true):(bP.cK t).size<=12:=by unfold bP.fI at h;simp only[ZM,decide_eq_true_eq]at h;rw[bP.mF];exact h.1.1.1.2
structure Jq(o:Obj):Prop where
 n:Pq o
 k:o.ah=1\/o.ah=2\/o.ah=3
 q:o.aj=[]
 d:o.data.length<=60
 l:o.am=0
 u:o.up=0
theorem Jq.W6{o:Obj}(h:Jq o)(k:Kr):PH k (gy o):=
 ⟨h.n.gy.sm,fun e=>(by have:o.ah=0:=e;have:=h.k;omega),h.n.en,h.q,h.d,h.l,h.u,fun e=>(by have:o.ah=4:=e;have:=h.k;omega),fun e=>(by have:o.ah=5:=e;have:=h.k;omega)⟩
theorem PJ:Jq oy:=⟨yG,.inl rfl,rfl,by simp[oy],rfl,rfl⟩
theorem Tn:Jq Fd:=⟨Ar _ _,.inr (.inl rfl),rfl,by simp[Fd],rfl,rfl⟩
theorem PK(d:List Int):Jq (wD d):=⟨Ar _ _,.inr (.inr rfl),rfl,by simp[wD],rfl,rfl⟩
structure aaM(k:Kr)(f:R4)(o:Obj)(j:Nat):Prop where
 em:(aN k.l (gy o)).2.2=0
 ej:(aN k.l (gy o)).2.1=j
 ee:(Am (aN k.l (gy o)).1 f j).2=0
 R:c7 k f o=(⟨(Am (aN k.l (gy o)).1 f j).1,k.ops,k.ps⟩,(j:Int),0)
theorem Aw{k:Kr}(hl:k.l.length<=40){f:R4}{o:Obj}(he:(c7 k f o).2.2=0):∃j:Nat,aaM k f o j:=by
 unfold c7 at he;by_cases h1:(aN k.l (gy o)).2.2=0
 .rw[if_neg (by simp[h1])]at he
  obtain⟨j,e1,_⟩:=gT h1 hl;have he:(Am (aN k.l (gy o)).1 f (aN k.l (gy o)).2.1).2=0:=he;rw[e1]at he;refine⟨j,h1,e1,he,?_⟩;rw[c7,if_neg (by simp[h1]),e1,he,dt,if_pos rfl]
 .rw[if_pos h1]at he;exact absurd he h1
theorem KI.FA{k:Kr}(h:KI k){f:R4}{o:Obj}(ho:Jq o)(he:(c7 k f o).2.2=0):KI (c7 k f o).1/\fR (c7 k f o).1.l (c7 k f o).2.1/\(c7 k f o).1.ps=k.ps:=by
 obtain⟨j,C⟩:=Aw h.ll he;have h1:=h.make (ho.W6 k) C.em;obtain⟨j',e1,a2,_⟩:=gT C.em h.ll;have:j'=j:=by have:=C.ej;omega
 subst this;have wY:∀(p:Nat)q,((j':Nat):Int)=p->(aN k.l (gy o)).1[p]? =some q->q.am=0:=fun p q e hq=>by have:p=j':=om;subst this;rw[a2]at hq;cases hq;exact ho.l
 rw[C.R];exact⟨h1.enter (fun hb=>Jp hb) wY C.ee,Fz wY C.ee ⟨j',_,rfl,a2,(ho.W6 k).kd⟩,rfl⟩
theorem KI.cW{k:Kr}(h:KI k){c:Cl}{f:R4}(hf:f.js=0->f.bD= -1\/fR k.l f.bD)(he:(cW k c f).2.2=0):KI (cW k c f).1/\fR (cW k c f).1.l (cW k c f).2.1/\(cW k c f).1.ps=k.ps:=by
 unfold Kn.cW at he⊢;split at he
 .rename_i h1;exact absurd he h1
 rename_i h1;rw[if_neg h1];have hf:=hf (aaH h1);split at he
 .rename_i h2;rw[if_pos h2];split at he
  .cases he
  .rename_i h3;rw[if_neg h3];exact h.FA PJ he
 .rename_i h2;rw[if_neg h2];split at he
  .cases he
  .rename_i h3;rw[if_neg h3];refine⟨h,hf.elim (fun e=>absurd (by show f.bD<0;omega) h2) id,rfl⟩
theorem sY{k:Kr}{p:Nat}{bD bZ:Int}(he:(aP k p bD bZ).2.2=0):(aP k p bD bZ).1.ps=fv k.ps p (gH (ba k.ps p) (ec k.ops) bZ).1/\(aP k p bD bZ).1.l=k.l/\(gH (ba k.ps p) (ec k.ops) bZ).2.2=0/\(aP k p bD bZ).1.ops=jM k.ops (ec k.ops) ⟨bD,0⟩/\(aP k p bD bZ).2.1=(gH (ba k.ps p) (ec k.ops) bZ).2.1:=by
 unfold aP at he⊢;split at he
 .cases he
 rename_i h1;rw[if_neg h1];split at he
 .rename_i h2;exact absurd he h2
 rename_i h2;rw[if_neg h2];exact⟨rfl,rfl,aaH h2,rfl,rfl⟩
theorem Jr(ps:List aT)(p:Nat)(l:List fz):(fv ps p l).length=ps.length:=by
 unfold fv;split
 .rw[aaJ]
 .rfl
theorem Nh{ps:List aT}{p:Nat}{x:aT}(hp:ps[p]? =some x)(l:List fz):(fv ps p l)[p]? =some {x with aJ:=l}:=by unfold fv;rw[hp];exact Wl (Mh.1 hp).1
theorem KI.W7{k:Kr}(h:KI k){z:Int}(hz:fR k.l z):KI ⟨oz k.l z,k.ops,k.ps⟩:=by obtain⟨j,o,rfl,hj,hk⟩:=hz;have hs:=h.sm o (Rq hj);rw[oz,Z3,hj];exact h.I6 hj ⟨rfl,rfl,rfl,rfl,rfl,rfl⟩ hk ⟨⟨⟨[],rfl⟩,hs.t.2.1,hs.t.2.2⟩,aG,hs.e,hs.q,hs.qd⟩ aG (h.qu o (Rq hj))
theorem KI.Ro{k:Kr}(h:KI k){p:Nat}{x:aT}(hp:k.ps[p]? =some x)(cX:x.aQ=true){c:Cl}{aA:Int}{aE:Bool}(he:(i7 k p c aA aE).2.js=0):KI (i7 k p c aA aE).1:=by
 unfold i7 jE at he⊢;split at he
 .rename_i h1;exact absurd he h1
 rename_i h1;rw[if_neg h1];obtain⟨g1,g2,g3⟩:=h.cW (h.Tk aA c.cN aE true) (aaH h1);split at he
 .rename_i h2;exact absurd he h2
 rename_i h2;rw[if_neg h2];have h2:=aaH h2;have h3:=g1.wL (by rw[g3];exact hp) cX g2 h2
 split
 .exact h3.W7 (by rw[(sY h2).2.1];exact g2)
 .exact h3
theorem KI.W8{k:Kr}(h:KI k){p:Nat}{x:aT}(hp:k.ps[p]? =some x)(cX:x.aQ=true){c:Cl}(he:(iO k p c).2.js=0):KI (iO k p c).1:=by
 unfold iO at he⊢;split at he
 .cases he
 rename_i h1;rw[if_neg h1];split at he
 .rename_i h2;rw[if_pos h2];exact h.Ro hp cX he
 rename_i h2;rw[if_neg h2];split at he
 .rename_i h3;exact absurd he h3
 .rename_i h3;rw[if_neg h3];exact h.Ro hp cX he
theorem FB{k:Kr}{p:Nat}{fd need:Int}(h:(bH k p fd need).2.2=0):∃s,s∈ba k.ps p/\s.has=true/\(bH k p fd need).1=(s.dk,s.bZ)/\(bH k p fd need).2.1=lN k.ops s.dk:=by
 unfold bH at h⊢;split at h
 .rename_i h1;exact absurd h h1
 .rename_i h1;rw[if_neg h1];obtain⟨s,hs,hh,e⟩:=wv (aaH h1);exact⟨s,hs,hh,e,by show lN k.ops _=_;rw[e]⟩
theorem KI.bH{k:Kr}(h:KI k){p:Nat}{fd need:Int}(he:(Kn.bH k p fd need).2.2=0):∃(n:Nat)(o:bi)(j:Nat)(x:Obj),(Kn.bH k p fd need).1.1=n/\k.ops[n]? =some o/\(Kn.bH k p fd need).2.1=j/\o.bD=j/\k.l[j]? =some x/\x.ah≠0/\0<=(Kn.bH k p fd need).1.2/\(Kn.bH k p fd need).1.2<=4095:=by
 obtain⟨s,hs,hh,e,e2⟩:=FB he;obtain⟨hr,n,o,h1,h2,j,x,h3,h4,h5⟩:=h.ei hs hh;refine⟨n,o,j,x,by rw[e];exact h1,h2,?_,h3,h4,h5,by rw[e];exact hr.1,by rw[e];exact hr.2⟩
 rw[e2,h1,lN,Z3,h2];exact h3
theorem Hb{a b:Int}(h0:0<=a)(ha:a<=1000)(xg:0<=b)(hb:b<=5000000):Ap a b=a+b:=by unfold Ap;exact gY om om
theorem KI.ox{k:Kr}(h:KI k)(z:Int):0<=ox k.ops z/\ox k.ops z<=64:=by
 unfold Kn.ox;cases ho:k.ops[z.toNat]? with
 |none=>exact⟨acP _,by show(0:Int)<=64;omega⟩
 |some o=>exact h.dh o (Rq ho)
theorem Ni{ah:Int}{d:List (List Dt)}{dh n:Int}(h:(ju ah d dh n).2=0):ah=1/\0<=dh/\0<=n/\(ju ah d dh n).1=IH d dh.toNat n.toNat:=by
 unfold ju at h⊢;split at h
 .cases h
 rename_i h1;split at h
 .cases h
 rename_i h2;split at h
 .cases h
 rename_i h3;rw[if_neg h1,if_neg h2,if_neg h3];exact⟨om,om,om,rfl⟩
theorem PL(d:List (List Dt))(a n:Nat):(IH d a n).length=fg n (d.length-fg a d.length):=by have h1:=m7 a d.length;have h2:=m7 n (d.length-fg a d.length);unfold IH;rw[abK,Z4];omega
theorem PM{o:Obj}{dh:Int}{b:List Int}(ho:o.sm)(hd:o.data.length<=60)(h:(eV o dh (gM b)).2=0):(eV o dh (gM b)).1.data.length<=60:=by
 obtain⟨_,_,h1,h2,h3,h4⟩:=wA ho h;rw[h4];obtain⟨d,C5⟩:=ho.t.1;show(pC o.data dh.toNat (gM b)).length<=60;rw[C5,E7,show ∀x:List Int,(gM x).length=x.length from fun x=>by simp[gM]]
 have lH:d.length<=60:=by rw[C5]at hd;simpa[gM]using hd
 have:=G0 d b dh.toNat om om;omega
theorem KI.bytes{k:Kr}(h:KI k){p:Nat}{c:Cl}(he:(jF k p c).2.js=0):KI (jF k p c).1:=by
 unfold jF na at he⊢;split at he
 .rename_i h1;exact absurd he h1
 rename_i h1;rw[if_neg h1];obtain⟨n,op,j,x,e1,e2,e3,e4,e5,e6,_⟩:=h.bH (aaH h1);have W9:=Rq e5;have QW:m9 k.l (Kn.bH k p c.fd (oA c.ah)).2.1=x:=by rw[e3,m9,Z3,e5];rfl
 rw[QW]at he⊢;have Da:=h.ox (Kn.bH k p c.fd (oA c.ah)).1.1;split at he
 .rename_i h4;rw[if_pos h4];unfold wz at he⊢;split at he
  .rename_i h5;exact absurd he h5
  rename_i h5;rw[if_neg h5];obtain⟨_,h6,_,h7⟩:=Ni (aaH h5);refine h.RI _ ?_;rw[h7,PL];have hd:=h.PC x W9;have m1:=m7 (Kn.ox k.ops (Kn.bH k p c.fd (oA c.ah)).1.1).toNat x.data.length;have m2:=m7 c.n.toNat (x.data.length-fg (Kn.ox k.ops (Kn.bH k p c.fd (oA c.ah)).1.1).toNat x.data.length);have m3:fg (Kn.ox k.ops (Kn.bH k p c.fd (oA c.ah)).1.1).toNat x.data.length=(Kn.ox k.ops (Kn.bH k p c.fd (oA c.ah)).1.1).toNat\/fg (Kn.ox k.ops (Kn.bH k p c.fd (oA c.ah)).1.1).toNat x.data.length=x.data.length:=by unfold fg;split<;>simp
  rw[Hb om om om om];omega
 rename_i h4;rw[if_neg h4];split at he
 .rename_i h5;rw[if_pos h5];unfold qa at he⊢;split at he
  .rename_i h6;exact absurd he h6
  rename_i h6;rw[if_neg h6];have h6:=aaH h6;obtain⟨w1,w2,w3,w4,w5,w6⟩:=wA (h.sm x W9) h6;have w7:=PM (h.sm x W9) (h.PC x W9) h6;have h2:KI (setObj k (Kn.bH k p c.fd (oA c.ah)).2.1 (eV x (Kn.ox k.ops (Kn.bH k p c.fd (oA c.ah)).1.1) (gM c.data)).1):=by
   rw[e3,setObj,Z3];exact h.I6 e5 (by rw[w6];exact⟨rfl,rfl,rfl,rfl,rfl,rfl⟩) e6 w1 w7 (by rw[w6];exact h.qu x W9)
  refine h2.RI _ ?_;rw[Hb om om om om];omega
 .rename_i h5;rw[if_neg h5];unfold sS at he⊢;split at he
  .cases he
  rename_i h6;rw[if_neg h6];exact h.RI _ ⟨om,om⟩
theorem sZ{l:List fz}{fd:Int}(h:(rF l fd).2=0):∃(i:Nat)(s:fz),fd=i/\l[i]? =some s/\s.has=true/\(rF l fd).1=(s.dk,s.bZ)/\Tb.eM (l.map p5) fd=(⟨s.dk,s.bZ⟩,0):=by
 unfold rF Tb.eM at h⊢;by_cases h0:0<=fd
 .rw[if_pos h0,Q8]at h⊢;cases hy:l[fd.toNat]? with
  |none=>rw[hy]at h;cases h
  |some t=>
   rw[hy]at h;simp only[aaG]at h⊢;cases hh:t.has with
   |false=>
    have:(p5 t).has=false:=hh;rw[this]at h;cases h
   |true=>
    have h2:(p5 t).has=true:=hh;refine⟨fd.toNat,t,om,hy,hh,?_,?_⟩
    .rw[h2];rfl
    .rw[h2];rfl
 .rw[if_neg h0]at h;cases h
theorem CM{l:List fz}{c:Cl}(hl:l.length<=10)(h:(nt l c).2.2=0):(nt l c).1.length<=10/\∀s,s∈(nt l c).1->s.has=true->s∈l\/∃t,t∈l/\t.has=true/\s.dk=t.dk/\0<=s.bZ/\s.bZ<=4095:=by
 have N1:∀s:fz,O0 (p5 s)=s:=fun s=>rfl
 unfold nt at h⊢;split at h
 .rename_i h7;rw[if_pos h7];unfold wt Tb.mZ at h⊢;split at h
  .rename_i h1;simp only[if_pos h1];refine⟨by simp only[Nq,Z4,aaJ];omega,fun s hs hh=>?_⟩
   obtain⟨t,ht,rfl⟩:=aaQ.1 hs;rcases aaX (abC ht)with ht|rfl
   .obtain⟨u,hu,rfl⟩:=aaQ.1 ht;exact .inl hu
   .cases hh
  .rename_i h1;exact absurd h h1
 rename_i h7;rw[if_neg h7];split at h
 .rename_i h8;rw[if_pos h8];unfold ML Tb.uk at h⊢;split at h
  .rename_i h1;obtain⟨i,t,_,h3,h4,h5,h6⟩:=sZ (l:=l) (fd:=c.fd) h1;have e:(Tb.eM (l.map p5) c.fd).1=⟨t.dk,t.bZ⟩:=by rw[h6]
   rw[e]at h;simp only[if_pos h1,e];obtain⟨a1,_,a3⟩:=qq (l:=l) (o:=t.dk) (r:=t.bZ) h;refine⟨rI (l:=l) (o:=t.dk) (r:=t.bZ) hl,fun s hs hh=>?_⟩
   rcases a3 s hs with hs|rfl
   .exact .inl hs
   .exact .inr ⟨t,Rq h3,h4,rfl,sX.1 a1⟩
  .rename_i h1;exact absurd h h1
 .rename_i h8;rw[if_neg h8];unfold MM Tb.zW at h⊢;split at h
  .rename_i h1;obtain⟨i,t,_,h3,h4,h5,h6⟩:=sZ (l:=l) (fd:=c.fd) h1;split at h
   .cases h
   rename_i h2;split at h
   .cases h
   rename_i h9;simp only[if_pos h1,if_neg h2,if_neg h9];have hr:Tb.eU c.bc=true:=by cases hx:Tb.eU c.bc with|true=>rfl|false=>exact absurd hx h2
   refine⟨by simp only[Nq,aaJ];omega,fun s hs hh=>?_⟩
   obtain⟨u,hu,rfl⟩:=aaQ.1 hs;rcases aaX hu with hu|rfl
   .obtain⟨v,hv,rfl⟩:=aaQ.1 hu;exact .inl hv
   .refine .inr ⟨t,Rq h3,h4,?_,sX.1 hr⟩;show(Tb.eM (l.map p5) c.fd).1.dk=_;rw[h6]
  .rename_i h1;exact absurd h h1
theorem KI.aaN{k:Kr}(h:KI k){p:Nat}{x:aT}(hp:k.ps[p]? =some x)(cX:x.aQ=true){c:Cl}(he:(oB k p c).2.js=0):KI (oB k p c).1:=by
 have GM:ba k.ps p=x.aJ:=by rw[ba,hp]
 have he:(nt (ba k.ps p) c).2.2=0:=he;have hx:=h.Rn (Rq hp);show KI (jD k p (nt (ba k.ps p) c).1 (nt (ba k.ps p) c).2.2);rw[jD,if_pos he];rw[GM]at he⊢;obtain⟨h1,h2⟩:=CM hx.sl he;refine h.fv hp cX h1 fun s hs hh=>?_
 rcases h2 s hs hh with hs|⟨t,ht,hth,e,r⟩
 .exact hx.cap s hs hh
 .obtain⟨_,n,o,a1,a2,a3⟩:=hx.cap t ht hth;exact⟨r,n,o,e.trans a1,a2,a3⟩
theorem KI.name{k:Kr}(h:KI k){p:Nat}{c:Cl}(he:(lP k p c).2.js=0):KI (lP k p c).1:=by
 have he:(jO k c (Kn.bH k p c.fd (yI c))).2=0:=he;show KI (jO k c (Kn.bH k p c.fd (yI c))).1;unfold jO at he⊢;split at he
 .rename_i h1;exact absurd he h1
 rename_i h1;rw[if_neg h1];split at he
 .rename_i h2;exact absurd he h2.2
 rename_i h2;rw[if_neg h2];unfold oD at he⊢;split at he
 .rename_i h3;exact absurd he h3
 rename_i h3;rw[if_neg h3];split at he
 .cases he
 rename_i h4;rw[if_neg h4];split at he
 .rename_i h5;rw[if_pos h5];split at he
  .cases he
  rename_i h6;rw[if_neg h6];have he:(Fe k (jx k (Kn.bH k p c.fd (yI c)).2.1 c.cN true false)).2.2=0:=he;show KI (dt k _ _);rw[dt,if_pos he];exact h.Fs he
 rename_i h5;rw[if_neg h5];split at he
 .cases he
 rename_i h6;rw[if_neg h6];split at he
 .rename_i h7;rw[if_pos h7];exact(h.FA (PK _) he).1
 .rename_i h7;rw[if_neg h7];exact(h.FA Tn he).1
theorem KI.ny{k:Kr}(h:KI k){p:Nat}{x:aT}(hp:k.ps[p]? =some x)(cX:x.aQ=true)(he:(ny k p).2.js=0):KI (ny k p).1:=by
 unfold Kn.ny CD at he⊢;split at he
 .rename_i h1;exact absurd he h1
 rename_i h1;rw[if_neg h1];obtain⟨g1,g2,g3⟩:=h.Tm (aaH h1);unfold wE at he⊢;split at he
 .rename_i h2;exact absurd he h2
 rename_i h2;rw[if_neg h2];have h2:=aaH h2;have o1:=g1.wL (p:=p) hp cX g2 h2;split at he
 .rename_i h3;exact absurd he h3
 rename_i h3;rw[if_neg h3];have e:=sY h2;refine o1.wL (p:=p) (x:=⟨x.aQ,x.fenced,x.code,(gH (ba k.ps p) (ec k.ops) 896).1⟩) (by rw[e.1];exact Nh hp _) cX (by rw[e.2.1];exact g3) (aaH h3)
theorem KI.nv{k:Kr}(h:KI k){p:Nat}{c:Cl}(he:(nv k p c).2.js=0):KI (nv k p c).1:=by
 have key:∀r:List Obj×Int,(nu k c r).2.js=0->r.2=0:=fun r hr=>by
  unfold nu at hr;by_cases h1:r.2=0
  .exact h1
  .rw[if_pos h1]at hr;exact absurd hr h1
 have iC:∀(bD:Int)(m:bw),m.JZ->(m.has=true->fK k m.dk m.bZ)->(nu k c (fk k.l bD m)).2.js=0->KI (nu k c (fk k.l bD m)).1:=fun bD m ht hc hr=>by have h1:=key _ hr;show KI (dt k _ _);rw[dt,if_pos h1];exact h.send ht hc h1
 unfold Kn.nv Cy at he⊢;split at he
 .rename_i h1;exact absurd he h1
 rename_i h1;rw[if_neg h1];unfold yK at he⊢;split at he
 .rename_i h2;rw[if_pos h2];split at he
  .rename_i h3;exact absurd he h3
  rename_i h3;rw[if_neg h3];obtain⟨i,s,_,a2,a3,a4,_⟩:=sZ (aaH h3);refine iC _ _ ⟨c.data,rfl⟩ (fun _=>?_) he
  show fK k (rF (ba k.ps p) c.gA).1.1 (rF (ba k.ps p) c.gA).1.2;rw[a4];exact h.ei (Rq a2) a3
 .rename_i h2;rw[if_neg h2];exact iC _ _ ⟨c.data,rfl⟩ (fun hh=>by cases hh) he
theorem KI.nw{k:Kr}(h:KI k){p:Nat}{x:aT}(hp:k.ps[p]? =some x)(cX:x.aQ=true){c:Cl}(he:(nw k p c).2.js=0):KI (nw k p c).1:=by
 unfold Kn.nw CA at he⊢;split at he
 .rename_i h1;exact absurd he h1
 rename_i h1;rw[if_neg h1];unfold Cz at he⊢;split at he
 .rename_i h2;exact absurd he h2
 rename_i h2;rw[if_neg h2];obtain⟨g1,g2⟩:=h.recv (aaH h2);have GM:ba k.ps p=x.aJ:=by rw[ba,hp]
 split at he
 .rename_i h3;rw[if_pos h3];split at he
  .rename_i h4;exact absurd he h4
  rename_i h4;rw[if_neg h4];show KI (dt (jD k p _ 0) _ 0);rw[dt,if_pos rfl,jD,if_pos rfl];have h4:=aaH h4;rw[GM]at h4⊢;obtain⟨a1,_,a3⟩:=qq h4;have hx:=h.Rn (Rq hp);refine g1.fv (p:=p) hp cX (rI hx.sl) fun s hs hh=>?_
  rcases a3 s hs with hs|rfl
  .exact g1.cap x (Rq hp) s hs hh
  .have hq:fK ⟨(fD k.l (Kn.bH k p c.fd 512).2.1).1,k.ops,k.ps⟩ (fD k.l (Kn.bH k p c.fd 512).2.1).2.1.dk (fD k.l (Kn.bH k p c.fd 512).2.1).2.1.bZ:=by
    obtain⟨r,n,o,b1,b2,b3⟩:=g2 h3;refine⟨r,n,o,b1,b2,b3.mono fun j y hy Jm=>?_⟩
    obtain⟨n',o',_,_,_,c2,c3,_,c5,_⟩:=wK (aaH h2);rw[c5];by_cases ej:j=n'
    .subst ej;rw[c2]at hy;cases hy;exact⟨_,Wl (Mh.1 c2).1,Jm⟩
    .exact⟨y,by rw[ZZ (fun e=>ej e.symm)];exact hy,Jm⟩
   exact hq
 .rename_i h3;rw[if_neg h3];show KI (dt k _ 0);rw[dt,if_pos rfl];exact g1
theorem KI.Xa{k:Kr}(h:KI k){p:Nat}{x:aT}(hp:k.ps[p]? =some x)(cX:x.aQ=true){c:Cl}(he:(fP k p c).2.js=0):KI (fP k p c).1:=by
 have ex:∀e:Kr×Int,(e.2=0->KI e.1)->KI (lQ k e).1:=fun e hE=>by
  unfold lQ;split
  .rename_i h1;exact hE h1
  .exact h
 unfold fP at he⊢;split at he
 .rename_i h1;rw[if_pos h1];exact h.fen p
 rename_i h1;rw[if_neg h1];split at he
 .rename_i h2;rw[if_pos h2];exact h
 rename_i h2;rw[if_neg h2];split at he
 .rename_i h3;rw[if_pos h3];unfold tX at he⊢;split at he
  .rename_i h4;exact absurd he h4
  .rename_i h4;rw[if_neg h4];exact h.aaL hp cX (aaH h4)
 rename_i h3;rw[if_neg h3];split at he
 .rename_i h4;rw[if_pos h4];exact ex _ fun e=>h.exit e
 .rename_i h4;rw[if_neg h4];generalize Kn.bH k p c.fd (if c.ah=20 then 2048 else 1024)=w
  unfold nb;split
  .exact h
  .unfold wF;split
   .exact h
   .split
    .split<;>exact h
    .exact ex _ fun e=>h.exit e
theorem KI.op{k:Kr}(h:KI k){p:Nat}{x:aT}(hp:k.ps[p]? =some x)(cX:x.aQ=true){c:Cl}(he:(iB k p c).2.js=0):KI (iB k p c).1:=by
 unfold iB at he⊢;split at he
 .rename_i a;rw[if_pos a];exact h.W8 hp cX he
 rename_i a;rw[if_neg a];split at he
 .rename_i a;rw[if_pos a];exact h.bytes he
 rename_i a;rw[if_neg a];split at he
 .rename_i a;rw[if_pos a];exact h.aaN hp cX he
 rename_i a;rw[if_neg a];split at he
 .rename_i a;rw[if_pos a];exact h
 rename_i a;rw[if_neg a];split at he
 .rename_i a;rw[if_pos a];exact h.name he
 rename_i a;rw[if_neg a];split at he
 .rename_i a;rw[if_pos a];exact h.ny hp cX he
 rename_i a;rw[if_neg a];split at he
 .rename_i a;rw[if_pos a];exact h.nv he
 rename_i a;rw[if_neg a];split at he
 .rename_i a;rw[if_pos a];exact h.nw hp cX he
 rename_i a;rw[if_neg a];exact h.Xa hp cX he
theorem KI.do_{k:Kr}(h:KI k)(prog:List dX)(c:Cl):KI (o9 prog k c).1:=by
 unfold o9;split
 .exact h
 rename_i h1;have h1:fu k.ps c.aM=true:=by cases hx:fu k.ps c.aM with|true=>rfl|false=>exact absurd hx h1
 obtain⟨p,hc,hp,cX⟩:=oo h1;split
 .exact h
 split
 .exact h
 rw[hc,Z3];unfold N7;split
 .exact h
 .rename_i he;exact(h.op (IE hp) cX (aaH he)).Rm
theorem KI.aaO{k:Kr}(h:KI k){p:Nat}(hp:p<k.ps.length)(cX:k.ps[p].aQ=true)(c:Cl):M4 k p c:=by
 have hpx:=IE hp;refine⟨h.kw hp,fun aA aE=>⟨fun he=>?_,fun he=>?_⟩,⟨fun he=>(h.Tm he).1.kr,fun he oT=>?_⟩,h.pr,fun he=>(h.op hpx cX he).kr⟩
 .rcases h.Tk aA c.cN aE true he with e|⟨j,y,e,hj,_⟩
  .rw[e];omega
  .have:=(Mh.1 hj).1;rw[e];omega
 .obtain⟨g1,⟨j,y,g2,g3,_⟩,g4⟩:=h.cW (h.Tk aA c.cN aE true) he;exact⟨g1.kr,by rw[g4];exact hp,j,g2,(Mh.1 g3).1⟩
 .obtain⟨g1,g2,_⟩:=h.Tm he;have:=g1.wL (p:=p) hpx cX g2 oT;exact⟨this.kr,by rw[(sY oT).1,Jr];exact hp⟩
theorem Nj(prog:List dX)(k:Kr)(h:KI k)(c:Cl)(hd:c.data.length<=4194304){m:Mem}{K:CV->Mem->Prop}(hK:K (WS (o9 prog k c)) m):
  au Tryz.prog 21 [rJ prog,cP k.l k.ops k.ps,c.cv] m K:=
 WT prog k c (fun _ hp _ cX=>h.aaO hp cX c) hd hK
end Kn
def c19:LF:= ⟨7,[.cell true 2 3],(.seq (.ai [qu 3 (.alloc [qd 0,qd 0])]) (.seq (.ai [qm 4 0,ql 5 1,qu 6 (.build [qd 0,qd 0] [(0,1,4),(1,1,5)]),qw (.store 2 3 6)]) .ret))⟩
def c52:LF:= ⟨9,[.tmp 4],(.seq (.ai [qu 4 (.aH (qb false))]) (.seq (.ai [qm 5 0,qm 6 1,qu 7 (qc 90 [5,6]),qu 8 (.aF .geq 7 (qi 0)),qm 4 8]) .ret))⟩
def c53:LF:= ⟨9,[.tmp 3],(.seq (.ai [qu 2 (.box 0),qu 3 (.aH (qb false))]) (.seq (.ai [qf 4 0 2,ql 5 4,qf 6 0 1,ql 7 6,qu 8 (.aF .eql 5 7),qm 3 8]) .ret))⟩
def c54:LF:= ⟨9,[.tmp 4],(.seq (.ai [qu 4 (.aH (qb false))]) (.seq (.ai [qm 5 0,qm 6 1,qu 7 (qc 91 [5,6]),qu 8 (.aF .geq 7 (qi 0)),qm 4 8]) .ret))⟩
def c55:LF:= ⟨21,[.tmp 2],(.seq (.ai [qu 1 (.box 0),qu 2 (.aH (qb false))]) (.seq (.ai [qf 3 0 1,ql 4 3,qu 5 (.aF .lss 4 (qi 1)),qm 6 5,qg 7 (.br 0 1) 6 false,qg 8 (.load false 1 7) 6 false,qg 9 (.aF .geq 8 (qi 6)) 6 false,qu 10 (.pick 6 (qb true) 9),qm 11 10,qg 12 (.br 1 1) 11 false,qg 13 (.load false 1 12) 11 false,qg 14 (.aF .lss 13 (qi 1)) 11 false,qu 15 (.pick 11 (qb true) 14),qm 16 15,qg 17 (.br 1 1) 16 false,qg 18 (.load false 1 17) 16 false,qg 19 (.aF .geq 18 (qi 2147483648)) 16 false,qu 20 (.pick 16 (qb true) 19),qm 2 20]) .ret))⟩
def c90:LF:= ⟨19,[.tmp 4],(.seq (.ai [qu 4 (.aH (qi 0))]) (.seq (.seq (.ai [qm 6 0,qu 7 (.len 1 6),qu 8 (.aH (qi 0))]) (.block 0 (.loop (.seq (.ai [qu 9 (.aF .lss 8 7)]) (.seq (.cond 9 .skip (.exit 0)) (.seq (.block 1 (.seq (.ai [qm 10 8,qm 5 10]) (.seq (.ai [qm 11 1,qm 12 0,qm 13 5,qu 14 (.bW 2 12 13),qL 15 2 14,qu 16 (.call 11 [15])]) (.cond 16 (.seq (.ai [qm 17 5,qm 4 17]) .ret) .skip)))) (.ai [qu 18 (.aF .add 8 (qi 1)),qm 8 18]))))))) (.seq (.ai [qu 4 (.aH (qi (-1)))]) .ret)))⟩
def c91:LF:= ⟨19,[.tmp 4],(.seq (.ai [qu 4 (.aH (qi 0))]) (.seq (.seq (.ai [qm 6 0,qu 7 (.len 1 6),qu 8 (.aH (qi 0))]) (.block 0 (.loop (.seq (.ai [qu 9 (.aF .lss 8 7)]) (.seq (.cond 9 .skip (.exit 0)) (.seq (.block 1 (.seq (.ai [qm 10 8,qm 5 10]) (.seq (.ai [qm 11 1,qm 12 0,qm 13 5,qu 14 (.bW 2 12 13),qL 15 2 14,qu 16 (.call 11 [15])]) (.cond 16 (.seq (.ai [qm 17 5,qm 4 17]) .ret) .skip)))) (.ai [qu 18 (.aF .add 8 (qi 1)),qm 8 18]))))))) (.seq (.ai [qu 4 (.aH (qi (-1)))]) .ret)))⟩
structure jP where
 w:Int
 bits:Int
def jP.enc(m:jP):List Dt:=[.val (.int .i64 m.w),.val (.int .i64 m.bits)]
def jP.cv(m:jP):CV:= .rv (.agg (m.enc.map .aa))
structure cO where
 call:Int
 bg:List jP
def cO.enc(p:cO):List Dt:=[.val (.int .i64 p.call),.sl 2 (p.bg.map jP.enc)]
def cO.cv(p:cO):CV:= .rv (.agg (p.enc.map .aa))
def Hc(l:List jP):CV:= .rv (.one (.aa (.sl 2 (l.map jP.enc))))
def dD(l:List cO):CV:= .rv (.one (.aa (.sl 2 (l.map cO.enc))))
def FC:CV:= .rv (.one (.ptr 0 0))
theorem l52:bx Tryz.prog Tryz.f52=some c52:=by kernel_rfl
theorem l53:bx Tryz.prog Tryz.f53=some c53:=by kernel_rfl
theorem l54:bx Tryz.prog Tryz.f54=some c54:=by kernel_rfl
theorem l55:bx Tryz.prog Tryz.f55=some c55:=by kernel_rfl
theorem l19:bx Tryz.prog Tryz.f19=some c19:=by kernel_rfl
theorem l90:bx Tryz.prog Tryz.f90=some c90:=by kernel_rfl
theorem l91:bx Tryz.prog Tryz.f91=some c91:=by kernel_rfl
theorem CN(l:List cO)(hb:l.length<=4194304)(F:Nat)(cs:List Dt)(q:cO->Bool)(hF:∀s,s∈l->∀K:CV->Mem->Prop,K (ax (q s)) [.var (cs.map .aa)]->au Tryz.prog F [s.cv,FC] [.var (cs.map .aa)] K):body Tryz.prog c90 [dD l,(.rv (.one (.fn F [0])))] [.var (cs.map .aa)] (fun r m=>r=an .i64 (nC q l)/\∃ex,m= .var (cs.map .aa)::ex):=by
 refine aK (fun k=>k<=l.length/\∀(j:Nat)s,j<k->l[j]? =some s->q s=false) [0,1,7] (fun k=>[(8,an .i64 (k:Nat))]) (fun _=>[.var (cs.map .aa)]) (fun k=>l.length-k) 0 ⟨Wi _,fun j s h=>absurd h (abb j)⟩ ?_ (fun k hk=>?_)
 .refine View.o1 1 [0] [] ?_
  .exact .put (by simp[bz]) rfl (.jn rfl) (.nil _)
 .refine ay (fun h=>?_) (fun h=>?_)
  .have aB:k<l.length:=by have h:(k:Int)<((l.map cO.enc).length:Int):=h;rw[Nq]at h;omega
   have hg:cR (l.map cO.enc) (k:Nat)=some (l[k].enc):=by rw[bn,Q8,IE aB];rfl
   refine ag hg ?_;refine hF l[k] (Z0 aB) _ ?_;refine aC (fun h=>?_) (fun h=>?_)
   .rw[kO aB h hk.2];exact⟨rfl,[],rfl⟩
   .refine⟨k+1,⟨aB,fun j s hj hs=>?_⟩,(show l.length-(k+1)<l.length-k by omega),View.o 1 [0] [] ?_ ?_⟩
    .rcases ZX j k with h5|h5
     .exact hk.2 j s h5 hs
     .have:j=k:=om;subst this;rw[IE aB]at hs;cases hs;exact h
    .repeat(first|exact .nil|refine .aq ?_|refine .put (.aO (ap om).symm) ?_|refine .eq rfl ?_)
    .exact .put (by simp[bz]) rfl (.jn rfl) (.nil _)
  .have ew:¬(k:Int)<((l.map cO.enc).length:Int):=h;rw[Nq]at ew;rw[mA fun j s hs=>hk.2 j s (by have:=(Mh.1 hs).1;omega) hs]
   exact⟨rfl,[],rfl⟩
theorem Js(l:List cO)(hb:l.length<=4194304)(F:Nat)(cs:List Dt)(q:cO->Bool)(hF:∀s,s∈l->∀K:CV->Mem->Prop,K (ax (q s)) [.var (cs.map .aa)]->au Tryz.prog F [s.cv,FC] [.var (cs.map .aa)] K){K:CV->Mem->Prop}(h:K (an .i64 (nC q l)) [.var (cs.map .aa)]):au Tryz.prog 90 [dD l,(.rv (.one (.fn F [0])))] [.var (cs.map .aa)] K:=
 eF rfl (aX Tryz.func90 l90 (CN l hb F cs q hF)) h
theorem Jt(l:List cO)(hb:l.length<=4194304)(F:Nat)(cs:List Dt)(q:cO->Bool)(hF:∀s,s∈l->∀K:CV->Mem->Prop,K (ax (q s)) [.var (cs.map .aa)]->au Tryz.prog F [s.cv,FC] [.var (cs.map .aa)] K)(K:CV->Mem->Prop)(h:K (ax (l.any q)) [.var (cs.map .aa)]):au Tryz.prog 52 [dD l,(.rv (.one (.fn F [0])))] [.var (cs.map .aa)] K:=by
 refine eF rfl (aX Tryz.func52 l52 (show body Tryz.prog c52 [dD l,(.rv (.one (.fn F [0])))] [.var (cs.map .aa)] (fun r m=>r=ax (l.any q)/\∃ex,m= .var (cs.map .aa)::ex)from ?_)) h
 refine Js l hb F cs q hF ?_;rw[<-rk];exact⟨rfl,[],rfl⟩
theorem Ax(l:List jP)(hb:l.length<=4194304)(F:Nat)(q:jP->Bool)(hF:∀s,s∈l->∀K:CV->Mem->Prop,K (ax (q s)) []->au Tryz.prog F [s.cv] [] K):body Tryz.prog c91 [Hc l,(.rv (.one (.fn F [])))] [] (fun r m=>r=an .i64 (nC q l)):=by
 refine aK (fun k=>k<=l.length/\∀(j:Nat)s,j<k->l[j]? =some s->q s=false) [0,1,7] (fun k=>[(8,an .i64 (k:Nat))]) (fun _=>[]) (fun k=>l.length-k) 0 ⟨Wi _,fun j s h=>absurd h (abb j)⟩ ?_ (fun k hk=>?_)
 .refine View.o1 0 [] [] ?_
  .exact .nil _
 .refine ay (fun h=>?_) (fun h=>?_)
  .have aB:k<l.length:=by have h:(k:Int)<((l.map jP.enc).length:Int):=h;rw[Nq]at h;omega
   have hg:cR (l.map jP.enc) (k:Nat)=some (l[k].enc):=by rw[bn,Q8,IE aB];rfl
   refine ag hg ?_;refine hF l[k] (Z0 aB) _ ?_;refine aC (fun h=>?_) (fun h=>?_)
   .rw[kO aB h hk.2];exact rfl
   .refine⟨k+1,⟨aB,fun j s hj hs=>?_⟩,(show l.length-(k+1)<l.length-k by omega),View.o 0 [] [] ?_ ?_⟩
    .rcases ZX j k with h5|h5
     .exact hk.2 j s h5 hs
     .have:j=k:=om;subst this;rw[IE aB]at hs;cases hs;exact h
    .repeat(first|exact .nil|refine .aq ?_|refine .put (.aO (ap om).symm) ?_|refine .eq rfl ?_)
    .exact .nil _
  .have ew:¬(k:Int)<((l.map jP.enc).length:Int):=h;rw[Nq]at ew;rw[mA fun j s hs=>hk.2 j s (by have:=(Mh.1 hs).1;omega) hs]
   exact rfl
theorem FD(l:List jP)(hb:l.length<=4194304)(F:Nat)(q:jP->Bool)(hF:∀s,s∈l->∀K:CV->Mem->Prop,K (ax (q s)) []->au Tryz.prog F [s.cv] [] K){m:Mem}{K:CV->Mem->Prop}(h:K (an .i64 (nC q l)) m):au Tryz.prog 91 [Hc l,(.rv (.one (.fn F [])))] m K:=
 bs Tryz.func91 l91 rfl (X5 rfl) (Ax l hb F q hF) rfl rfl h
theorem Ju(l:List jP)(hb:l.length<=4194304)(F:Nat)(q:jP->Bool)(hF:∀s,s∈l->∀K:CV->Mem->Prop,K (ax (q s)) []->au Tryz.prog F [s.cv] [] K){m:Mem}{K:CV->Mem->Prop}(h:K (ax (l.any q)) m):au Tryz.prog 54 [Hc l,(.rv (.one (.fn F [])))] m K:=by
 refine bs Tryz.func54 l54 rfl (X5 rfl) (show body Tryz.prog c54 [Hc l,(.rv (.one (.fn F [])))] [] (fun r m=>r=ax (l.any q))from ?_) rfl rfl h
 refine FD l hb F q hF ?_;rw[<-rk];exact rfl
def l6(m:jP):Bool:=decide (m.w<1)||decide (m.w>=6)||decide (m.bits<1)||decide (m.bits>=2147483648)
theorem Xb(p s:cO)(K:CV->Mem->Prop)(h:K (ax (s.call==p.call)) [.var (p.enc.map .aa)]):au Tryz.prog 53 [s.cv,FC] [.var (p.enc.map .aa)] K:=
 eF rfl (aX Tryz.func53 l53 (show body Tryz.prog c53 [s.cv,FC] [.var (p.enc.map .aa)] (fun r m=>r=ax (s.call==p.call)/\∃ex,m= .var (p.enc.map .aa)::ex)from⟨rfl,_,rfl⟩)) h
theorem To(s:jP):body Tryz.prog c55 [s.cv] [] (fun r m=>r=ax (l6 s)):=by
 refine aC (fun h=>?_) (fun h=>?_)
 .rw[l6,h];exact rfl
 refine aC (fun h2=>?_) (fun h2=>?_)
 .rw[l6,h,h2];exact rfl
 refine aC (fun h3=>?_) (fun h3=>?_)
 .rw[l6,h,h2,h3];exact rfl
 .rw[l6,h,h2,h3];exact rfl
theorem Xc(s:jP)(K:CV->Mem->Prop)(h:K (ax (l6 s)) []):au Tryz.prog 55 [s.cv] [] K:=
 bs Tryz.func55 l55 rfl (X5 rfl) (To s) rfl rfl h
theorem Xd(e k:Int)(K:CV->Mem->Prop)(h:K (nH (e,k)) [.var ([Dt.val (.int .i64 k)].map .aa)]):au Tryz.prog 19 [an .i64 e,FC] [.var ([Dt.val (.int .i64 k)].map .aa)] K:=
 eF rfl (aX Tryz.func19 l19 (show body Tryz.prog c19 [an .i64 e,FC] [.var ([Dt.val (.int .i64 k)].map .aa)] (fun r m=>r=nH (e,k)/\∃ex,m= .var ([Dt.val (.int .i64 k)].map .aa)::ex)from⟨rfl,_,rfl⟩)) h
def c9:LF:= ⟨77,[.cell true 2 2],(.seq (.ai [qu 2 (.alloc [qd 0,qd 0])]) (.seq (.seq (.ai [qm 9 0,qu 10 (.len 1 9),qu 11 (.aF .gtr 10 (qi 30))]) (.cond 11 (.seq (.ai [qu 12 (.build [qd 0,qd 0] [(0,1,qi 5)]),qw (.store 2 2 12)]) .ret) .skip)) (.seq (.ai [qu 13 (.pk),qm 3 13]) (.seq (.seq (.ai [qm 14 0,qu 15 (.len 1 14),qu 16 (.aH (qi 0))]) (.block 0 (.loop (.seq (.ai [qu 17 (.aF .lss 16 15)]) (.seq (.cond 17 .skip (.exit 0)) (.seq (.block 1 (.seq (.ai [qm 18 16,qu 19 (.bW 2 14 16),qL 20 2 19,qu 4 (.alloc [qd 0]),qu 5 (.alloc [qd 0,.aI]),qw (.store 1 4 18),qw (.store 2 5 20)]) (.seq (.ai [qu 21 (.fn 19 [4]),qm 6 21]) (.seq (.seq (.ai [qf 22 0 5,ql 23 22,qu 24 (.aF .lss 23 (qi 0)),qm 25 24,qg 26 (.br 0 5) 25 false,qg 27 (.load false 1 26) 25 false,qg 28 (.aF .geq 27 (qi 2147483648)) 25 false,qu 29 (.pick 25 (qb true) 28)]) (.cond 29 (.seq (.ai [qm 30 6,qu 31 (.call 30 [qi 3]),qw (.store 2 2 31)]) .ret) .skip)) (.seq (.seq (.ai [qm 32 3,qf 33 0 5,ql 34 33,qu 35 (.rR (.one (.aa (.val (.bool false)))) (.i .i64) 32 34 false)]) (.cond 35 (.seq (.ai [qm 36 6,qu 37 (.call 36 [qi 7]),qw (.store 2 2 37)]) .ret) .skip)) (.seq (.ai [qm 38 3,qf 39 0 5,ql 40 39,qw (.rS (.i .i64) 38 40 (qb true))]) (.seq (.seq (.ai [qf 41 1 5,ql 42 41,qu 43 (.len 1 42),qu 44 (.aF .gtr 43 (qi 3))]) (.cond 44 (.seq (.ai [qm 45 6,qu 46 (.call 45 [qi 5]),qw (.store 2 2 46)]) .ret) .skip)) (.seq (.ai [qf 47 1 5,ql 48 47,qu 49 (.len 1 48),qu 50 (.aH (qi 0))]) (.block 2 (.loop (.seq (.ai [qu 51 (.aF .lss 50 49)]) (.seq (.cond 51 .skip (.exit 2)) (.seq (.block 3 (.seq (.ai [qu 52 (.bW 2 48 50),qL 53 2 52,qu 8 (.alloc [qd 0,qd 0]),qw (.store 2 8 53)]) (.seq (.ai [qf 54 0 8,ql 55 54,qu 56 (.aF .lss 55 (qi 1)),qm 57 56,qg 58 (.br 0 8) 57 false,qg 59 (.load false 1 58) 57 false,qg 60 (.aF .gtr 59 (qi 5)) 57 false,qu 61 (.pick 57 (qb true) 60),qm 62 61,qg 63 (.br 1 8) 62 false,qg 64 (.load false 1 63) 62 false,qg 65 (.aF .lss 64 (qi 1)) 62 false,qu 66 (.pick 62 (qb true) 65),qm 67 66,qg 68 (.br 1 8) 67 false,qg 69 (.load false 1 68) 67 false,qg 70 (.aF .geq 69 (qi 2147483648)) 67 false,qu 71 (.pick 67 (qb true) 70)]) (.cond 71 (.seq (.ai [qm 72 6,qu 73 (.call 72 [qi 3]),qw (.store 2 2 73)]) .ret) .skip)))) (.ai [qu 74 (.aF .add 50 (qi 1)),qm 50 74])))))))))))))) (.ai [qu 75 (.aF .add 16 (qi 1)),qm 16 75]))))))) (.seq (.ai [qu 76 (.build [qd 0,qd 0] []),qw (.store 2 2 76)]) .ret)))))⟩
def c29:LF:= ⟨46,[.cell true 2 2],(.seq (.ai [qu 2 (.alloc [qd 0,qd 0])]) (.seq (.seq (.ai [qm 5 0,qu 6 (.len 1 5),qu 7 (.aF .gtr 6 (qi 30))]) (.cond 7 (.seq (.ai [qu 8 (.build [qd 0,qd 0] [(0,1,qi 5)]),qw (.store 2 2 8)]) .ret) .skip)) (.seq (.seq (.ai [qm 9 0,qu 10 (.len 1 9),qu 11 (.aH (qi 0))]) (.block 0 (.loop (.seq (.ai [qu 12 (.aF .lss 11 10)]) (.seq (.cond 12 .skip (.exit 0)) (.seq (.block 1 (.seq (.ai [qm 13 11,qu 14 (.bW 2 9 11),qL 15 2 14,qu 4 (.alloc [qd 0,.aI]),qm 3 13,qw (.store 2 4 15)]) (.seq (.seq (.ai [qf 16 0 4,ql 17 16,qu 18 (.aF .lss 17 (qi 0)),qm 19 18,qg 20 (.br 0 4) 19 false,qg 21 (.load false 1 20) 19 false,qg 22 (.aF .geq 21 (qi 2147483648)) 19 false,qu 23 (.pick 19 (qb true) 22)]) (.cond 23 (.seq (.ai [qm 24 3,qu 25 (.build [qd 0,qd 0] [(0,1,qi 3),(1,1,24)]),qw (.store 2 2 25)]) .ret) .skip)) (.seq (.seq (.ai [qm 26 0,qm 27 3,qu 28 (.nh 2 26 none (some 27) none),qu 29 (.fn 53 [4]),qu 30 (qc 52 [28,29])]) (.cond 30 (.seq (.ai [qm 31 3,qu 32 (.build [qd 0,qd 0] [(0,1,qi 7),(1,1,31)]),qw (.store 2 2 32)]) .ret) .skip)) (.seq (.seq (.ai [qf 33 1 4,ql 34 33,qu 35 (.len 1 34),qu 36 (.aF .gtr 35 (qi 3))]) (.cond 36 (.seq (.ai [qm 37 3,qu 38 (.build [qd 0,qd 0] [(0,1,qi 5),(1,1,37)]),qw (.store 2 2 38)]) .ret) .skip)) (.seq (.ai [qf 39 1 4,ql 40 39,qu 41 (qc 54 [40,(.c (.rv (.one (.fn 55 []))))])]) (.cond 41 (.seq (.ai [qm 42 3,qu 43 (.build [qd 0,qd 0] [(0,1,qi 3),(1,1,42)]),qw (.store 2 2 43)]) .ret) .skip))))))) (.ai [qu 44 (.aF .add 11 (qi 1)),qm 11 44]))))))) (.seq (.ai [qu 45 (.build [qd 0,qd 0] []),qw (.store 2 2 45)]) .ret))))⟩
def fQ(pre:List cO)(p:cO):Int:=
 if p.call<0\/p.call>=2147483648 then 3 else if pre.any (fun q=>q.call==p.call)=true then 7 else if p.bg.length>3 then 5 else if p.bg.any l6=true then 3 else 0
def gN(l:List cO)(k:Nat):Int:=match l[k]? with|some p=>fQ (l.take k) p|none=>0
def s7(f:Nat->Int):Nat->Nat->Int×Int
 |0,_=>(0,0)
 |n+1,k=>if f k=0 then s7 f n (k+1)else(f k,(k:Int))
theorem s8{f:Nat->Int}:∀(n k:Nat),(∀j,k<=j->j<k+n->f j=0)->s7 f n k=(0,0)
 |0,_,_=>rfl
 |n+1,k,h=>by rw[s7,if_pos (h k (SS k) om)];exact s8 n (k+1) fun j h1 h2=>h j om om
theorem qt{f:Nat->Int}:∀(n k j:Nat),k<=j->j<k+n->(∀i,k<=i->i<j->f i=0)->f j≠0->s7 f n k=(f j,(j:Int))
 |0,_,_,_,_,_,_=>om
 |n+1,k,j,h1,h2,h3,h4=>by
  rw[s7];rcases ZX k j with h|h
  .rw[if_pos (h3 k (SS k) h)];exact qt n (k+1) j om om (fun i a b=>h3 i om b) h4
  .have:k=j:=om;subst this;rw[if_neg h4]
def cF(l:List cO):Int×Int:=if l.length>30 then(5,0)else s7 (gN l) l.length 0
theorem yU{l:List cO}{k:Nat}(h0:¬l.length>30)(hk:k<l.length)(hg:∀j,j<k->gN l j=0){e:Int}(h:fQ (l.take k) l[k]=e)(he:e≠0):nH (e,(k:Int))=nH (cF l):=by
 have hw:gN l k=e:=by rw[gN,IE hk];exact h
 rw[cF,if_neg h0,qt l.length 0 k om om (fun i _ hi=>hg i hi) (by rw[hw];exact he),hw]
theorem wM{l:List cO}{k:Nat}(hk:k<l.length)(hg:∀j,j<k->gN l j=0)(h:fQ (l.take k) l[k]=0):∀j,j<k+1->gN l j=0:=by
 intro j hj;rcases ZX j k with h1|h1
 .exact hg j h1
 .have:j=k:=om;subst this;rw[gN,IE hk];exact h
theorem l29:bx Tryz.prog Tryz.f29=some c29:=by kernel_rfl
theorem FE(l:List cO):body Tryz.prog c29 [dD l] [] (fun r m=>r=nH (cF l)):=by
 refine ay (fun h=>?_) (fun h0=>?_)
 .have h:l.length>30:=by have h:(((l.map cO.enc).length:Nat):Int)>30:=h;rw[Nq]at h;omega
  rw[cF,if_pos h];exact rfl
 have h0:¬l.length>30:=by have h:¬(((l.map cO.enc).length:Nat):Int)>30:=h0;rw[Nq]at h;omega
 refine aK (fun k=>k<=l.length/\∀(j:Nat),j<k->gN l j=0) [0,2,9,10] (fun k=>[(11,an .i64 (k:Nat))]) (fun _=>[.var [.aa (.val (.int .i64 0)),.aa (.val (.int .i64 0))]]) (fun k=>l.length-k) 0 ⟨Wi _,fun j h=>absurd h (abb j)⟩ ?_ (fun k hk=>?_)
 .refine View.o1 1 [0] [] ?_
  .exact .put (by simp[bz]) rfl (.eq rfl aG) (.nil _)
 .refine ay (fun h=>?_) (fun h=>?_)
  .have aB:k<l.length:=by have h:(k:Int)<((l.map cO.enc).length:Int):=h;rw[Nq]at h;omega
   have bad:∀{e:Int},fQ (l.take k) l[k]=e->e≠0->nH (e,(k:Int))=nH (cF l):=fun a b=>yU h0 aB hk.2 a b
   have Nk:=wM aB hk.2;have hg:cR (l.map cO.enc) (k:Nat)=some [.val (.int .i64 l[k].call),.sl 2 (l[k].bg.map jP.enc)]:=by rw[bn,Q8,IE aB];rfl
   generalize l[k]=p at bad Nk hg;obtain⟨call,bg⟩:=p;refine ag hg ?_;refine ay (fun h=>?_) (fun h1=>?_)
   .exact bad (by rw[fQ,if_pos (.inl h)]) (by decide)
   refine ay (fun h=>?_) (fun h2=>?_)
   .exact bad (by rw[fQ,if_pos (.inr h)]) (by decide)
   have n1:¬((⟨call,bg⟩:cO).call<0\/(⟨call,bg⟩:cO).call>=2147483648):=fun h=>h.elim h1 h2
   have tF:∀{m:Mem}{K:CV->Mem->Prop},dd m 1=some (.var ((⟨call,bg⟩:cO).enc.map .aa))->K (ax ((l.take k).any fun q=>q.call==(⟨call,bg⟩:cO).call)) m->au Tryz.prog 52 [.rv (.one (.aa (.sl 2 (((l.map cO.enc).take k).drop 0)))),.rv (.one (.fn 53 [1]))] m K:=by
    intro m K hm hK;have e:((l.map cO.enc).take k).drop 0=(l.take k).map cO.enc:=aG;rw[e];exact fe 1 hm rfl rfl (Jt (l.take k) (by simp;omega) 53 (⟨call,bg⟩:cO).enc (fun q=>q.call==(⟨call,bg⟩:cO).call) fun s _ K hs=>Xb _ s K hs) hK
   refine bY (by simp[abr];omega) ?_
   refine tF rfl ?_;refine aC (fun h=>?_) (fun h3=>?_)
   .exact bad (by rw[fQ,if_neg n1,if_pos h]) (by decide)
   have n2:¬((l.take k).any fun q=>q.call==(⟨call,bg⟩:cO).call)=true:=by rw[h3];simp
   refine ay (fun h=>?_) (fun h4=>?_)
   .have h:(⟨call,bg⟩:cO).bg.length>3:=by have h:(((bg.map jP.enc).length:Nat):Int)>3:=h;rw[Nq]at h;show bg.length>3;omega
    exact bad (by rw[fQ,if_neg n1,if_neg n2,if_pos h]) (by decide)
   have n3:¬(⟨call,bg⟩:cO).bg.length>3:=by have h:¬(((bg.map jP.enc).length:Nat):Int)>3:=h4;rw[Nq]at h;show ¬bg.length>3;omega
   refine Ju bg (by have:¬bg.length>3:=n3;omega) 55 l6 (fun s _ K hs=>Xc s K hs) ?_
   refine aC (fun h=>?_) (fun h5=>?_)
   .exact bad (by rw[fQ,if_neg n1,if_neg n2,if_neg n3,if_pos h]) (by decide)
   have n4:¬(⟨call,bg⟩:cO).bg.any l6=true:=by show ¬bg.any l6=true;rw[h5];simp
   refine⟨k+1,⟨aB,Nk (by rw[fQ,if_neg n1,if_neg n2,if_neg n3,if_neg n4])⟩,(show l.length-(k+1)<l.length-k by omega),View.o 2 [0] [] ?_ ?_⟩
   .repeat(first|exact .nil|refine .aq ?_|refine .put (.aO (ap om).symm) ?_|refine .eq rfl ?_)
   .exact .put (by simp[bz]) rfl (.eq rfl aG) (.nil _)
  .have ew:¬(k:Int)<((l.map cO.enc).length:Int):=h;rw[Nq]at ew;rw[cF,if_neg h0,s8 l.length 0 fun j _ hj=>hk.2 j om]
   exact rfl
theorem Nl(l:List cO){m:Mem}{K:CV->Mem->Prop}(h:K (nH (cF l)) m):au Tryz.prog 29 [dD l] m K:=
 bs Tryz.func29 l29 rfl (X5 rfl) (FE l) rfl rfl h
def ut(p:cO):ME:=⟨.int .i64 p.call,.one (.aa (.val (.bool true)))⟩
theorem t7(c:Int):∀L:List cO,nM (.int .i64 c) (L.map ut)=if L.any (fun q=>q.call==c)=true then some (some (.one (.aa (.val (.bool true)))))else some none
 | []=>rfl
 |p::r=>by
  have ih:=t7 c r;simp only[abv,nM,ut,nk,decide_true,acv];by_cases h:c=p.call
  .subst h;simp
  .have h1:(c==p.call)=false:=by simpa using h
   have h2:(p.call==c)=false:=by simpa using fun e=>h e.symm
   simp only[h1,h2,ab2];exact ih
theorem wN(c:Int)(v:RV):∀L:List cO,L.any (fun q=>q.call==c)=false->uQ (.int .i64 c) v (L.map ut)=some (L.map ut++ [⟨.int .i64 c,v⟩])
 | [],_=>rfl
 |p::r,h=>by
  simp only[acv,acB]at h;have ih:=wN c v r h.2;have h1:(c==p.call)=false:=by have:=h.1;simp only[beq_eq_false_iff_ne,ne_eq]at this⊢;exact fun e=>this e.symm
  simp only[abv,uQ,ut,nk,decide_true,h1];rw[ih];rfl
theorem FF{σ:Nat->Nat}(L:List cO):(Bk.mp (L.map ut)).aO σ= .mp (L.map ut):=by simp[Bk.aO,RV.aO,CC.aO,ut,acf]
theorem l9:bx Tryz.prog Tryz.f9=some c9:=by kernel_rfl
theorem CO(l:List cO):body Tryz.prog c9 [dD l] [] (fun r m=>r=nH (cF l)):=by
 refine ay (fun h=>?_) (fun h0=>?_)
 .have h:l.length>30:=by have h:(((l.map cO.enc).length:Nat):Int)>30:=h;rw[Nq]at h;omega
  rw[cF,if_pos h];exact rfl
 have h0:¬l.length>30:=by have h:¬(((l.map cO.enc).length:Nat):Int)>30:=h0;rw[Nq]at h;omega
 refine aK (fun k=>k<=l.length/\∀(j:Nat),j<k->gN l j=0) [0,2,3,14,15] (fun k=>[(16,an .i64 (k:Nat))]) (fun k=>[.var [.aa (.val (.int .i64 0)),.aa (.val (.int .i64 0))],.mp ((l.take k).map ut)]) (fun k=>l.length-k) 0 ⟨Wi _,fun j h=>absurd h (abb j)⟩ ?_ (fun k hk=>?_)
 .refine View.o1 2 [0,1] [] ?_
  .exact .put (by simp[bz]) rfl (.eq rfl aG) (.put (by simp[bz]) rfl (.eq rfl aG) (.nil _))
 .refine ay (fun h=>?_) (fun h=>?_)
  .have aB:k<l.length:=by have h:(k:Int)<((l.map cO.enc).length:Int):=h;rw[Nq]at h;omega
   have bad:∀{e:Int},fQ (l.take k) l[k]=e->e≠0->nH (e,(k:Int))=nH (cF l):=fun a b=>yU h0 aB hk.2 a b
   have Nk:=wM aB hk.2;have LG:l.take (k+1)=l.take k++ [l[k]]:=by rw[abM,IE aB];rfl
   have hg:cR (l.map cO.enc) (k:Nat)=some [.val (.int .i64 l[k].call),.sl 2 (l[k].bg.map jP.enc)]:=by rw[bn,Q8,IE aB];rfl
   generalize l[k]=p at bad Nk hg LG;obtain⟨call,bg⟩:=p;have CP:∀(e:Int){m:Mem}{K:CV->Mem->Prop},dd m 2=some (.var ([Dt.val (.int .i64 (k:Nat))].map .aa))->K (nH (e,(k:Int))) m->au Tryz.prog 19 [an .i64 e,.rv (.one (.ptr 2 0))] m K:=by intro e m K hm hK;exact fe 2 hm rfl rfl (Xd e (k:Nat)) hK
   refine ag hg ?_;refine ay (fun h=>?_) (fun h1=>?_)
   .refine CP 3 rfl ?_;exact bad (by rw[fQ,if_pos (.inl h)]) (by decide)
   refine ay (fun h=>?_) (fun h2=>?_)
   .refine CP 3 rfl ?_;exact bad (by rw[fQ,if_pos (.inr h)]) (by decide)
   have n1:¬((⟨call,bg⟩:cO).call<0\/(⟨call,bg⟩:cO).call>=2147483648):=fun h=>h.elim h1 h2
   have hf:=t7 call (l.take k);cases h3:(l.take k).any (fun q=>q.call==call)with
   |true=>
    rw[h3,if_pos rfl]at hf;refine ag hf ?_;refine CP 7 rfl ?_;exact bad (by rw[fQ,if_neg n1,if_pos h3]) (by decide)
   |false=>
    rw[h3,if_neg aG]at hf;refine ag hf ?_;have n2:¬((l.take k).any fun q=>q.call==(⟨call,bg⟩:cO).call)=true:=by
     show ¬((l.take k).any fun q=>q.call==call)=true
     rw[h3];simp
    refine ag (wN call (.one (.aa (.val (.bool true)))) (l.take k) h3) ?_;refine ay (fun h=>?_) (fun h4=>?_)
    .have h:(⟨call,bg⟩:cO).bg.length>3:=by have h:(((bg.map jP.enc).length:Nat):Int)>3:=h;rw[Nq]at h;show bg.length>3;omega
     refine CP 5 rfl ?_;exact bad (by rw[fQ,if_neg n1,if_neg n2,if_pos h]) (by decide)
    have n3:¬(⟨call,bg⟩:cO).bg.length>3:=by have h:¬(((bg.map jP.enc).length:Nat):Int)>3:=h4;rw[Nq]at h;show ¬bg.length>3;omega
    have hm3:bg.length<=3:=by have:¬bg.length>3:=n3;omega
    have hmp:(l.take k).map ut++ [⟨.int .i64 call,.one (.aa (.val (.bool true)))⟩]=(l.take (k+1)).map ut:=by rw[LG,abn];rfl
    refine aK (fun j=>j<=bg.length/\∀(i:Nat)s,i<j->bg[i]? =some s->l6 s=false) [0,2,3,6,14,15,16,48,49] (fun j=>[(50,an .i64 (j:Nat))])
     (fun _=>[.var [.aa (.val (.int .i64 0)),.aa (.val (.int .i64 0))],.mp ((l.take (k+1)).map ut),.var ([Dt.val (.int .i64 (k:Nat))].map .aa)]) (fun j=>bg.length-j) 0 ⟨Wi _,fun j s h=>absurd h (abb j)⟩ ?_ (fun j hj=>?_)
    .refine View.o1 4 [0,1,2] [] ?_
     .exact .put (by simp[bz]) rfl (.eq rfl aG) (.put (by simp[bz]) rfl (.eq (by rw[hmp];exact FF _) aG) (.put (by simp[bz]) rfl (.eq rfl aG) (.nil _)))
    .refine ay (fun h=>?_) (fun h=>?_)
     .have da:j<bg.length:=by have h:(j:Int)<((bg.map jP.enc).length:Int):=h;rw[Nq]at h;omega
      have hi:=IE da;generalize bg[j]=s at hi;have R6:l6 s=true->bg.any l6=true:=fun h=>abt.2 ⟨s,Rq hi,h⟩
      obtain⟨w,bits⟩:=s;have pz:cR (bg.map jP.enc) (j:Nat)=some [.val (.int .i64 w),.val (.int .i64 bits)]:=by rw[bn,Q8,hi];rfl
      have OT:l6 ⟨w,bits⟩=(decide (w<1)||decide (w>5)||decide (bits<1)||decide (bits>=2147483648)):=by
       have e:decide (w>=6)=decide (w>5):=by rw[ac2];simp;omega
       simp only[l6,e]
      have out:l6 ⟨w,bits⟩=true->nH (3,(k:Int))=nH (cF l):=fun h=>bad (by rw[fQ,if_neg n1,if_neg n2,if_neg n3,if_pos (R6 h)]) (by decide)
      refine ag pz ?_;refine aC (fun h=>?_) (fun m1=>?_)
      .refine CP 3 rfl ?_;exact out (by rw[OT,h];rfl)
      refine aC (fun h=>?_) (fun m2=>?_)
      .refine CP 3 rfl ?_;exact out (by rw[OT,m1,h];rfl)
      refine aC (fun h=>?_) (fun m3=>?_)
      .refine CP 3 rfl ?_;exact out (by rw[OT,m1,m2,h];rfl)
      refine aC (fun h=>?_) (fun m4=>?_)
      .refine CP 3 rfl ?_;exact out (by rw[OT,m1,m2,m3,h];rfl)
      refine⟨j+1,⟨da,fun i s qy hs=>?_⟩,(show bg.length-(j+1)<bg.length-j by omega),View.o 4 [0,1,2] [] ?_ ?_⟩
      .rcases ZX i j with h5|h5
       .exact hj.2 i s h5 hs
       .have:i=j:=om;subst this;rw[hi]at hs;cases hs;rw[OT,m1,m2,m3,m4];rfl
      .repeat(first|exact .nil|refine .aq ?_|refine .put (.aO (ap om).symm) ?_|refine .eq rfl ?_)
      .exact .put (by simp[bz]) rfl (.eq rfl aG) (.put (by simp[bz]) rfl (.eq (FF _) aG) (.put (by simp[bz]) rfl (.eq rfl aG) (.nil _)))
     .have ew:¬(j:Int)<((bg.map jP.enc).length:Int):=h;rw[Nq]at ew;have n4:¬(⟨call,bg⟩:cO).bg.any l6=true:=by show ¬bg.any l6=true;intro h;obtain⟨s,hs,hb⟩:=abt.1 h;obtain⟨i,hi⟩:=Xf hs;have:=(Mh.1 hi).1;rw[hj.2 i s om hi]at hb;cases hb
      refine⟨k+1,⟨aB,Nk (by rw[fQ,if_neg n1,if_neg n2,if_neg n3,if_neg n4])⟩,(show l.length-(k+1)<l.length-k by omega),View.o 3 [0,1] [] ?_ ?_⟩
      .repeat(first|exact .nil|refine .aq ?_|refine .put (.aO (ap om).symm) ?_|refine .eq rfl ?_)
      .exact .put (by simp[bz]) rfl (.eq rfl aG) (.put (by simp[bz]) rfl (.eq (FF _) aG) (.nil _))
  .have ew:¬(k:Int)<((l.map cO.enc).length:Int):=h;rw[Nq]at ew;rw[cF,if_neg h0,s8 l.length 0 fun j _ hj=>hk.2 j om]
   exact rfl
theorem Jv(l:List cO){m:Mem}{K:CV->Mem->Prop}(h:K (nH (cF l)) m):au Tryz.prog 9 [dD l] m K:=
 bs Tryz.func9 l9 rfl (X5 rfl) (CO l) rfl rfl h
def oI:List jP->List dX
 | []=>[⟨6,0,0,1⟩,⟨6,0,0,0⟩]
 |m::r=>⟨1,0,0,m.w⟩:: ⟨4,((2*r.length+1:Nat):Int),0,m.bits⟩::oI r
def fF(p:cO):List dX:=⟨2,0,((2*p.bg.length+1:Nat):Int),p.call⟩::oI p.bg
def PN(l:List cO):Int:=match l[l.length/2]? with|some p=>p.call|none=>0
def gI:Nat->List cO->List dX
 |0,_=>[⟨6,0,0,0⟩]
 |_+1,[]=>[⟨6,0,0,0⟩]
 |_+1,[p]=>fF p
 |n+1,p::q::r=>⟨3,0,1,PN (p::q::r)⟩:: ⟨5,0,0,(gI n ((p::q::r).take ((p::q::r).length/2))).length⟩::
   (gI n ((p::q::r).take ((p::q::r).length/2))++gI n ((p::q::r).drop ((p::q::r).length/2)))
theorem yV{n:Nat}{l:List cO}(h:2<=l.length):gI (n+1) l=⟨3,0,1,PN l⟩:: ⟨5,0,0,(gI n (l.take (l.length/2))).length⟩::(gI n (l.take (l.length/2))++gI n (l.drop (l.length/2))):=by
 match l,h with
 |p::q::r,_=>rfl
theorem s9:∀ms:List jP,(oI ms).length=2*ms.length+2
 | []=>rfl
 |m::r=>by simp[oI,s9 r];omega
theorem wO:∀ms:List jP,(oI ms)[2*ms.length+1]? =some ⟨6,0,0,0⟩
 | []=>rfl
 |m::r=>by
  have:=wO r;rw[aar,show 2*(r.length+1)+1=2*r.length+1+1+1 by omega]
  simpa[oI]using this
def At(P:List dX)(a:Nat)(c:List dX):Prop:=∀(j:Nat)i,c[j]? =some i->P[a+j]? =some i
theorem At.head{P:List dX}{a:Nat}{x:dX}{c:List dX}(h:At P a (x::c)):P[a]? =some x:=h 0 x rfl
theorem At.tail{P:List dX}{a:Nat}{x:dX}{c:List dX}(h:At P a (x::c)):At P (a+1) c:=fun j i hi=>by
 have:=h (j+1) i (by simpa using hi)
 rwa [show a+(j+1)=a+1+j by omega]at this
theorem At.right{P:List dX}{a:Nat}{c d:List dX}(h:At P a (c++d)):At P (a+c.length) d:=fun j i hi=>by
 have:=h (c.length+j) i (by rw[ZW om];simpa using hi)
 rwa [show a+(c.length+j)=a+c.length+j by omega]at this
def l7(l:List cO):Prop:=l.Pairwise fun a b=>a.call<b.call
theorem l7.lo{l:List cO}(h:l7 l){k:Nat}{q:cO}(hk:l[k]? =some q):∀p,p∈l.take k->p.call<q.call:=by
 intro p hp;obtain⟨i,hi⟩:=Xf hp;rw[abm]at hi;split at hi
 .rename_i Wj;obtain⟨h1,rfl⟩:=Mh.1 hi;obtain⟨h2,rfl⟩:=Mh.1 hk;exact ab6.1 h i k h1 h2 Wj
 .cases hi
def Tp(c:List dX)(a:Nat)(s:Int):Prop:=∀(j:Nat)i,c[j]? =some i->ii i ((a+j:Nat):Int) s=0
theorem Tp.cons{x:dX}{c:List dX}{a:Nat}{s:Int}(hx:ii x (a:Int) s=0)(h:Tp c (a+1) s):Tp (x::c) a s:=fun j i hi=>by
 cases j with
 |zero=>simp at hi;subst hi;exact hx
 |succ j=>
  have:=h j i (by simpa using hi)
  rwa [show a+1+j=a+(j+1) by omega]at this
def Xe(m:jP):Prop:=1<=m.w/\m.w<6/\1<=m.bits/\m.bits<2147483648
def Rp(p:cO):Prop:=0<=p.call/\p.call<2147483648/\p.bg.length<=3/\∀m,m∈p.bg->Xe m
theorem ta:∀(n:Nat)(l:List cO),(∀p,p∈l->p.bg.length<=3)->l.length<=n->(l=[]->(gI n l).length=1)/\(l≠[]->(gI n l).length+2<=11*l.length)
 |0,l,_,hl=>by have:l=[]:=Z1 om;subst this;simp[gI]
 |n+1,l,h,hl=>by
  rcases ZX l.length 2 with h2|h2
  .match l,h2 with
   | [],_=>simp[gI]
   | [p],_=>
    have:=h p aG;simp[gI,fF,s9];omega
  .refine⟨fun e=>by subst e;simp at h2,fun _=>?_⟩
   have i1:=(ta n (l.take (l.length/2)) (fun p hp=>h p (abC hp)) (by rw[Z4];omega)).2 (fun e=>by have:=congrArg List.length e;rw[Z4,aby]at this;omega)
   have i2:=(ta n (l.drop (l.length/2)) (fun p hp=>h p (ace hp)) (by rw[abK];omega)).2 (fun e=>by have:=congrArg List.length e;rw[abK,aby]at this;omega)
   rw[yV h2];simp only[aar,abO];rw[Z4]at i1;rw[abK]at i2;omega
def gm(l:List cO):List dX:=⟨1,0,0,0⟩::gI l.length l
def oJ(l:List cO):Prop:=l.Pairwise fun a b=>a.call≠b.call
theorem xz{l l':List cO}(h:l'.Perm l)(hd:oJ l):oJ l':=(h.pairwise_iff (fun h=>Ne.symm h)).2 hd
theorem CQ{l:List cO}(h:(cF l).1=0):l.length<=30/\(∀p,p∈l->Rp p)/\oJ l:=by
 unfold cF at h;split at h
 .simp at h
 .rename_i h0;have fN:∀j,j<l.length->gN l j=0:=by
   intro j
   induction j using Nat.strongRecOn with
   |_ j ih=>
    intro hj;by_cases hw:gN l j=0
    .exact hw
    .rw[qt l.length 0 j om om (fun i _ hi=>ih i hi om) hw]at h
     exact absurd h hw
  have fact:∀(j:Nat)p,l[j]? =some p->Rp p/\∀q,q∈l.take j->q.call≠p.call:=by
   intro j p hj;have hw:=fN j (Mh.1 hj).1;rw[gN,hj]at hw;simp only[fQ]at hw;split at hw
   .simp at hw
   .rename_i c1;split at hw
    .simp at hw
    .rename_i c2;split at hw
     .simp at hw
     .rename_i c3;split at hw
      .simp at hw
      .rename_i c4;refine⟨⟨om,om,om,fun m hm=>?_⟩,fun q hq e=>?_⟩
       .have c4:p.bg.any l6=false:=by simpa using c4
        rw[adf]at c4;have hb:l6 m=false:=by simpa using c4 m hm
        simp only[l6,acB,decide_eq_false_iff_not]at hb;refine⟨om,om,om,om⟩
       .refine c2 (abt.2 ⟨q,hq,by simp[e]⟩)
  refine⟨om,fun p hp=>?_,?_⟩
  .obtain⟨j,hj⟩:=Xf hp;exact(fact j p hj).1
  .rw[oJ,ab6];intro i j hi hj qy;refine(fact j l[j] (IE hj)).2 l[i] ?_;exact Rq (i:=i) (by rw[abm,if_pos qy,IE hi])
theorem Jy{l:List cO}(h:l.Pairwise fun a b=>¬b.call<a.call)(hd:oJ l):l7 l:=by have:=List.Pairwise.and h hd;exact this.imp fun⟨a,b⟩=>om
def c34:LF:= ⟨45,[.tmp 2],(.seq (.ai [qu 2 (.aH qe)]) (.seq (.seq (.ai [qm 7 0,qu 8 (.len 1 7)]) (.block 0 (.seq (.ai [qu 10 (.aF .eql 8 (qi 0)),qm 9 10]) (.cond 9 (.seq (.ai [qu 11 (.build [qd 0,qd 0,qd 0,qd 0] [(0,1,qi 6),(3,1,qi 0)]),qu 12 (.ln 4 [qd 0,qd 0,qd 0,qd 0] 1 [(0,11)]),qm 2 12]) .ret) (.seq (.ai [qu 14 (.aF .eql 8 (qi 1)),qm 13 14]) (.cond 13 (.seq (.ai [qm 15 0,qu 16 (.bW 2 15 (qi 0)),qL 17 2 16,qu 18 (qc 59 [17]),qm 2 18]) .ret) .skip)))))) (.seq (.ai [qm 19 0,qu 20 (.len 1 19),qu 21 (.aF .quo 20 (qi 2)),qm 3 21]) (.cu (.seq (.bX [qm 22 0,qm 23 3,qu 24 (.nh 2 22 none (some 23) none),qu 25 (qc 34 [24]),qm 26 0,qm 27 3,qu 28 (.nh 2 26 (some 27) none none),qu 29 (qc 34 [28]),qm 4 25,qm 5 29] [(.cons 0 none (.cons 1 none (.cons 2 none (.cons 4 none (.cons 5 none (.cons 6 none (.cons 3 (some [6]) (.cons 7 (some []) (.cons 8 none (.cons 9 none .nil))))))))))]) (.seq (.ai [qm 30 0,qm 31 3,qu 32 (.bW 2 30 31),qf 33 0 32,ql 34 33,qu 35 (.build [qd 0,qd 0,qd 0,qd 0] [(0,1,qi 3),(1,1,qi 0),(2,1,qi 1),(3,1,34)]),qm 36 4,qu 37 (.len 1 36),qu 38 (.build [qd 0,qd 0,qd 0,qd 0] [(0,1,qi 5),(3,1,37)]),qu 39 (.ln 4 [qd 0,qd 0,qd 0,qd 0] 2 [(0,35),(1,38)]),qm 6 39]) (.seq (.ai [qm 40 6,qm 41 4,qu 42 (.ni 4 32 40 41),qm 43 5,qu 44 (.ni 4 32 42 43),qm 2 44]) .ret)))))))⟩
def c59:LF:= ⟨50,[.tmp 2],(.seq (.ai [qu 1 (.box 0),qu 2 (.aH qe)]) (.seq (.ai [qf 8 1 1,ql 9 8,qu 10 (.len 1 9),qu 11 (.aF .mul (qi 2) 10),qu 12 (.aF .add 11 (qi 1)),qm 3 12]) (.seq (.ai [qm 13 3,qf 14 0 1,ql 15 14,qu 16 (.build [qd 0,qd 0,qd 0,qd 0] [(0,1,qi 2),(1,1,qi 0),(2,1,13),(3,1,15)]),qu 17 (.ln 4 [qd 0,qd 0,qd 0,qd 0] 1 [(0,16)]),qm 4 17]) (.seq (.seq (.ai [qf 18 1 1,ql 19 18,qu 20 (.len 1 19),qu 21 (.aH (qi 0))]) (.block 0 (.loop (.seq (.ai [qu 22 (.aF .lss 21 20)]) (.seq (.cond 22 .skip (.exit 0)) (.seq (.block 1 (.seq (.ai [qm 23 21,qu 24 (.bW 2 19 21),qL 25 2 24,qu 6 (.alloc [qd 0,qd 0]),qm 5 23,qw (.store 2 6 25)]) (.seq (.ai [qf 26 1 1,ql 27 26,qu 28 (.len 1 27),qm 29 5,qu 30 (.aF .sub 28 29),qu 31 (.aF .sub 30 (qi 1)),qu 32 (.aF .mul (qi 2) 31),qu 33 (.aF .add 32 (qi 1)),qm 7 33]) (.ai [qm 34 4,qf 35 0 6,ql 36 35,qu 37 (.build [qd 0,qd 0,qd 0,qd 0] [(0,1,qi 1),(3,1,36)]),qm 38 7,qf 39 1 6,ql 40 39,qu 41 (.build [qd 0,qd 0,qd 0,qd 0] [(0,1,qi 4),(1,1,38),(2,1,qi 0),(3,1,40)]),qu 42 (.ln 4 [qd 0,qd 0,qd 0,qd 0] 2 [(0,37),(1,41)]),qu 43 (.ni 4 32 34 42),qm 4 43])))) (.ai [qu 44 (.aF .add 21 (qi 1)),qm 21 44]))))))) (.seq (.ai [qm 45 4,qu 46 (.build [qd 0,qd 0,qd 0,qd 0] [(0,1,qi 6),(3,1,qi 1)]),qu 47 (.build [qd 0,qd 0,qd 0,qd 0] [(0,1,qi 6),(3,1,qi 0)]),qu 48 (.ln 4 [qd 0,qd 0,qd 0,qd 0] 2 [(0,46),(1,47)]),qu 49 (.ni 4 32 45 48),qm 2 49]) .ret)))))⟩
theorem pE(a b:List (List Dt)):af (a++b)=af a++af b:=by simp[af]
theorem l59:bx Tryz.prog Tryz.f59=some c59:=by kernel_rfl
theorem l34:bx Tryz.prog Tryz.f34=some c34.er:=by kernel_rfl
theorem CR:∀(ms:List jP)(k:Nat)(m:jP),ms[k]? =some m->(oI ms)[2*k]? =some ⟨1,0,0,m.w⟩/\(oI ms)[2*k+1]? =some ⟨4,((2*(ms.length-k-1)+1:Nat):Int),0,m.bits⟩
 | [],k,m,h=>by simp at h
 |x::r,0,m,h=>by
  simp at h;subst h;refine⟨rfl,?_⟩;show some _=some _;rw[aar,show r.length+1-0-1=r.length by omega]
 |x::r,k+1,m,h=>by
  have:=CR r k m (by simpa using h)
  rw[show 2*(k+1)=2*k+1+1 by omega,aar,show r.length+1-(k+1)-1=r.length-k-1 by omega]
  simpa[oI]using this
theorem yW:∀ms:List jP,(oI ms)[2*ms.length]? =some ⟨6,0,0,1⟩
 | []=>rfl
 |m::r=>by
  have:=yW r;rw[aar,show 2*(r.length+1)=2*r.length+1+1 by omega]
  simpa[oI]using this
theorem Jz{p:cO}{k:Nat}{m:jP}(h:p.bg[k]? =some m):(fF p).take (2*(k+1)+1)=(fF p).take (2*k+1)++ [⟨1,0,0,m.w⟩,⟨4,((2*(p.bg.length-k-1)+1:Nat):Int),0,m.bits⟩]:=by
 obtain⟨h1,h2⟩:=CR p.bg k m h;have e1:(fF p)[2*k+1]? =some ⟨1,0,0,m.w⟩:=by simpa[fF]using h1
 have e2:(fF p)[2*k+1+1]? =some ⟨4,((2*(p.bg.length-k-1)+1:Nat):Int),0,m.bits⟩:=by simpa[fF]using h2
 rw[show 2*(k+1)+1=2*k+1+1+1 by omega,abM,e2,abM,e1]
 simp
theorem Nm(p:cO):fF p=(fF p).take (2*p.bg.length+1)++ [⟨6,0,0,1⟩,⟨6,0,0,0⟩]:=by
 have h1:=yW p.bg;have h2:=wO p.bg;have e1:(fF p)[2*p.bg.length+1]? =some ⟨6,0,0,1⟩:=by simpa[fF]using h1
 have e2:(fF p)[2*p.bg.length+1+1]? =some ⟨6,0,0,0⟩:=by simpa[fF]using h2
 have hl:(fF p).length=2*p.bg.length+1+1+1:=by simp[fF,s9]
 have h3:(fF p).take (2*p.bg.length+1+1+1)=fF p:=abS om;rw[abM,e2,abM,e1,acM]at h3;exact h3.symm
theorem FG(p:cO)(hm:p.bg.length<=1000):body Tryz.prog c59 [p.cv] [] (fun r m=>cJ m r (rJ (fF p))):=by
 have hn:IntKind.i64.wrap (IntKind.i64.wrap (2*(((p.bg.map jP.enc).length:Nat):Int))+1)=((2*p.bg.length+1:Nat):Int):=by rw[Nq,gY (n:=2*(p.bg.length:Int)) om om,gY om om];omega
 refine aK (fun k=>k<=p.bg.length) [1,19] (fun k=>[(4,.rv (.one (.row 1 4 0 none))),(20,an .i64 (p.bg.length:Nat)),(21,an .i64 (k:Nat))]) (fun k=>[.var (p.enc.map .aa),.row 4 (af (((fF p).take (2*k+1)).map dX.enc))])
  (fun k=>p.bg.length-k) 0 (Wi _) ?_ (fun k hk=>?_)
 .refine View.o 2 [0,1] [] ?_ ?_
  .repeat(first|exact .nil|refine .aq ?_|refine .eq rfl ?_|refine .put (.aO (by rw[Nq];rfl)) ?_)
  .refine .pe rfl rfl rfl (.pt rfl rfl (.bM ?_) (.nil _));show [[CC.aa (.val (.int .i64 2)),.aa (.val (.int .i64 0)),.aa (.val (.int .i64 (IntKind.i64.wrap (IntKind.i64.wrap (2*(((p.bg.map jP.enc).length:Nat):Int))+1)))),.aa (.val (.int .i64 p.call))]]=_;rw[hn];rfl
 have hk:k<=p.bg.length:=hk;refine ay (fun h=>?_) (fun h=>?_)
 .have aB:k<p.bg.length:=by have h:(k:Int)<(p.bg.length:Int):=h;omega
  have hi:=IE aB;have hT:=Jz hi;have hg:cR (p.bg.map jP.enc) (k:Nat)=some [.val (.int .i64 p.bg[k].w),.val (.int .i64 p.bg[k].bits)]:=by rw[bn,Q8,hi];rfl
  generalize p.bg[k]=mk at hT hg;refine ag hg ?_;have hw:IntKind.i64.wrap (IntKind.i64.wrap (2*IntKind.i64.wrap (IntKind.i64.wrap ((((p.bg.map jP.enc).length:Nat):Int)-(k:Int))-1))+1)=((2*(p.bg.length-k-1)+1:Nat):Int):=by rw[Nq,gY (n:=(p.bg.length:Int)-k) om om,gY (n:=(p.bg.length:Int)-k-1) om om,gY (n:=2*((p.bg.length:Int)-k-1)) om om,gY om om];omega
  refine⟨?_,?_⟩
  .show((af (((fF p).take (2*k+1)).map dX.enc)).length+2)*32<=_;simp[af];omega
  refine⟨k+1,aB,(show p.bg.length-(k+1)<p.bg.length-k by omega),View.o 5 [0,4] [] ?_ ?_⟩
  .repeat(first|exact .nil|refine .aq ?_|refine .put (.aO (ap om).symm) ?_|refine .eq rfl ?_)
  .refine .pe rfl rfl rfl (.pt rfl rfl (.bM ?_) (.nil _));show af (((fF p).take (2*k+1)).map dX.enc)++ [[CC.aa (.val (.int .i64 1)),.aa (.val (.int .i64 0)),.aa (.val (.int .i64 0)),.aa (.val (.int .i64 mk.w))],[.aa (.val (.int .i64 4)),.aa (.val (.int .i64 (IntKind.i64.wrap (IntKind.i64.wrap (2*IntKind.i64.wrap (IntKind.i64.wrap ((((p.bg.map jP.enc).length:Nat):Int)-(k:Int))-1))+1)))),.aa (.val (.int .i64 0)),.aa (.val (.int .i64 mk.bits))]]=_;rw[hw,hT,abn,pE];rfl
 .have uj:k=p.bg.length:=by have h:¬(k:Int)<(p.bg.length:Int):=h;omega
  subst uj;refine⟨?_,?_⟩
  .show((af (((fF p).take (2*p.bg.length+1)).map dX.enc)).length+2)*32<=_;simp[af];omega
  have eA:some (Bk.row 4 (af (((fF p).take (2*p.bg.length+1)).map dX.enc)++ [[CC.aa (.val (.int .i64 6)),.aa (.val (.int .i64 0)),.aa (.val (.int .i64 0)),.aa (.val (.int .i64 1))],[.aa (.val (.int .i64 6)),.aa (.val (.int .i64 0)),.aa (.val (.int .i64 0)),.aa (.val (.int .i64 0))]]))=some (Bk.row 4 (af ((fF p).map dX.enc))):=by
   conv=>rhs;rw[Nm p,abn,pE]
   rfl
  exact .rv (.one (d9.dJ eA 0 none))
theorem Nn(p:cO)(hm:p.bg.length<=1000){m:Mem}{K:CV->Mem->Prop}(h:K (rJ (fF p)) m):au Tryz.prog 59 [p.cv] m K:=
 be (aX Tryz.func59 l59 (FG p hm)) (by simp[cO.cv,CV.dm,CC.dm,RV.dm]) fun r m1 hf=>⟨_,hf,h⟩
theorem qv{n:Nat}{l:List cO}(hg:∀p,p∈l->p.bg.length<=3)(hl:l.length<=30)(hn:l.length<=n):(gI n l).length<=330:=by
 have h2:=ta n l hg hn;by_cases e:l=[]
 .have:=h2.1 e;omega
 .have:=h2.2 e;omega
theorem Hd:∀(n:Nat)(l:List cO),l.length<=n->l.length<=30->(∀p,p∈l->p.bg.length<=3)->∀{m:Mem}{K:CV->Mem->Prop},K (rJ (gI n l)) m->au Tryz.prog 34 [dD l] m K:=by
 intro n
 induction n with
 |zero=>
  intro l hl _ _ m K h;have:l=[]:=Z1 om;subst this;refine be (K0:=fun r m=>cJ m r (rJ (gI 0 []))) (cg Tryz.func34 l34 ?_) (by simp[dD,CV.dm,CC.dm]) fun r m1 hf=>⟨_,hf,h⟩
  exact .rv (.one (d9.dJ rfl 0 none))
 |succ n ih=>
  intro l hl afj hg m K h;refine be (K0:=fun r m=>cJ m r (rJ (gI (n+1) l))) (cg Tryz.func34 l34 ?_) (by simp[dD,CV.dm,CC.dm]) fun r m1 hf=>⟨_,hf,h⟩
  refine bI (fun h0=>?_) (fun h0=>?_)
  .have h0:l=[]:=by have h0:(((l.map cO.enc).length:Nat):Int)=0:=h0;rw[Nq]at h0;exact Z1 om
   subst h0;exact .rv (.one (d9.dJ rfl 0 none))
  have h0:l.length≠0:=by have h0:(((l.map cO.enc).length:Nat):Int)≠0:=h0;rw[Nq]at h0;omega
  refine bI (fun h1=>?_) (fun h1=>?_)
  .have h1:l.length=1:=by have h1:(((l.map cO.enc).length:Nat):Int)=1:=h1;rw[Nq]at h1;omega
   match l,h1 with
   | [p],_=>
    refine Nn p (by have:=hg p (by simp);omega) ?_
    exact cJ.self rfl
  have h2:2<=l.length:=by have h1:(((l.map cO.enc).length:Nat):Int)≠1:=h1;rw[Nq]at h1;omega
  have hq:IntKind.i64.wrap ((((l.map cO.enc).length:Nat):Int).tdiv 2)=((l.length/2:Nat):Int):=by rw[Nq,show(2:Int)=((2:Nat):Int)from rfl,<-Int.ofNat_tdiv,gY om om]
  refine eE [0] [(3,an .i64 ((l.length/2:Nat):Int))] [] (View.o 0 [] [] ?_ (.nil _)) ?_
  .repeat(first|exact .nil|refine .aq ?_|refine .eq rfl ?_|refine .put (.aO (congrArg (an .i64) hq).symm) ?_)
  have hk:l.length/2<l.length:=om;have b1:(Nat.ble 0 (l.length/2)&&Nat.ble (l.length/2) (l.map cO.enc).length)=true:=by rw[ZM,abr,abr,Nq];omega
  have b2:(Nat.ble (l.length/2) (l.map cO.enc).length&&Nat.ble (l.map cO.enc).length (l.map cO.enc).length)=true:=by rw[ZM,abr,abr,Nq];omega
  have e1:((l.map cO.enc).take (l.length/2)).drop 0=(l.take (l.length/2)).map cO.enc:=by rw[ac6,acu]
  have e2:((l.map cO.enc).take (l.map cO.enc).length).drop (l.length/2)=(l.drop (l.length/2)).map cO.enc:=by rw[abp,ade]
  refine bY b1 ?_;refine bY b2 ?_;show au Tryz.prog 34 [.rv (.one (.aa (.sl 2 (((l.map cO.enc).take (l.length/2)).drop 0))))] _ _;rw[e1];refine ih (l.take (l.length/2)) (by rw[Z4];omega) (by rw[Z4];omega) (fun p hp=>hg p (abC hp)) ?_
  refine⟨⟨bY b2 rfl,trivial⟩,?_⟩;show au Tryz.prog 34 [.rv (.one (.aa (.sl 2 (((l.map cO.enc).take (l.map cO.enc).length).drop (l.length/2)))))] _ _;rw[e2];refine ih (l.drop (l.length/2)) (by rw[abK];omega) (by rw[abK];omega) (fun p hp=>hg p (ace hp)) ?_
  refine⟨trivial,?_⟩;have hgt:cR (l.map cO.enc) ((l.length/2:Nat):Int)=some (l[l.length/2].enc):=by rw[bn,Q8,IE hk];rfl
  have So:PN l=(l[l.length/2]).call:=by rw[PN,IE hk]
  refine ag hgt ?_;have t1:=qv (n:=n) (l:=l.take (l.length/2)) (fun p hp=>hg p (abC hp)) (by rw[Z4];omega) (by rw[Z4];omega)
  have t2:=qv (n:=n) (l:=l.drop (l.length/2)) (fun p hp=>hg p (ace hp)) (by rw[abK];omega) (by rw[abK];omega)
  have KZ:=yV (n:=n) h2;generalize gI n (l.take (l.length/2))=lo at t1 KZ;generalize gI n (l.drop (l.length/2))=hi at t2 KZ;refine⟨?_,?_⟩
  .show(2+((lo.map dX.enc).map fun ds=>ds.map CC.aa).length)*32<=_
   simp;omega
  refine⟨?_,?_⟩
  .show(([[CC.aa (.val (.int .i64 3)),.aa (.val (.int .i64 0)),.aa (.val (.int .i64 1)),.aa (.val (.int .i64 (l[l.length/2]).call))],[.aa (.val (.int .i64 5)),.aa (.val (.int .i64 0)),.aa (.val (.int .i64 0)),.aa (.val (.int .i64 (((lo.map dX.enc).length:Nat):Int)))]]++((lo.map dX.enc).map fun ds=>ds.map CC.aa)).length+((hi.map dX.enc).map fun ds=>ds.map CC.aa).length)*32<=_
   simp;omega
  have eA:some (Bk.row 4 (([[CC.aa (.val (.int .i64 3)),.aa (.val (.int .i64 0)),.aa (.val (.int .i64 1)),.aa (.val (.int .i64 (l[l.length/2]).call))],[.aa (.val (.int .i64 5)),.aa (.val (.int .i64 0)),.aa (.val (.int .i64 0)),.aa (.val (.int .i64 (((lo.map dX.enc).length:Nat):Int)))]]++((lo.map dX.enc).map fun ds=>ds.map CC.aa))++((hi.map dX.enc).map fun ds=>ds.map CC.aa)))=some (Bk.row 4 (((gI (n+1) l).map dX.enc).map fun ds=>ds.map CC.aa)):=by rw[KZ,Nq,So];simp[dX.enc]
  exact .rv (.one (d9.dJ eA 0 none))
def Tryz.CS:Go.Shelf.Ren:=⟨fun|6=>31|15=>57|14=>56|28=>100|29=>101|20=>92|21=>93|22=>94|23=>95|24=>96|25=>97|26=>98|27=>99|46=>129|47=>130|48=>131|49=>132|50=>133|57=>151|n=>n,fun|22=>22|24=>65|25=>95|3=>3|39=>120|0=>0|53=>179|55=>181|4=>4|46=>173|45=>172|50=>53|5=>5|9=>9|66=>222|70=>226|76=>238|77=>100|n=>n,fun|n=>n⟩
theorem Tryz.PQ:Go.Proofs.SlLaysF0.n6 Tryz.prog Tryz.CS:={
 mixed:=by kernel_rfl,
 f6:=⟨ "slices.SortFunc[[]ringfence/api.Policy,ringfence/api.Policy]",by decide,Tryz.func31.trans (congrArg some (by kernel_rfl))⟩,
 f14:=⟨ "slices.pdqsortCmpFunc[ringfence/api.Policy]",by decide,Tryz.func56.trans (congrArg some (by kernel_rfl))⟩,
 f15:=Tryz.func57.trans (congrArg some (by kernel_rfl)),
 f20:=⟨ "slices.insertionSortCmpFunc[ringfence/api.Policy]",by decide,Tryz.func92.trans (congrArg some (by kernel_rfl))⟩,
 f21:=⟨ "slices.heapSortCmpFunc[ringfence/api.Policy]",by decide,Tryz.func93.trans (congrArg some (by kernel_rfl))⟩,
 f22:=⟨ "slices.breakPatternsCmpFunc[ringfence/api.Policy]",by decide,Tryz.func94.trans (congrArg some (by kernel_rfl))⟩,
 f23:=⟨ "slices.choosePivotCmpFunc[ringfence/api.Policy]",by decide,Tryz.func95.trans (congrArg some (by kernel_rfl))⟩,
 f24:=⟨ "slices.reverseRangeCmpFunc[ringfence/api.Policy]",by decide,Tryz.func96.trans (congrArg some (by kernel_rfl))⟩,
 f25:=⟨ "slices.partialInsertionSortCmpFunc[ringfence/api.Policy]",by decide,Tryz.func97.trans (congrArg some (by kernel_rfl))⟩,
 f26:=⟨ "slices.partitionEqualCmpFunc[ringfence/api.Policy]",by decide,Tryz.func98.trans (congrArg some (by kernel_rfl))⟩,
 f27:=⟨ "slices.partitionCmpFunc[ringfence/api.Policy]",by decide,Tryz.func99.trans (congrArg some (by kernel_rfl))⟩,
 f28:=Tryz.func100.trans (congrArg some (by kernel_rfl)),
 f29:=Tryz.func101.trans (congrArg some (by kernel_rfl)),
 f46:=⟨ "slices.siftDownCmpFunc[ringfence/api.Policy]",by decide,Tryz.func129.trans (congrArg some (by kernel_rfl))⟩,
 f47:=Tryz.func130.trans (congrArg some (by kernel_rfl)),
 f48:=Tryz.func131.trans (congrArg some (by kernel_rfl)),
 f49:=⟨ "slices.medianAdjacentCmpFunc[ringfence/api.Policy]",by decide,Tryz.func132.trans (congrArg some (by kernel_rfl))⟩,
 f50:=⟨ "slices.medianCmpFunc[ringfence/api.Policy]",by decide,Tryz.func133.trans (congrArg some (by kernel_rfl))⟩,
 f57:=⟨ "slices.order2CmpFunc[ringfence/api.Policy]",by decide,Tryz.func151.trans (congrArg some (by kernel_rfl))⟩,
 t0:=Tryz.underlying0,
 a0:=Tryz.isAgg0,
 z0:=Tryz.sizeOf0,
 v0:=Tryz.zeroValue0,
 t3:=Tryz.underlying3,
 a3:=Tryz.isAgg3,
 z3:=Tryz.sizeOf3,
 v3:=Tryz.zeroValue3,
 t4:=Tryz.underlying4,
 a4:=Tryz.isAgg4,
 z4:=Tryz.sizeOf4,
 v4:=Tryz.zeroValue4,
 t5:=Tryz.underlying5,
 a5:=Tryz.isAgg5,
 z5:=Tryz.sizeOf5,
 v5:=Tryz.zeroValue5,
 t9:=Tryz.underlying9,
 a9:=Tryz.isAgg9,
 z9:=Tryz.sizeOf9,
 v9:=Tryz.zeroValue9,
 t22:=Tryz.underlying22,
 a22:=Tryz.isAgg22,
 z22:=Tryz.sizeOf22,
 v22:=Tryz.zeroValue22,
 t25:=Tryz.underlying95,
 a25:=Tryz.isAgg95,
 z25:=Tryz.sizeOf95,
 v25:=Tryz.zeroValue95,
 t39:=Tryz.underlying120,
 a39:=Tryz.isAgg120,
 z39:=Tryz.sizeOf120,
 v39:=Tryz.zeroValue120,
 t45:=Tryz.underlying172,
 a45:=Tryz.isAgg172,
 z45:=Tryz.sizeOf172,
 v45:=Tryz.zeroValue172,
 t46:=Tryz.underlying173,
 a46:=Tryz.isAgg173,
 z46:=Tryz.sizeOf173,
 v46:=Tryz.zeroValue173,
 t50:=Tryz.underlying53,
 a50:=Tryz.isAgg53,
 z50:=Tryz.sizeOf53,
 v50:=Tryz.zeroValue53,
 t53:=Tryz.underlying179,
 a53:=Tryz.isAgg179,
 z53:=Tryz.sizeOf179,
 v53:=Tryz.zeroValue179,
 t55:=Tryz.underlying181,
 a55:=Tryz.isAgg181,
 z55:=Tryz.sizeOf181,
 v55:=Tryz.zeroValue181,
 t66:=Tryz.underlying222,
 a66:=Tryz.isAgg222,
 z66:=Tryz.sizeOf222,
 v66:=Tryz.zeroValue222,
 t70:=Tryz.underlying226,
 a70:=Tryz.isAgg226,
 z70:=Tryz.sizeOf226,
 v70:=Tryz.zeroValue226,
 t76:=Tryz.underlying238,
 a76:=Tryz.isAgg238,
 z76:=Tryz.sizeOf238,
 v76:=Tryz.zeroValue238,
 t77:=Tryz.underlying100,
 a77:=Tryz.isAgg100,
 z77:=Tryz.sizeOf100,
 v77:=Tryz.zeroValue100}
def Tryz.FH:Go.Shelf.Ren:=⟨fun|5=>33|7=>58|n=>n,fun|22=>3|3=>3|4=>4|n=>n,fun|n=>n⟩
theorem Tryz.Tq:Go.Proofs.SlLaysC2.n5 Tryz.prog Tryz.FH:={
 mixed:=by kernel_rfl,
 f5:=⟨ "cmp.Compare[int]",by decide,Tryz.func33.trans (congrArg some (by kernel_rfl))⟩,
 f7:=⟨ "cmp.isNaN[int]",by decide,Tryz.func58.trans (congrArg some (by kernel_rfl))⟩,
 t3:=Tryz.underlying3,
 a3:=Tryz.isAgg3,
 z3:=Tryz.sizeOf3,
 v3:=Tryz.zeroValue3,
 t4:=Tryz.underlying4,
 a4:=Tryz.isAgg4,
 z4:=Tryz.sizeOf4,
 v4:=Tryz.zeroValue4,
 t22:=Tryz.underlying3,
 a22:=Tryz.isAgg3,
 z22:=Tryz.sizeOf3,
 v22:=Tryz.zeroValue3}
open Go.Shelf Go.Lib Go.Sort in
def Yc(x:cO×(Option Addr×Nat×Nat)):List Value:=[.int .i64 x.1.call,.slice x.2.1 x.2.2.1 x.2.2.2]
instance Yd:Inhabited cO:=⟨⟨0,[]⟩⟩
open Go.Shelf Go.Lib Go.Sort in
theorem No(a b:Int)(s1 s2:Option Addr)(n1 n2 k1 k2:Nat)(W:World):Calls Tryz.prog 32 #[.agg #[.int .i64 a,.slice s1 n1 k1],.agg #[.int .i64 b,.slice s2 n2 k2]] W fun e w'=>e= .returned (.int .i64 (Lib.compareInt a b))/\∃q os',w'=Sort.grow (W.drewN q) os':=by
 have hcon:=fun W'=>AnyG.cmp_Compare_int Tryz.Tq a b W'
 change ∀W',Calls Tryz.prog 33 _ _ _ at hcon;generalize Lib.compareInt a b=r at hcon⊢
 go_enter Tryz.func32,Tryz.ntmps32
 go_wp2_with (go_at_call 33;refine(hcon _).mono ?_;rintro e w' ⟨rfl,rfl⟩)
 go_ret
 exact⟨rfl,0,_,by rw[Sort.alloc_eq_grow,Sort.alloc_eq_grow,Sort.grow_grow];rfl⟩
open Go.Shelf Go.Lib Go.Sort in
theorem PR(x y:cO×(Option Addr×Nat×Nat)):ltOf (fun x y:cO×(Option Addr×Nat×Nat)=>Lib.compareInt x.1.call y.1.call) x y=decide (x.1.call<y.1.call):=by
 unfold ltOf Lib.compareInt;by_cases h1:x.1.call<y.1.call
 .simp[h1]
 .by_cases h2:y.1.call<x.1.call<;>simp[h1,h2]
open Go.Shelf Go.Lib Go.Sort in
theorem aaP:SWO (ltOf fun x y:cO×(Option Addr×Nat×Nat)=>Lib.compareInt x.1.call y.1.call) where
 irrefl x:=by rw[PR];simp
 trans x y z h1 h2:=by rw[PR]at*;simp at*;omega
 ntrans x y z h1 h2:=by rw[PR]at*;simp at*;omega
open Go.Shelf Go.Lib Go.Sort in
theorem Np(l:List cO)(hne:l≠[])(hl:l.length<=4194304){m:Mem}{id:Nat}(hb:dd m id=some (.row 2 (af (l.map cO.enc)))){K:CV->Mem->Prop}(h:∀l':List cO,l'.Perm l->l'.Pairwise (fun a b=>¬b.call<a.call)->K (.bK []) (bb m id (.row 2 (af (l'.map cO.enc))))):au Tryz.prog 31 [.rv (.one (.row id 2 0 none)),.rv (.one (.fn 32 []))] m K:=by
 refine⟨⟨Tryz.f31,Tryz.func31,rfl,by decide⟩,fun ρ w vs hM hvl hd=>?_⟩
 obtain⟨v0,h0,d0⟩:=hd 0 _ rfl;obtain⟨v1,h1,d1⟩:=hd 1 _ rfl;have hvs:vs=[v0,v1]:=by
  match vs,hvl with
  | [a,b],_=>simp at h0 h1;rw[h0,h1]
 rw[aZ]at hb;obtain⟨hid,_,_,hlc,hcm,a,hv0,ha⟩:=(show bC ρ w none (.row id 2 0 none) v0 from d0);obtain⟨_,hv1⟩:=(show bC ρ w none (.fn 32 []) v1 from d1);obtain⟨hln,_,_,hsz,hcu⟩:=hM.bk id _ hb;have hlen:(ρ.aV (.ar id)).len=l.length:=by rw[<-hln];simp[af]
 have hpos:0<l.length:=ac5.2 hne;have hcap:0<(ρ.aV (.ar id)).cap:=om;obtain⟨cur,hcur,hcsz,hcells⟩:=hcu hcap;have ha:=ha hcap;have hel:∀i(hi:i<l.length),∃x:Option Addr×Nat×Nat,cur[(ρ.aV (.ar id)).aA+i*2+0]? =some (.int .i64 l[i].call)/\cur[(ρ.aV (.ar id)).aA+i*2+1]? =some (.slice x.1 x.2.1 x.2.2)/\
   dv ρ.S w (.sl 2 (l[i].bg.map jP.enc)) (.slice x.1 x.2.1 x.2.2):=by
  intro i hi;have hri:(af (l.map cO.enc))[i]? =some (l[i].enc.map .aa):=by simp[af,hi]
  obtain⟨u,hu,hdu⟩:=hcells i _ 0 _ hri rfl;obtain⟨u1,hu1,hdu1⟩:=hcells i _ 1 _ hri rfl;have e0:u= .int .i64 l[i].call:=by
   have hdu:dv ρ.S w (.val (.int .i64 l[i].call)) u:=hdu;cases hdu with
   |val _ _=>rfl
  have hdu1:dv ρ.S w (.sl 2 (l[i].bg.map jP.enc)) u1:=hdu1;obtain⟨b,n,c,e1⟩:∃b n c,u1=Value.slice b n c:=by
   generalize l[i].bg.map jP.enc=E at hdu1;cases hdu1 with
   |nil _ b c _=>exact⟨_,_,_,rfl⟩
   |sl _ _ b off c u _ _ _ _ _ _=>exact⟨_,_,_,rfl⟩
  subst e0 e1;exact⟨(b,n,c),hu,hu1,hdu1⟩
 obtain⟨X,hX⟩:∃X:Nat->Option Addr×Nat×Nat,∀i(hi:i<l.length),cur[(ρ.aV (.ar id)).aA+i*2+0]? =some (.int .i64 l[i].call)/\cur[(ρ.aV (.ar id)).aA+i*2+1]? =some (.slice (X i).1 (X i).2.1 (X i).2.2)/\
   dv ρ.S w (.sl 2 (l[i].bg.map jP.enc)) (.slice (X i).1 (X i).2.1 (X i).2.2):=
  ⟨fun i=>if hi:i<l.length then Classical.choose (hel i hi)else(none,0,0),fun i hi=>by have:=Classical.choose_spec (hel i hi);simp only[dif_pos hi];exact this⟩
 obtain⟨d,hdd⟩:∃d:Array (cO×(Option Addr×Nat×Nat)),d=(l.zipIdx.map fun p=>(p.1,X p.2)).toArray:=⟨_,rfl⟩
 have hds:d.size=l.length:=by simp[hdd]
 have hdg:∀i(hi:i<l.length),d[i]! =(l[i],X i):=by intro i hi;rw[getElem!_pos d i om];simp[hdd]
 have hdl:d.toList.map Prod.fst=l:=by rw[hdd,List.toList_toArray,abW];exact List.zipIdx_map_fst 0 l
 have hH:HoldsK Yc 2 w (ρ.aV (.ar id)).b (ρ.aV (.ar id)).aA d:=by
  intro j hj;rw[size_flatK,hds]at hj;have hi:j/2<l.length:=om;obtain⟨g0,g1,_⟩:=hX (j/2) hi;have hc:l.length*2<=(ρ.aV (.ar id)).cap*2:=om;rw[hcur.cell,get_flatK _ _ _ _ (by rw[hds];exact hj),hdg _ hi]
  refine⟨?_,hcur.pG om⟩;rcases Nat.mod_two_eq_zero_or_one j with e|e
  .rw[e,show(ρ.aV (.ar id)).aA+j=(ρ.aV (.ar id)).aA+j/2*2+0 by omega,g0];rfl
  .rw[e,show(ρ.aV (.ar id)).aA+j=(ρ.aV (.ar id)).aA+j/2*2+1 by omega,g1];rfl
 have eg:∀args w,(callFunc 32 args).run Tryz.prog w= .ok (.enter 32 args) w:=enters_of Tryz.func32 (by kernel_rfl) rfl
 have hblk:(ρ.aV (.ar id)).b<w.heap.size:=hcur.lt;have hcon:=AnyQ.slices_SortFunc Tryz.PQ 2 Tryz.isAgg65 Tryz.sizeOf65 Yc (fun _=>rfl) (fun x v hv=>by simp[Yc]at hv;rcases hv with rfl|rfl<;>rfl) (fun x y=>Lib.compareInt x.1.call y.1.call) aaP 32 #[] (ρ.aV (.ar id)).b (ρ.aV (.ar id)).aA (ρ.aV (.ar id)).cap d w eg
  (fun _ _ _ _ x y=>No x.1.call y.1.call x.2.1 y.2.1 x.2.2.1 y.2.2.1 x.2.2.2 y.2.2.2 _) hH hblk om
 change Calls Tryz.prog 31 _ _ _ at hcon;have hargs:vs.toArray= #[.slice (some ⟨(ρ.aV (.ar id)).b,(ρ.aV (.ar id)).aA,none⟩) d.size (ρ.aV (.ar id)).cap,.func (.func 32) #[] #[]]:=by rw[hvs,hv0,hv1,ha,hds,<-hlen];simp
 rw[hargs];refine hcon.mono ?_;rintro e w' ⟨rfl,d',n,os,hp,hs,rfl⟩;obtain⟨hp1,_,hp2⟩:=hp;have hp2:d'.toList.Perm d.toList:=by
  have e1:d'.extract 0 d.size=d':=by rw[<-hp1];simp
  have e2:d.extract 0 d.size=d:=aG;rw[e1,e2]at hp2;exact hp2
 have hperm:(d'.toList.map Prod.fst).Perm l:=by have:=hp2.map Prod.fst;rwa [hdl]at this
 have hll:(d'.toList.map Prod.fst).length=l.length:=hperm.length_eq;have hsort:(d'.toList.map Prod.fst).Pairwise (fun a b=>¬b.call<a.call):=by
  rw[ab6];intro i j hi hj hij;have hj2:j<d'.size:=by simpa using hj
  have:=hs i j (Wi _) hij om;rw[PR,getElem!_pos d' i om,getElem!_pos d' j hj2]at this;simpa using this
 have hmem:∀i,i<d'.size->∃k,∃hk:k<l.length,d'[i]! =(l[k],X k):=by
  intro i hi;have:d'[i]! ∈d.toList:=by rw[<-hp2.mem_iff,getElem!_pos d' i hi];exact acY.2 (Array.getElem_mem hi)
  obtain⟨k,hk⟩:=Xf this;obtain⟨hk1,hk2⟩:=Mh.1 hk;have hk1:k<d.size:=by simpa using hk1
  refine⟨k,om,?_⟩;rw[<-hdg k om,getElem!_pos d k hk1,<-hk2];simp
 have hb2:=hb;obtain⟨hM',hX'⟩:=Ig (lC:=af ((d'.toList.map Prod.fst).map cO.enc)) (F:=flatK Yc 2 d') hM hb (by simpa[af]using hpos) (by simp[af];omega) (fun cs hcs=>by
   simp only[af,aaQ]at hcs;obtain⟨x,⟨p,_,rfl⟩,rfl⟩:=hcs;rfl) (by rw[size_flatK];simp[af];omega) (fun cs hcs c hc=>by
   simp only[af,aaQ]at hcs;obtain⟨x,_,rfl⟩:=hcs;obtain⟨d,_,rfl⟩:=aaQ.1 hc;exact⟨d,rfl⟩) (fun i cs j c hi hj=>by
   simp only[af,Q8]at hi;cases ho:d'.toList[i]? with
   |none=>rw[ho]at hi;simp at hi
   |some y=>
    rw[ho]at hi;simp only[aaG,aag]at hi;subst hi;have hid':i<d'.size:=by have:=(Mh.1 ho).1;simpa using this
    have hy:d'[i]! =y:=by rw[getElem!_pos d' i hid'];have:=(Mh.1 ho).2;simpa using this
    obtain⟨k,hk,hyk⟩:=hmem i hid';rw[hy]at hyk;subst hyk;have hj2:j<2:=by have:=(Mh.1 hj).1;simpa[cO.enc]using this
    rw[get_flatK _ _ _ _ om,show(i*2+j)/2=i by omega,show(i*2+j)%2=j by omega,hy]
    match j,hj2,hj with
    |0,_,hj=>cases hj;exact dv.val _ rfl
    |1,_,hj=>cases hj;exact(hX k hk).2.2) n os
 rw[<-bj]at hM' hX';exact⟨_,.bK [],_,ρ,rfl,h _ hperm hsort,hM',⟨[],rfl,rfl,aG⟩,hX'⟩
end Go.Proofs.YtojhmadmlnfpcaaGreatDoor
