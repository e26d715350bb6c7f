/- Part 13 of 16. -/
import Derived.Test.YtodckkkbiidffaaGreatDoorG11
import Derived.Test.YtodckkkbiidffaaGreatDoorG12
import Derived.Test.YtodckkkbiidffaaGreatDoorRows
import Derived.Shelf.Strings.Search3
import Derived.Shelf.Strings.OnBuilder
import Derived.RangeFuncNested
import Derived.RangeFuncCalls
import Derived.Shelf.Abstract
import Derived.WalkKit
import Derived.OwnWalkIn
import Derived.TacticsInMore
import Derived.LoopNIn
import Derived.LoopIn
import Derived.Shelf.Spec.SlicesInsert
import Derived.Lib.AppendZerosOnto
import Derived.Laws.NewBlocks
set_option linter.unusedVariables false
set_option linter.unusedSimpArgs false
set_option maxRecDepth 100000
set_option maxHeartbeats 0
namespace Go.Proofs.YtodckkkbiidffaaGreatDoor
open Proofs.Tryz
open Go.AM Go.ChangeShapes Go.WideShapes Go.ChangeAt Go.RowKit
namespace Kn
structure IQ(k d:Kr):Prop where
 ex:∃a c,iv k a/\cT a.l a.ops a.ps c.l c.ops c.ps false/\gC c d
theorem oB{α:Type}{l L:List α}{f:Nat->α->α}(h:Pt l L f):L=l.mapIdx f:=by
 refine abF λi=>?_
 rw[ab4];cases hx:l[i]? with
 |none=>exact acE.2 (by rw[h.1];exact acE.1 hx)
 |some x=>rw[h.2 i x hx];rfl
theorem AJ{α:Type}(l:List α)(f:Nat->α->α):Pt l (l.mapIdx f) f:=
 ⟨ab1,λt o ho=>by rw[ab4,ho];rfl⟩
theorem Mn{A B:List Bool}(hl:A.length=B.length)(h:∀i,dg A i↔dg B i):A=B:=by
 refine List.ext_getElem hl λi h1 h2=>?_
 have B5:=h i;unfold dg at B5;rw[uX h1,uX h2]at B5;simp only[aam]at B5;cases ha:A[i]<;>cases hb:B[i]<;>simp[ha,hb]at B5|-
theorem IS{l:List Obj}{ops:List bD}{ps:List bl}{b b':Mk}(h:gJ l ops ps b)(h':gJ l ops ps b'):b=b':=by
 have h1:=h.nK _ _ h'.cl h'.mU;have h2:=h'.nK _ _ h.cl h.mU;obtain⟨O,P⟩:=b;obtain⟨O',P'⟩:=b';have e1:O=O':=Mn (h.len.1.trans h'.len.1.symm) λi=>⟨h1.1 i,h2.1 i⟩
 have e2:P=P':=Mn (h.len.2.trans h'.len.2.symm) λi=>⟨h1.2 i,h2.2 i⟩
 rw[e1,e2]
theorem tt{k c c':Kr}{e e':Bool}(h:cT k.l k.ops k.ps c.l c.ops c.ps e)(h':cT k.l k.ops k.ps c'.l c'.ops c'.ps e'):c=c'/\e=e':=by
 obtain⟨b,hb,h1,h2⟩:=h.ex;obtain⟨b',sX,B5,Kc⟩:=h'.ex;have:=IS hb sX;subst this;have e1:c.l=c'.l:=(oB h1).trans (oB B5).symm;have e2:c.ops=c'.ops:=(oB h2).trans (oB Kc).symm;have p:=h.pr;rw[e1]at p;have e3:c.ps=c'.ps:=(oB p).trans (oB h'.pr).symm;refine⟨?_,?_⟩
 .obtain⟨x,y,z⟩:=c;obtain⟨x',y',z'⟩:=c';simp only at e1 e2 e3;rw[e1,e2,e3]
 .rw[h.en,h'.en,e1]
theorem AK{k a:Kr}(h:iv k a):a=k\/∃x,cT k.l k.ops k.ps x.l x.ops x.ps true/\iv x a:=by
 induction h with
 |refl=>exact .inl rfl
 | @step a b h s ih=>
  rcases ih with rfl|⟨x,hx,ZV⟩
  .exact .inr ⟨b,s,.refl⟩
  .exact .inr ⟨x,hx,.step ZV s⟩
theorem Py{k a b:Kr}(h1:iv k a)(h2:iv k b):iv a b\/iv b a:=by
 induction h2 with
 |refl=>exact .inr h1
 | @step b c h s ih=>
  rcases ih with h|h
  .exact .inl (.step h s)
  .rcases AK h with rfl|⟨x,hx,ZV⟩
   .exact .inl (.step .refl s)
   .have:=(tt hx s).1;subst this;exact .inr ZV
theorem Pz{k a b c d:Kr}(h1:iv k a)(h2:iv k b)(o1:cT a.l a.ops a.ps c.l c.ops c.ps false)(o2:cT b.l b.ops b.ps d.l d.ops d.ps false):a=b:=by
 have key:∀{a b c:Kr},iv a b->cT a.l a.ops a.ps c.l c.ops c.ps false->b=a:=λh o=>by
  rcases AK h with h|⟨x,hx,_⟩
  .exact h
  .have:=(tt hx o).2;cases this
 rcases Py h1 h2 with h|h
 .exact(key h o1).symm
 .exact key h o2
theorem wB{α:Type}{q:Nat->α->Bool}{mn:Nat}{L:List α}{a b:Nat}(ha:pA q mn L a)(hb:pA q mn L b):a=b:=by
 have key:∀{a b:Nat},pA q mn L a->pA q mn L b->¬a<b:=λ{a b}ha hb aD=>by
  have h1:=ha.t.mn;have h2:=hb.t.le;rcases hb.e with h3|⟨o,ho,hq⟩
  .omega
  .have:=ha.t.dr (b-1) o om ho;rw[hq]at this;cases this
 have h1:=key ha hb;have h2:=key hb ha;omega
theorem Mo{c d d':Kr}(h:gC c d)(h':gC c d'):d=d':=by obtain⟨n1,n2,n3,P,a1,a2,a3,a4,rfl⟩:=h.ex;obtain⟨m1,m2,m3,P',b1,b2,b3,b4,rfl⟩:=h'.ex;have:=wB a1 b1;subst this;have:=wB a2 b2;subst this;have:=(oB a3).trans (oB b3).symm;subst this;have:=wB a4 b4;subst this;rfl
theorem IQ.Ah{k d d':Kr}(h:IQ k d)(h':IQ k d'):d=d':=by obtain⟨a,c,h1,h2,h3⟩:=h.ex;obtain⟨a',c',B5,Kc,X9⟩:=h'.ex;have:=Pz h1 B5 h2 Kc;subst this;have:=(tt h2 Kc).1;subst this;exact Mo h3 X9
def ZW(l:List Obj)(i:Nat):Bool:=match l[i]? with|some o=>o.ah !=0|none=>false
def ZX(l:List Obj)(O:List Bool)(i:Nat):Bool:=(l.zip O).any λy=>y.2&&y.1.ak.any λe=>(nJ e).2==(i:Int)
def ZY(ops:List bD)(P:List Bool)(i:Nat):Bool:=(ops.zip P).any λy=>y.2&&y.1.bn==(i:Int)
def ZZ(l:List Obj)(O:List Bool)(c:Nat):Bool:=(l.zip O).any λy=>y.2&&y.1.aj.any λq=>q.has&&q.dP==(c:Int)
def DU(l:List Obj)(ops:List bD)(b:Mk):Mk:=
 ⟨b.O.mapIdx λi x=>x||(ZW l i&&(ZX l b.O i||ZY ops b.P i)),b.P.mapIdx λc x=>x||ZZ l b.O c⟩
def IT(l:List Obj)(ops:List bD)(ps:List bl):Mk:=
 ⟨l.mapIdx λi o=>decide (i=0)&&o.ah !=0,ops.mapIdx λc _=>ps.any λp=>p.aQ&&p.aV.any λs=>s.has&&s.dP==(c:Int)⟩
def S6{α:Type}(f:α->α):Nat->α->α
 |0,a=>a
 |n+1,a=>S6 f n (f a)
def oC(l:List Obj)(ops:List bD)(ps:List bl):Mk:=S6 (DU l ops) (l.length+ops.length) (IT l ops ps)
theorem tu:∀(a b:List Bool),b.length=a.length->(∀i,dg a i->dg b i)->a≠b->dZ b<dZ a
 | [],[],_,_,h=>absurd rfl h
 | [],_::_,h,_,_=>by simp at h
 |_::_,[],h,_,_=>by simp at h
 |x::a,y::b,h,hm,dt=>by
  have hl:b.length=a.length:=by simpa using h
  have Sj:∀i,dg a i->dg b i:=λi hi=>by have:=hm (i+1);unfold dg at this hi|-;simp only[abA]at this;exact this hi
  have h0:x=true->y=true:=λhx=>by have:=hm 0;unfold dg at this;simp only[ab5,aam]at this;exact this hx
  have hle:=kM a b hl Sj;by_cases DV:a=b
  .subst DV;cases x<;>cases y
   .exact absurd rfl dt
   .simp[dZ]
   .exact absurd (h0 rfl) aC
   .exact absurd rfl dt
  .have ih:=tu a b hl Sj DV;cases x<;>cases y
   .simp only[dZ]at ih|-;simpa using ih
   .simp only[dZ]at ih|-;simp;omega
   .exact absurd (h0 rfl) aC
   .simp only[dZ]at ih|-;simpa using ih
theorem wC:∀a:List Bool,dZ a<=a.length:=λa=>by unfold dZ;exact acf _ _
theorem tv{A:List Bool}{f:Nat->Bool->Bool}{i:Nat}:dg (A.mapIdx f) i↔∃x,A[i]? =some x/\f i x=true:=by
 unfold dg;rw[ab4];cases A[i]? <;>simp
theorem tw{l:List Obj}{ops:List bD}(b:Mk):(∀i,dg b.O i->dg (DU l ops b).O i)/\∀c,dg b.P c->dg (DU l ops b).P c:=
 ⟨λi h=>tv.2 ⟨true,h,aC⟩,λc h=>tv.2 ⟨true,h,aC⟩⟩
theorem nu{l:List Obj}{ops:List bD}(b:Mk):(DU l ops b).O.length=b.O.length/\(DU l ops b).P.length=b.P.length:=
 ⟨ab1,ab1⟩
theorem Mp{l:List Obj}{ops:List bD}(b:Mk):DU l ops b=b\/(DU l ops b).mu<b.mu:=by
 have h1:=kM b.O _ (nu b).1 (tw (l:=l) (ops:=ops) b).1;have h2:=kM b.P _ (nu b).2 (tw (l:=l) (ops:=ops) b).2;by_cases e1:b.O=(DU l ops b).O
 .by_cases e2:b.P=(DU l ops b).P
  .refine .inl ?_;cases hb:b with
   |mk O P=>
    rw[hb]at e1 e2;generalize hm:DU l ops ⟨O,P⟩=m at e1 e2;cases m;simp only at e1 e2;rw[e1,e2]
  .have:=tu b.P _ (nu b).2 (tw (l:=l) (ops:=ops) b).2 e2;unfold Mk.mu;omega
 .have:=tu b.O _ (nu b).1 (tw (l:=l) (ops:=ops) b).1 e1;unfold Mk.mu;omega
theorem Hb{l:List Obj}{ops:List bD}:∀(n:Nat)(b:Mk),b.mu<=n->DU l ops (S6 (DU l ops) n b)=S6 (DU l ops) n b
 |0,b,h=>by
  rcases Mp (l:=l) (ops:=ops) b with h1|h1
  .exact h1
  .omega
 |n+1,b,h=>by
  rcases Mp (l:=l) (ops:=ops) b with h1|h1
  .have:∀n,S6 (DU l ops) n b=b:=λn=>by
    induction n with
    |zero=>rfl
    |succ n ih=>show S6 _ n (DU l ops b)=b;rw[h1,ih]
   rw[this,h1]
  .exact Hb n _ om
theorem vg{α:Type}{f:α->α}{Q:α->Prop}(hf:∀a,Q a->Q (f a)):∀(n:Nat)(a:α),Q a->Q (S6 f n a)
 |0,_,h=>h
 |n+1,a,h=>vg hf n (f a) (hf a h)
theorem AL{α:Type}{l:List α}{O:List Bool}{g:α->Bool}:(l.zip O).any (λy=>y.2&&g y.1)=true↔∃(i:Nat)(o:α),l[i]? =some o/\dg O i/\g o=true:=by
 rw[abm];constructor
 .rintro⟨⟨o,x⟩,hm,h⟩;obtain⟨i,hi⟩:=Xt hm;rw[List.getElem?_zip_eq_some]at hi;simp only[aab]at h;exact⟨i,o,hi.1,by unfold dg;rw[hi.2,h.1],h.2⟩
 .rintro⟨i,o,h1,h2,h3⟩;refine⟨(o,true),RD (i:=i) (List.getElem?_zip_eq_some.2 ⟨h1,h2⟩),by simp[h3]⟩
theorem Hc{l:List Obj}{O:List Bool}{n:Nat}:ZX l O n=true↔∃(i:Nat)(o:Obj),l[i]? =some o/\dg O i/\(o.ak.any λe=>(nJ e).2==(n:Int))=true:=AL (g:=λo:Obj=>o.ak.any λe=>(nJ e).2==(n:Int))
theorem Hd{ops:List bD}{P:List Bool}{n:Nat}:ZY ops P n=true↔∃(i:Nat)(o:bD),ops[i]? =some o/\dg P i/\(o.bn==(n:Int))=true:=AL (g:=λo:bD=>o.bn==(n:Int))
theorem He{l:List Obj}{O:List Bool}{n:Nat}:ZZ l O n=true↔∃(i:Nat)(o:Obj),l[i]? =some o/\dg O i/\(o.aj.any λq=>q.has&&q.dP==(n:Int))=true:=AL (g:=λo:Obj=>o.aj.any λq=>q.has&&q.dP==(n:Int))
theorem Hf{l:List Obj}{i:Nat}:ZW l i=true↔∃o,l[i]? =some o/\o.ah≠0:=by
 unfold ZW;cases l[i]? <;>simp
theorem E6{l:List Obj}{ops:List bD}{ps:List bl}(ht:∀o,o∈l->o.Rk){RO RP:Nat->Prop}(hc:Cl l ops RO RP)(hr:G7 l ops ps RO RP):OC RO RP (oC l ops ps):=by
 refine(vg (Q:=λb=>OC RO RP b/\b.P.length=ops.length) (λb⟨h,SG⟩=>⟨⟨λi hi=>?_,λc hi=>?_⟩,(nu b).2.trans SG⟩) _ _ ⟨⟨λi hi=>?_,λc hi=>?_⟩,ab1⟩).1
 .obtain⟨x,h1,h2⟩:=tv.1 hi;cases x with
  |true=>exact h.1 i h1
  |false=>
   rw[ach,aab,abU]at h2;have hn:=Hf.1 h2.1;rcases h2.2 with h2|h2
   .obtain⟨j,o,hj,ho,hg⟩:=Hc.1 h2;obtain⟨e,he,hei⟩:=abm.1 hg;obtain⟨es,nX⟩:=(ht o (RD hj)).2.1;rw[nX]at he;obtain⟨⟨nm,z⟩,hx,rfl⟩:=aak.1 he;have hz:z=(i:Int):=by simpa[fP,nJ]using hei
    refine hc.e j o (h.1 j ho) hj z i ⟨nm,?_⟩ ⟨hz,hn⟩;rw[nX];exact aak.2 ⟨_,hx,rfl⟩
   .obtain⟨c,o,hj,ho,hg⟩:=Hd.1 h2;exact hc.p c o (h.2 c ho) hj i ⟨by simpa using hg,hn⟩
 .obtain⟨x,h1,h2⟩:=tv.1 hi;cases x with
  |true=>exact h.2 c h1
  |false=>
   rw[ach]at h2;obtain⟨j,o,hj,ho,hg⟩:=He.1 h2;obtain⟨q,hq,yd⟩:=abm.1 hg;rw[aab]at yd;exact hc.q j o (h.1 j ho) hj q.dP c ⟨q,hq,yd.1,rfl⟩ ⟨by simpa using yd.2,SG▸(I4.1 h1).1⟩
 .unfold dg IT at hi;simp only[ab4]at hi;cases ho:l[i]? with
  |none=>rw[ho]at hi;cases hi
  |some o=>
   rw[ho]at hi;simp only[aaz,aam,aab,decide_eq_true_eq]at hi;obtain⟨rfl,hk⟩:=hi;exact hr.1 0 ⟨rfl,o,ho,by simpa using hk⟩
 .unfold dg IT at hi;simp only[ab4]at hi;cases ho:ops[c]? with
  |none=>rw[ho]at hi;cases hi
  |some o=>
   rw[ho]at hi;simp only[aaz,aam]at hi;obtain⟨pr,hp,hi⟩:=abm.1 hi;rw[aab]at hi;obtain⟨s,hs,eO⟩:=abm.1 hi.2;rw[aab]at eO;obtain⟨p,hp⟩:=Xt hp;exact hr.2 p pr hp hi.1 s hs eO.1 c ⟨by simpa using eO.2,(I4.1 ho).1⟩
theorem PA(l:List Obj)(ops:List bD)(ps:List bl)(ht:∀o,o∈l->o.Rk):gJ l ops ps (oC l ops ps):=by
 have hl:yi l ops (oC l ops ps):=vg (Q:=yi l ops) (λb h=>⟨(nu b).1.trans h.1,(nu b).2.trans h.2⟩) _ _ ⟨ab1,ab1⟩
 have S7:DU l ops (oC l ops ps)=oC l ops ps:=by refine Hb _ _ ?_;unfold Mk.mu;have h1:=wC (IT l ops ps).O;have h2:=wC (IT l ops ps).P;have h3:(IT l ops ps).O.length=l.length:=ab1;have h4:(IT l ops ps).P.length=ops.length:=ab1;omega
 have hle:= @E6 l ops ps ht;have py:(∀i,dg (IT l ops ps).O i->dg (oC l ops ps).O i)/\∀c,dg (IT l ops ps).P c->dg (oC l ops ps).P c:=
  vg (Q:=λb=>(∀i,dg (IT l ops ps).O i->dg b.O i)/\∀c,dg (IT l ops ps).P c->dg b.P c) (λb h=>⟨λi hi=>(tw b).1 i (h.1 i hi),λc hc=>(tw b).2 c (h.2 c hc)⟩) _ _ ⟨λ_ h=>h,λ_ h=>h⟩
 generalize oC l ops ps=b at hl S7 hle py|-;have hO:∀n:Nat,(∃o,l[n]? =some o/\o.ah≠0)->(ZX l b.O n=true\/ZY ops b.P n=true)->dg b.O n:=λn hn hx=>by
  rw[<-S7];have:n<b.O.length:=by obtain⟨o,ho,_⟩:=hn;rw[hl.1];exact(I4.1 ho).1
  refine tv.2 ⟨b.O[n],uX this,?_⟩;rw[Hf.2 hn];rcases hx with hx|hx<;>rw[hx]<;>simp
 have ib:Cl l ops (dg b.O) (dg b.P):=by
  refine⟨λi o hi ho z n hs hv=>?_,λi o hi ho z c hs hv=>?_,λc o hc ho n hv=>?_⟩
  .obtain⟨rfl,hn⟩:=hv;obtain⟨nm,hs⟩:=hs;refine hO n hn (.inl (Hc.2 ⟨i,o,ho,hi,abm.2 ⟨_,hs,?_⟩⟩));show((nJ (fP (nm,(n:Int)))).2==(n:Int))=true;simp[fP,nJ]
  .obtain⟨rfl,hn⟩:=hv;obtain⟨q,hq,h1,h2⟩:=hs;rw[<-S7];refine tv.2 ⟨b.P[c]'(by rw[hl.2];exact hn),uX _,?_⟩
   have:ZZ l b.O c=true:=He.2 ⟨i,o,ho,hi,abm.2 ⟨q,hq,by simp[h1,h2]⟩⟩
   rw[this];simp
  .obtain⟨h1,hn⟩:=hv;exact hO n hn (.inr (Hd.2 ⟨c,o,ho,hc,by simp[h1]⟩))
 refine⟨hl,⟨λn hv=>py.1 n ?_,λp pr hp b7 s hs hh c hv=>py.2 c ?_⟩,ib,λRO RP hc hr=>?_⟩
 .obtain⟨h0,o,ho,hk⟩:=hv;have h0:n=0:=om;subst h0;unfold IT dg;simp only[ab4,ho,aaz,aam];simp[hk]
 .obtain⟨h0,hn⟩:=hv;unfold IT dg;simp only[ab4,uX hn,aaz,aam];exact abm.2 ⟨pr,RD hp,by rw[b7,ac7];exact abm.2 ⟨s,hs,by simp[hh,h0]⟩⟩
 .exact hle hc hr
def nL(k:Kr):Kr:=
 ⟨k.l.mapIdx (cC (oC k.l k.ops k.ps) k.l k.l.length),k.ops.mapIdx (BJ (oC k.l k.ops k.ps) k.ops.length),k.ps.mapIdx (xT (k.l.mapIdx (cC (oC k.l k.ops k.ps) k.l k.l.length)) k.ps.length)⟩
theorem Mq(k:Kr)(ht:∀o,o∈k.l->o.Rk):cT k.l k.ops k.ps (nL k).l (nL k).ops (nL k).ps (i5 (nL k).l k.ps k.ps.length):=
 ⟨⟨_,PA k.l k.ops k.ps ht,AJ _ _,AJ _ _⟩,AJ _ _,rfl⟩
def CO:Nat->Kr->Kr
 |0,k=>nL k
 |n+1,k=>bif i5 (nL k).l k.ps k.ps.length then CO n (nL k)else nL k
theorem Mr:∀(n:Nat)(k:Kr),dF k.l k.ops k.ps->kY k.ps<=n->∃a,iv k a/\cT a.l a.ops a.ps (CO n k).l (CO n k).ops (CO n k).ps false
 |n,k,hk,hn=>by
  have h:=Mq k λo ho=>(hk.sm o ho).t
  cases he:i5 (nL k).l k.ps k.ps.length with
  |false=>
   rw[he]at h;refine⟨k,.refl,?_⟩;have:CO n k=nL k:=by
    cases n with
    |zero=>rfl
    |succ n=>show(bif _ then _ else _)=_;rw[he];rfl
   rw[this];exact h
  |true=>
   rw[he]at h;have aD:=h.kY;cases n with
   |zero=>omega
   |succ n=>
    obtain⟨a,h1,h2⟩:=Mr n (nL k) (h.kr hk) om;have e:CO (n+1) k=CO n (nL k):=by show(bif _ then _ else _)=_;rw[he];rfl
    rw[e];refine⟨a,?_,h2⟩;have:∀{x y:Kr},iv x y->cT k.l k.ops k.ps x.l x.ops x.ps true->iv k y:=λh3 h4=>by
     induction h3 with
     |refl=>exact .step .refl h4
     |step _ s ih=>exact .step ih s
    exact this h1 h
def me{α:Type}(q:Nat->α->Bool):List α->Nat->Nat->Nat
 | [],_,b=>b
 |x::r,i,b=>me q r (i+1) (bif q i x then b else i+1)
def CP{α:Type}(q:Nat->α->Bool)(mn:Nat)(L:List α):Nat:=min L.length (max mn (me q L 0 0))
theorem AN{α:Type}(q:Nat->α->Bool):∀(L:List α)(i b:Nat),b<=i->(me q L i b=b/\(∀(t:Nat)o,L[t]? =some o->q (i+t) o=true))\/
  (i<me q L i b/\me q L i b<=i+L.length/\(∃o,L[me q L i b-1-i]? =some o/\q (me q L i b-1) o=false)/\∀(t:Nat)o,me q L i b<=i+t->L[t]? =some o->q (i+t) o=true)
 | [],i,b,h=>.inl ⟨rfl,λt o h=>by simp at h⟩
 |x::r,i,b,h=>by
  cases hq:q i x with
  |true=>
   have e:me q (x::r) i b=me q r (i+1) b:=by show me q r (i+1) (bif q i x then b else i+1)=_;rw[hq];rfl
   rw[e];rcases AN q r (i+1) b om with⟨h1,h2⟩|⟨h1,h2,⟨o,h3,h4⟩,h5⟩
   .refine .inl ⟨h1,λt o ho=>?_⟩
    cases t with
    |zero=>simp at ho;subst ho;exact hq
    |succ t=>have:=h2 t o (by simpa using ho);rwa [show i+(t+1)=i+1+t by omega]
   .refine .inr ⟨om,by simp;omega,⟨o,?_,h4⟩,λt o ht ho=>?_⟩
    .rw[show me q r (i+1) b-1-i=(me q r (i+1) b-1-(i+1))+1 by omega];simpa using h3
    .cases t with
     |zero=>simp at ho;subst ho;exact hq
     |succ t=>have:=h5 t o om (by simpa using ho);rwa [show i+(t+1)=i+1+t by omega]
  |false=>
   have e:me q (x::r) i b=me q r (i+1) (i+1):=by show me q r (i+1) (bif q i x then b else i+1)=_;rw[hq];rfl
   rw[e];rcases AN q r (i+1) (i+1) (Ts _)with⟨h1,h2⟩|⟨h1,h2,⟨o,h3,h4⟩,h5⟩
   .refine .inr ⟨om,by simp;omega,⟨x,by rw[h1];simp,by rw[h1];simpa using hq⟩,λt o ht ho=>?_⟩
    cases t with
    |zero=>omega
    |succ t=>have:=h2 t o (by simpa using ho);rwa [show i+(t+1)=i+1+t by omega]
   .refine .inr ⟨om,by simp;omega,⟨o,?_,h4⟩,λt o ht ho=>?_⟩
    .rw[show me q r (i+1) (i+1)-1-i=(me q r (i+1) (i+1)-1-(i+1))+1 by omega];simpa using h3
    .cases t with
     |zero=>omega
     |succ t=>have:=h5 t o om (by simpa using ho);rwa [show i+(t+1)=i+1+t by omega]
theorem E7{α:Type}(q:Nat->α->Bool)(mn:Nat)(L:List α):pA q mn L (CP q mn L):=by
 unfold CP;rcases AN q L 0 0 (Ts _)with⟨h1,h2⟩|⟨h1,h2,⟨o,h3,h4⟩,h5⟩
 .refine⟨⟨Nat.min_le_left _ _,om,λt o _ ho=>by have:=h2 t o ho;rwa [abb]at this⟩,.inl om⟩
 .refine⟨⟨Nat.min_le_left _ _,om,λt o ht ho=>?_⟩,?_⟩
  .have aD:=(I4.1 ho).1;have:=h5 t o om ho;rwa [abb]at this
  .rcases aad mn (me q L 0 0)with hm|hm
   .refine .inr ⟨o,?_⟩;have e:min L.length (max mn (me q L 0 0))=me q L 0 0:=om;rw[e];exact⟨by simpa using h3,h4⟩
   .exact .inl om
def IU(c:Kr):Kr:=
 ⟨c.l.take (CP qO 1 c.l),c.ops.take (CP qP 0 c.ops),(c.ps.mapIdx (sM (c.l.take (CP qO 1 c.l)) c.ps.length)).take (CP (qR (c.l.take (CP qO 1 c.l))) 1 (c.ps.mapIdx (sM (c.l.take (CP qO 1 c.l)) c.ps.length)))⟩
theorem E8(c:Kr):gC c (IU c):=⟨⟨_,_,_,_,E7 _ _ _,E7 _ _ _,AJ _ _,E7 _ _ _,rfl⟩⟩
def gK(k:Kr):Kr:=IU (CO k.ps.length k)
theorem ii{k:Kr}(hk:dF k.l k.ops k.ps):IQ k (gK k):=by
 obtain⟨a,h1,h2⟩:=Mr k.ps.length k hk (by unfold kY;exact acf _ _)
 exact⟨a,_,h1,h2,E8 _⟩
theorem IV{k a c d:Kr}(hk:dF k.l k.ops k.ps)(h1:iv k a)(h2:cT a.l a.ops a.ps c.l c.ops c.ps false)(h3:gC c d):d=gK k:=
 IQ.Ah ⟨a,c,h1,h2,h3⟩ (ii hk)
theorem IW(k:Kr)(hk:dF k.l k.ops k.ps){m:Mem}{K:CV->Mem->Prop}(h:K (d9 (gK k).l (gK k).ops (gK k).ps) m):aq prog 41 [d9 k.l k.ops k.ps] m K:=
 Mi k hk λa c d h1 h2 h3=>by rw[IV hk h1 h2 h3];exact h
end Kn
end Go.Proofs.YtodckkkbiidffaaGreatDoor
namespace Go.Proofs.YtodckkkbiidffaaGreatDoor
open Go.AM Go.ChangeShapes Go.WideShapes Go.ChangeAt Go.RowKit
theorem pg{l:List bD}{k:Nat}(h:k<l.length):dx (l.map bD.enc) (k:Nat)=some [.val (.int .i64 l[k].bn),.val (.int .i64 l[k].da)]:=by rw[bA,RA,uX h];rfl
inductive j7(m:Mem)(Z:Nat->Prop)(p:Option Nat):List CC->List Dt->Prop
 |nil:j7 m Z p [] []
 |cons {c:CC} {d:Dt} {r:List CC} {r':List Dt} (h:dO m Z p c d) (hr:j7 m Z p r r'):j7 m Z p (c::r) (d::r')
theorem j7.len{m:Mem}{Z:Nat->Prop}{p:Option Nat}{a:List CC}{b:List Dt}(h:j7 m Z p a b):a.length=b.length:=by induction h<;>simp[*]
theorem j7.get{m:Mem}{Z:Nat->Prop}{p:Option Nat}{a:List CC}{b:List Dt}(h:j7 m Z p a b):∀(i:Nat)c d,a[i]? =some c->b[i]? =some d->dO m Z p c d:=by
 induction h with
 |nil=>intro i c d h;simp at h
 |cons h hr ih=>
  intro i c d h1 h2;cases i with
  |zero=>simp at h1 h2;subst h1 h2;exact h
  |succ i=>exact ih i c d (by simpa using h1) (by simpa using h2)
inductive gL(m:Mem)(Z:Nat->Prop)(p:Option Nat):List (List CC)->List (List Dt)->Prop
 |nil:gL m Z p [] []
 |cons {c:List CC} {d:List Dt} {r:List (List CC)} {r':List (List Dt)} (h:j7 m Z p c d) (hr:gL m Z p r r'):gL m Z p (c::r) (d::r')
theorem gL.len{m:Mem}{Z:Nat->Prop}{p:Option Nat}{a:List (List CC)}{b:List (List Dt)}(h:gL m Z p a b):a.length=b.length:=by induction h<;>simp[*]
theorem gL.get{m:Mem}{Z:Nat->Prop}{p:Option Nat}{a:List (List CC)}{b:List (List Dt)}(h:gL m Z p a b):∀(i:Nat)c d,a[i]? =some c->b[i]? =some d->j7 m Z p c d:=by
 induction h with
 |nil=>intro i c d h;simp at h
 |cons h hr ih=>
  intro i c d h1 h2;cases i with
  |zero=>simp at h1 h2;subst h1 h2;exact h
  |succ i=>exact ih i c d (by simpa using h1) (by simpa using h2)
theorem gL.fy{m:Mem}{Z:Nat->Prop}{p:Option Nat}{id esz:Nat}{elems:List (List CC)}{ds:List (List Dt)}(h:gL m Z (some id) elems ds)(hz:Z id)(hm:m[id]? =some (.row esz elems)):dO m Z p (.row id esz 0 none) (.sl esz ds):=
 dO.row id esz 0 none elems ds hz hm h.len (λi cs es h1 h2=>(h.get i cs es h1 h2).len) (λi cs es j c d h1 h2 h3 h4=>(h.get i cs es h1 h2).get j c d h3 h4)
end Go.Proofs.YtodckkkbiidffaaGreatDoor
namespace Go.Proofs.YtodckkkbiidffaaGreatDoor
open Proofs.Tryz
open Go.AM Go.ChangeShapes Go.WideShapes Go.ChangeAt Go.RowKit
def c54:LF:= ⟨9,[.tmp 2],(.seq (.ai [qu 2 (.aK (qb false))]) (.seq (.ai [qm 3 0,qu 4 (.aJ .geq 3 (qi 0)),qm 5 4,qg 6 (.aK 0) 5 true,qg 7 (.aJ .leq 6 (qi 4095)) 5 true,qu 8 (.pick 5 7 (qb false)),qm 2 8]) .ret))⟩
def c61:LF:= ⟨24,[.tmp 4,.tmp 5,.tmp 6],(.seq (.ai [qu 4 (.aK qe),qu 5 (.aK (qi 0)),qu 6 (.aK (qi 0))]) (.seq (.ai [qm 10 0,qm 11 1,qu 12 (qc 73 [10,11]),qm 9 12,qu 13 (.ext 9 0),qu 14 (.ext 9 1),qu 7 (.alloc [qd 0,qd 0]),qw (.store 2 7 13),qm 8 14]) (.seq (.seq (.ai [qm 15 8,qu 16 (.aJ .neq 15 (qi 0))]) (.cond 16 (.seq (.ai [qm 17 8,qu 4 (.aK qe),qu 5 (.aK (qi 0)),qm 6 17]) .ret) .skip)) (.seq (.ai [qm 18 0,qL 19 2 7,qu 20 (qc 76 [18,19]),qu 21 (.ext 20 0),qu 22 (.ext 20 1),qu 23 (.ext 20 2),qm 4 21,qm 5 22,qm 6 23]) .ret))))⟩
def c73:LF:= ⟨28,[.cell true 2 4,.tmp 5],(.seq (.ai [qu 4 (.alloc [qd 0,qd 0]),qu 5 (.aK (qi 0))]) (.seq (.seq (.ai [qm 6 1,qu 7 (.aJ .lss 6 (qi 0)),qm 8 7,qg 9 (.aK 1) 8 false,qg 10 (.aK 0) 8 false,qg 11 (.len 1 10) 8 false,qg 12 (.aJ .geq 9 11) 8 false,qu 13 (.pick 8 (qb true) 12),qm 14 13,qg 15 (.aK 0) 14 false,qg 16 (.aK 1) 14 false,qg 17 (.cw 3 15 16) 14 false,qg 18 (.cj 0 17) 14 false,qg 19 (.load false 1 18) 14 false,qg 20 (.un .not 19) 14 false,qu 21 (.pick 14 (qb true) 20)]) (.cond 21 (.seq (.ai [qu 22 (.build [qd 0,qd 0] []),qw (.store 2 4 22),qu 5 (.aK (qi 6))]) .ret) .skip)) (.seq (.ai [qm 23 0,qm 24 1,qu 25 (.cw 3 23 24),qf 26 1 25,qL 27 2 26,qw (.store 2 4 27),qu 5 (.aK (qi 0))]) .ret)))⟩
def c76:LF:= ⟨44,[.tmp 4,.tmp 5,.tmp 6],(.seq (.ai [qu 3 (.box 1),qu 4 (.aK qe),qu 5 (.aK (qi 0)),qu 6 (.aK (qi 0))]) (.seq (.seq (.ai [qf 9 1 3,ql 10 9,qu 11 (qc 54 [10]),qu 12 (.un .not 11),qm 13 12,qg 14 (.cj 0 3) 13 false,qg 15 (.load false 1 14) 13 false,qg 16 (.aJ .lss 15 (qi 0)) 13 false,qu 17 (.pick 13 (qb true) 16)]) (.cond 17 (.seq (.ai [qu 4 (.aK qe),qu 5 (.aK (qi 0)),qu 6 (.aK (qi 3))]) .ret) .skip)) (.seq (.ai [qm 18 0,qu 19 (qc 116 [18,(.c (.rv (.one (.fn 117 []))))]),qm 7 19]) (.seq (.seq (.ai [qm 20 7,qu 21 (.aJ .lss 20 (qi 0))]) (.cond 21 (.seq (.seq (.ai [qm 22 0,qu 23 (.len 1 22),qu 24 (.aJ .geq 23 (qi 10))]) (.cond 24 (.seq (.ai [qu 4 (.aK qe),qu 5 (.aK (qi 0)),qu 6 (.aK (qi 15))]) .ret) .skip)) (.ai [qm 25 0,qu 26 (.len 1 25),qm 7 26])) .skip)) (.seq (.ai [qm 27 0,qu 28 (qc 100 [27]),qm 8 28]) (.seq (.seq (.ai [qm 29 7,qm 30 8,qu 31 (.len 1 30),qu 32 (.aJ .eql 29 31)]) (.cond 32 (.ai [qm 33 8,qu 34 (.build [(.aa (.val (.bool false))),qd 0,qd 0] []),qu 35 (.nC 3 [(.aa (.val (.bool false))),qd 0,qd 0] 1 [(0,34)]),qu 36 (.oZ 3 24 33 35),qm 8 36]) .skip)) (.seq (.ai [qm 37 8,qm 38 7,qL 39 2 3,qu 40 (.build [(.aa (.val (.bool false))),qd 0,qd 0] [(0,1,qb true),(1,2,39)]),qu 41 (.cw 3 37 38),qw (.store 3 41 40)]) (.seq (.ai [qm 42 8,qm 43 7,qm 4 42,qm 5 43,qu 6 (.aK (qi 0))]) .ret))))))))⟩
def c116:LF:= ⟨19,[.tmp 4],(.seq (.ai [qu 4 (.aK (qi 0))]) (.seq (.seq (.ai [qm 6 0,qu 7 (.len 1 6),qu 8 (.aK (qi 0))]) (.block 0 (.loop (.seq (.ai [qu 9 (.aJ .lss 8 7)]) (.seq (.cond 9 .skip (.exit 0)) (.seq (.block 1 (.seq (.ai [qm 10 8,qm 5 10]) (.seq (.ai [qm 11 1,qm 12 0,qm 13 5,qu 14 (.cw 3 12 13),qL 15 3 14,qu 16 (.call 11 [15])]) (.cond 16 (.seq (.ai [qm 17 5,qm 4 17]) .ret) .skip)))) (.ai [qu 18 (.aJ .add 8 (qi 1)),qm 8 18]))))))) (.seq (.ai [qu 4 (.aK (qi (-1)))]) .ret)))⟩
def c117:LF:= ⟨6,[.tmp 2],(.seq (.ai [qu 1 (.box 0),qu 2 (.aK (qb false))]) (.seq (.ai [qf 3 0 1,ql 4 3,qu 5 (.un .not 4),qm 2 5]) .ret))⟩
namespace Tb
structure Cap where
 dP:Int
 b9:Int
 deriving DecidableEq
structure bU where
 has:Bool
 cap:Cap
 deriving DecidableEq
def bU.enc(s:bU):List Dt:=[.val (.bool s.has),.val (.int .i64 s.cap.dP),.val (.int .i64 s.cap.b9)]
def qx(l:List bU):Dt:= .sl 3 (l.map bU.enc)
def dQ(l:List bU):CV:= .rv (.one (.aa (qx l)))
def Cap.rv(c:Cap):RV:= .agg [.aa (.val (.int .i64 c.dP)),.aa (.val (.int .i64 c.b9))]
def cK(n:Int):RV:= .one (.aa (.val (.int .i64 n)))
theorem l73:bu prog f73=some c73:=by kernel_rfl
def ec(l:List bU)(fd:Int):Cap×Int:=
 match (if 0<=fd then l[fd.toNat]? else none)with
 |some s=>if s.has then(s.cap,0)else(⟨0,0⟩,6)
 |none=>(⟨0,0⟩,6)
theorem Ms(l:List bU)(fd:Int):body prog c73 [dQ l,an .i64 fd] [] (λr m=>r= .bz [(ec l fd).1.rv,cK (ec l fd).2]):=by
 refine aM (λh=>?_) (λh=>?_)
 .have h:fd<0:=of_decide_eq_true h;show CV.bz _=CV.bz _;rw[ec,if_neg om];rfl
 .have h:¬fd<0:=of_decide_eq_false h;refine aM (λh2=>?_) (λh2=>?_)
  .have h2:fd>=((l.map bU.enc).length:Int):=of_decide_eq_true h2;simp at h2;show CV.bz _=CV.bz _;rw[ec,if_pos om,aaZ om];rfl
  .have h2:¬fd>=((l.map bU.enc).length:Int):=of_decide_eq_false h2;simp at h2;have aD:fd.toNat<l.length:=om;have hg:dx (l.map bU.enc) fd=some (l[fd.toNat].enc):=by rw[GW,if_pos om,RA,uX aD];rfl
   have hs:ec l fd=if l[fd.toNat].has then(l[fd.toNat].cap,0)else(⟨0,0⟩,6):=by rw[ec,if_pos om,uX aD]
   refine ag hg ?_;refine aM (λh3=>?_) (λh3=>?_)
   .have h3:l[fd.toNat].has=false:=by simpa using h3
    show CV.bz _=CV.bz _;rw[hs,h3];rfl
   .have h3:l[fd.toNat].has=true:=by simpa using h3
    refine ag hg ?_;show CV.bz _=CV.bz _;rw[hs,h3];rfl
theorem wD(l:List bU)(fd:Int){m:Mem}{K:CV->Mem->Prop}(h:K (.bz [(ec l fd).1.rv,cK (ec l fd).2]) m):aq prog 73 [dQ l,an .i64 fd] m K:=
 bv func73 l73 rfl (aae rfl) (Ms l fd) rfl rfl h
theorem l100:bu prog f100=some c100:=by kernel_rfl
theorem l54:bu prog f54=some c54:=by kernel_rfl
theorem l116:bu prog f116=some c116:=by kernel_rfl
theorem l117:bu prog f117=some c117:=by kernel_rfl
def eV(n:Int):Bool:=decide (n>=0)&&decide (n<=4095)
theorem E9(n:Int):body prog c54 [an .i64 n] [] (λr m=>r=aE (eV n)):=by
 refine aM (λh=>?_) (λh=>?_)
 .show aE _=aE _;unfold eV;rw[h];rfl
 .show aE _=aE _;unfold eV;rw[h];rfl
theorem wF(n:Int){m:Mem}{K:CV->Mem->Prop}(h:K (aE (eV n)) m):aq prog 54 [an .i64 n] m K:=
 bv func54 l54 rfl (aae rfl) (E9 n) rfl rfl h
def bU.cv(s:bU):CV:= .rv (.agg (s.enc.map .aa))
theorem tx(s:bU):body prog c117 [s.cv] [] (λr m=>r=aE (!s.has)):=by show aE _=aE _;rfl
theorem AO(s:bU){m:Mem}{K:CV->Mem->Prop}(h:K (aE (!s.has)) m):aq prog 117 [s.cv] m K:=
 bv func117 l117 rfl (aae rfl) (tx s) rfl rfl h
def uE{α:Type}(p:α->Bool)(l:List α):Int:=match l.findIdx? p with|some i=>(i:Int)|none=>-1
theorem Fa(l:List bU)(hb:l.length<=2097152)(f:Nat)(p:bU->Bool)(hf:∀(s:bU)(m:Mem)(K:CV->Mem->Prop),K (aE (p s)) m->aq prog f [s.cv] m K):
  body prog c116 [dQ l,.rv (.one (.fn f []))] [] (λr m=>r=an .i64 (uE p l)):=by
 refine Ly (λk=>k<=l.length/\∀(i:Nat)s,i<k->l[i]? =some s->p s=false) (λk=>[(8,an .i64 (k:Nat)),(5,.ap),(9,.ap),(10,.ap),(11,.ap),(12,.ap),(13,.ap),(14,.ap),(15,.ap),(16,.ap),(17,.ap),(18,.ap)])
  (λ_=>[]) (λk=>l.length-k) 0 ⟨aaj _,λi s h=>absurd h (abi i)⟩ (Ck (aaj _) ?_) (λk hk=>?_)
 .repeat(first|exact .nil|refine .ap ?_|refine .eE ?_)
 .refine aM (λh=>?_) (λh=>?_)
  .have aD:k<l.length:=by have h:(k:Int)<((l.map bU.enc).length:Int):=of_decide_eq_true h;simp at h;omega
   have hg:dx (l.map bU.enc) (k:Nat)=some (l[k].enc):=by rw[bA,RA,uX aD];rfl
   refine ag hg ?_;refine hf l[k] _ _ ?_;refine aM (λh3=>?_) (λh3=>?_)
   .show an _ _=an _ _;have:l.findIdx? p=some k:=by
     rw[abc];refine⟨aD,h3,λj hj=>?_⟩
     have:=hk.2 j l[j] hj (uX om);simp[this]
    rw[uE,this]
   .refine⟨k+1,⟨aD,λi s hi hs=>?_⟩,?_,Ck (aaj _) ?_⟩
    .rcases aad i k with h5|h5
     .exact hk.2 i s h5 hs
     .have:i=k:=om;subst this;rw[uX aD]at hs;cases hs;exact h3
    .show l.length-(k+1)<l.length-k;omega
    .repeat(first|exact .nil|refine .ap ?_|refine .put (aN om) ?_|refine .eE ?_)
  .have d7:¬(k:Int)<((l.map bU.enc).length:Int):=of_decide_eq_false h;simp at d7;show an _ _=an _ _;have:l.findIdx? p=none:=by rw[acj];intro s hs;obtain⟨i,hi⟩:=Xt hs;have:=(I4.1 hi).1;simpa using hk.2 i s om hi
   rw[uE,this]
theorem Mt(l:List bU)(hb:l.length<=2097152)(f:Nat)(p:bU->Bool)(hf:∀(s:bU)(m:Mem)(K:CV->Mem->Prop),K (aE (p s)) m->aq prog f [s.cv] m K){m:Mem}{K:CV->Mem->Prop}(h:K (an .i64 (uE p l)) m):aq prog 116 [dQ l,.rv (.one (.fn f []))] m K:=
 bv func116 l116 rfl (aae rfl) (Fa l hb f p hf) rfl rfl h
def ce(l:List bU):List (List CC):=(l.map bU.enc).map λds=>ds.map CC.aa
theorem CR(l:List bU)(hb:l.length<=2097152):body prog c100 [dQ l] [] (λr m=>(l=[]/\r= .rv (.one .aO))\/(r= .rv (.one (.row 1 3 0 none))/\m[1]? =some (.row 3 ([]++ce l)))):=by
 have sL:((([]:List (List CC)).length+((l.map bU.enc).map λds=>ds.map CC.aa).length)*24)<=140737488355328:=by simp;omega
 refine aM (λh=>?_) (λh=>?_)
 .have hl:l=[]:=aag (by simpa using aai h)
  exact⟨.inl ⟨hl,rfl⟩,sL,.inr ⟨rfl,rfl⟩⟩
 .exact⟨sL,.inr ⟨rfl,rfl⟩⟩
theorem ph(l:List bU)(hb:l.length<=2097152){m:Mem}{K:CV->Mem->Prop}(h1:l=[]->K (.rv (.one .aO)) m)(h2:K (.rv (.one (.row m.length 3 0 none))) (m++ [.row 3 (ce l)])):
  aq prog 100 [dQ l] m K:=by
 refine Ix (aY func100 l100 (CR l hb)) (by simp[dQ,CV.du,CC.du]) λr m1 hr=>?_
 rcases hr with⟨hl,rfl⟩|⟨rfl,hm⟩
 .exact .inl ⟨rfl,h1 hl⟩
 .refine .inr ⟨1,3,ce l,rfl,by simpa using hm,λcs eB c hc=>?_,λi cs j d hi hj=>?_,h2⟩
  .simp only[ce,aak]at eB;obtain⟨ds,⟨s,_,rfl⟩,rfl⟩:=eB;obtain⟨d,_,rfl⟩:=aak.1 hc;exact⟨d,rfl⟩
  .have eB:=RD hi;simp only[ce,aak]at eB;obtain⟨ds,⟨s,_,rfl⟩,rfl⟩:=eB;have hd:=RD hj;simp only[bU.enc,aa9,acX,aa1,CC.aa.injEq,acn,or_false]at hd;rcases hd with rfl|rfl|rfl<;>exact⟨_,rfl⟩
theorem l76:bu prog f76=some c76:=by kernel_rfl
def iJ(l:List bU)(c:Cap):List bU×Int×Int:=
 if eV c.b9=false\/c.dP<0 then([],0,3)else
 match l.findIdx? (λs=>!s.has)with
 |some k=>(l.set k ⟨true,c⟩,k,0)
 |none=>if l.length>=10 then([],0,15)else(l++ [⟨true,c⟩],l.length,0)
def jo(l:List bU):RV:= .one (.aa (qx l))
theorem ma{m:Mem}{a b:RV}{x y:Int}(h:e7 m a b):cQ m (.bz [a,cK x,cK y]) (.bz [b,cK x,cK y]):=by
 refine .bz rfl λi r r' h1 h2=>?_
 match i,h1,h2 with
 |0,h1,h2=>cases h1;cases h2;exact h
 |1,h1,h2=>cases h1;cases h2;exact e7.self rfl
 |2,h1,h2=>cases h1;cases h2;exact e7.self rfl
theorem Hg{l:List bU}{c:Cap}{m:Mem}(h:eV c.b9=false\/c.dP<0):cQ m (.bz [.one .aO,cK 0,cK 3]) (.bz [jo (iJ l c).1,cK (iJ l c).2.1,cK (iJ l c).2.2]):=by rw[iJ,if_pos h];exact ma (.one (.aO 3))
theorem Mu{l:List bU}{c:Cap}{m:Mem}(h:¬(eV c.b9=false\/c.dP<0))(hk:l.findIdx? (λs=>!s.has)=none)(hl:l.length>=10):
  cQ m (.bz [.one .aO,cK 0,cK 15]) (.bz [jo (iJ l c).1,cK (iJ l c).2.1,cK (iJ l c).2.2]):=by
 rw[iJ,if_neg h,hk];simp only;rw[if_pos hl];exact ma (.one (.aO 3))
theorem Hh{l:List bU}{c:Cap}{m:Mem}{id:Nat}(h:¬(eV c.b9=false\/c.dP<0))(hk:l.findIdx? (λs=>!s.has)=none)(hl:¬l.length>=10)(hm:m[id]? =some (.row 3 (ce (l++ [⟨true,c⟩])))):
  cQ m (.bz [.one (.row id 3 0 none),cK ((l.map bU.enc).length:Nat),cK 0]) (.bz [jo (iJ l c).1,cK (iJ l c).2.1,cK (iJ l c).2.2]):=by
 rw[iJ,if_neg h,hk,ML];simp only;rw[if_neg hl];exact ma (.one (eT.eU hm 0 none))
theorem PB{l:List bU}{c:Cap}{m:Mem}{id k:Nat}(h:¬(eV c.b9=false\/c.dP<0))(hk:l.findIdx? (λs=>!s.has)=some k)(hm:m[id]? =some (.row 3 (ce (l.set k ⟨true,c⟩)))):
  cQ m (.bz [.one (.row id 3 0 none),cK k,cK 0]) (.bz [jo (iJ l c).1,cK (iJ l c).2.1,cK (iJ l c).2.2]):=by
 rw[iJ,if_neg h,hk];exact ma (.one (eT.eU hm 0 none))
theorem Mv(l:List bU)(hb:l.length<=2097152)(c:Cap):body prog c76 [dQ l,.rv c.rv] [] (λr m=>cQ m r (.bz [jo (iJ l c).1,cK (iJ l c).2.1,cK (iJ l c).2.2])):=by
 refine wF c.b9 ?_;refine aM (λh=>?_) (λhr=>?_)
 .exact Hg (.inl (by simpa using h))
 .refine aM (λh=>?_) (λho=>?_)
  .exact Hg (.inr (of_decide_eq_true h))
  .have gO:¬(eV c.b9=false\/c.dP<0):=by have:=of_decide_eq_false ho;simp at hr;simp[hr];omega
   refine Mt l hb 117 (λs=>!s.has) (λs m K h=>AO s h) ?_
   cases hk:l.findIdx? (λs=>!s.has)with
   |none=>
    have hi:uE (λs:bU=>!s.has) l= -1:=by rw[uE,hk]
    rw[hi];refine aM (λh=>?_) (λh=>?_)
    .have d7:l.length>=10:=by have h:=of_decide_eq_true h;simp at h;omega
     exact Mu gO hk d7
    .have aD:¬l.length>=10:=by have h:=of_decide_eq_false h;simp at h;omega
     refine ph l hb (λhl=>?_) ?_
     .subst hl;refine⟨by decide,?_⟩
      exact Hh gO hk aD rfl
     .refine cA (by simp[ce,lenOf]) ?_
      refine⟨by simp[ce,bV];omega,?_⟩
      have hlen:(ce l).length=l.length:=by simp[ce]
      refine ag (cr (k:=(l.map bU.enc).length) (by simp[ce,lenOf,bV])) ?_
      refine ag (x:=[CC.aa (.val (.bool false)),CC.aa (.val (.int .i64 0)),CC.aa (.val (.int .i64 0))]) (by simp[aT,ce,bV,ip]) ?_
      refine Hh (id:=3) gO hk aD ?_;refine congrArg (λx=>some (Bk.row 3 x)) ?_
      show aW (ce l++ [[CC.aa (.val (.bool false)),CC.aa (.val (.int .i64 0)),CC.aa (.val (.int .i64 0))]]) (l.map bU.enc).length [CC.aa (.val (.bool true)),CC.aa (.val (.int .i64 c.dP)),CC.aa (.val (.int .i64 c.b9))]=_;rw[a8,ML,<-hlen,acU _ _ (Ts _),ack];simp[ce,bU.enc]
   |some k=>
    have hi:uE (λs:bU=>!s.has) l=(k:Int):=by rw[uE,hk]
    have f8:k<l.length:=(abc.1 hk).1;rw[hi];refine ph l hb (λhl=>?_) ?_
    .subst hl;simp at f8
    .have hlen:(ce l).length=l.length:=by simp[ce]
     refine pL (by simp[hlen,lenOf];omega) ?_
     refine ag (cr (k:=k) (by simp[hlen,lenOf];omega)) ?_
     refine ag (x:=(l[k].enc).map .aa) (by simp[aT,ce,ip,f8]) ?_
     refine PB (id:=1) gO hk ?_;refine congrArg (λx=>some (Bk.row 3 x)) ?_
     show aW (ce l) k [CC.aa (.val (.bool true)),CC.aa (.val (.int .i64 c.dP)),CC.aa (.val (.int .i64 c.b9))]=_;rw[a8];simp[ce,bU.enc]
theorem Mw(l:List bU)(hb:l.length<=2097152)(c:Cap){m:Mem}{K:CV->Mem->Prop}(h:K (.bz [jo (iJ l c).1,cK (iJ l c).2.1,cK (iJ l c).2.2]) m):aq prog 76 [dQ l,.rv c.rv] m K:=
 bg (aY func76 l76 (Mv l hb c)) (by simp[dQ,Cap.rv,CV.du,CC.du]) λr m1 hf=>⟨_,hf,h⟩
theorem l61:bu prog f61=some c61:=by kernel_rfl
def tz(l:List bU)(fd:Int):List bU×Int×Int:=if(ec l fd).2=0 then iJ l (ec l fd).1 else([],0,(ec l fd).2)
theorem Mx(l:List bU)(hb:l.length<=2097152)(fd:Int):body prog c61 [dQ l,an .i64 fd] [] (λr m=>cQ m r (.bz [jo (tz l fd).1,cK (tz l fd).2.1,cK (tz l fd).2.2])):=by
 refine wD l fd ?_;refine aM (λh=>?_) (λh=>?_)
 .have h:¬(ec l fd).2=0:=by simpa using h
  rw[tz,if_neg h];exact ma (.one (.aO 3))
 .have h:(ec l fd).2=0:=by simpa using h
  rw[tz,if_pos h];refine Mw l hb (ec l fd).1 ?_;exact cQ.self rfl
theorem S8(l:List bU)(hb:l.length<=2097152)(fd:Int){m:Mem}{K:CV->Mem->Prop}(h:K (.bz [jo (tz l fd).1,cK (tz l fd).2.1,cK (tz l fd).2.2]) m):aq prog 61 [dQ l,an .i64 fd] m K:=
 bg (aY func61 l61 (Mx l hb fd)) (by simp[dQ,an,CV.du,CC.du]) λr m1 hf=>⟨_,hf,h⟩
end Tb
def c44:LF:= ⟨21,[.tmp 2],(.seq (.ai [qu 2 (.aK qe)]) (.seq (.ai [qu 3 (.aK qe)]) (.seq (.seq (.ai [qm 6 0,qu 7 (.len 1 6),qu 8 (.aK (qi 0))]) (.block 0 (.loop (.seq (.ai [qu 9 (.aJ .lss 8 7)]) (.seq (.cond 9 .skip (.exit 0)) (.seq (.block 1 (.seq (.ai [qm 10 8,qu 11 (.cw 3 6 8),qL 12 3 11,qu 5 (.alloc [(.aa (.val (.bool false))),qd 0,qd 0]),qm 4 10,qw (.store 3 5 12)]) (.seq (.ai [qf 13 0 5,ql 14 13]) (.cond 14 (.ai [qm 15 3,qm 16 4,qu 17 (.nC 1 [qd 0] 1 [(0,16)]),qu 18 (.oZ 1 8 15 17),qm 3 18]) .skip)))) (.ai [qu 19 (.aJ .add 8 (qi 1)),qm 8 19]))))))) (.seq (.ai [qm 20 3,qm 2 20]) .ret))))⟩
def c60:LF:= ⟨43,[.tmp 4,.tmp 5],(.seq (.ai [qu 4 (.aK qe),qu 5 (.aK (qi 0))]) (.seq (.seq (.ai [qm 10 0,qm 11 1,qu 12 (qc 73 [10,11]),qm 9 12,qu 13 (.ext 9 0),qu 14 (.ext 9 1),qu 6 (.alloc [qd 0,qd 0]),qw (.store 2 6 13),qm 7 14]) (.seq (.ai [qm 15 7,qu 16 (.aJ .neq 15 (qi 0))]) (.cond 16 (.seq (.ai [qm 17 7,qu 4 (.aK qe),qm 5 17]) .ret) .skip))) (.seq (.ai [qm 18 0,qu 19 (qc 100 [18]),qm 8 19]) (.seq (.ai [qm 20 8,qm 21 1,qu 22 (.build [(.aa (.val (.bool false))),qd 0,qd 0] []),qu 23 (.cw 3 20 21),qw (.store 3 23 22)]) (.seq (.block 0 (.loop (.seq (.seq (.ai [qm 24 8,qu 25 (.len 1 24),qu 26 (.aJ .gtr 25 (qi 0)),qm 27 26,qg 28 (.aK 8) 27 true,qg 29 (.aK 8) 27 true,qg 30 (.len 1 29) 27 true,qg 31 (.aJ .sub 30 (qi 1)) 27 true,qg 32 (.cw 3 28 31) 27 true,qg 33 (.cj 0 32) 27 true,qg 34 (.load false 1 33) 27 true,qg 35 (.un .not 34) 27 true,qu 36 (.pick 27 35 (qb false))]) (.cond 36 .skip (.exit 0))) (.block 1 (.ai [qm 37 8,qm 38 8,qu 39 (.len 1 38),qu 40 (.aJ .sub 39 (qi 1)),qu 41 (.nR 3 37 none (some 40) none),qm 8 41]))))) (.seq (.ai [qm 42 8,qm 4 42,qu 5 (.aK (qi 0))]) .ret))))))⟩
def c96:LF:= ⟨28,[.cell true 2 6,.tmp 7],(.seq (.ai [qu 6 (.alloc [qd 0,qd 0]),qu 7 (.aK (qi 0))]) (.seq (.ai [qm 11 0,qm 12 1,qu 13 (qc 73 [11,12]),qm 10 13,qu 14 (.ext 10 0),qu 15 (.ext 10 1),qu 8 (.alloc [qd 0,qd 0]),qw (.store 2 8 14),qm 9 15]) (.seq (.seq (.ai [qm 16 9,qu 17 (.aJ .eql 16 (qi 0)),qm 18 17,qg 19 (.aK 2) 18 true,qg 20 (.cj 1 8) 18 true,qg 21 (.load false 1 20) 18 true,qg 22 (qc 101 [19,21]) 18 true,qg 23 (.un .not 22) 18 true,qu 24 (.pick 18 23 (qb false))]) (.cond 24 (.seq (.ai [qu 25 (.build [qd 0,qd 0] []),qw (.store 2 6 25),qu 7 (.aK (qi 10))]) .ret) .skip)) (.seq (.ai [qL 26 2 8,qm 27 9,qw (.store 2 6 26),qm 7 27]) .ret))))⟩
def c101:LF:= ⟨9,[.tmp 4],(.seq (.ai [qu 4 (.aK (qb false))]) (.seq (.ai [qm 5 0,qm 6 1,qu 7 (.aJ .andNot 5 6),qu 8 (.aJ .eql 7 (qi 0)),qm 4 8]) .ret))⟩
namespace Tb
theorem l101:bu prog f101=some c101:=by kernel_rfl
def gW(a b:Int):Bool:=(IntKind.i64.wrap ((BitVec.ofInt 64 a&&& ~~~ BitVec.ofInt 64 b).toNat:Int))==0
theorem ze(a b:Int){m:Mem}{K:CV->Mem->Prop}(h:K (aE (gW a b)) m):aq prog 101 [an .i64 a,an .i64 b] m K:=
 bv (r0:=aE (gW a b)) func101 l101 rfl (aae rfl) (show body prog c101 [an .i64 a,an .i64 b] [] (λr m=>r=aE (gW a b))from rfl) rfl rfl h
theorem l96:bu prog f96=some c96:=by kernel_rfl
def nM(l:List bU)(fd need:Int):Cap×Int:=
 if(ec l fd).2=0/\gW need (ec l fd).1.b9=false then(⟨0,0⟩,10)else ec l fd
theorem tC(l:List bU)(fd need:Int):body prog c96 [dQ l,an .i64 fd,an .i64 need] [] (λr m=>r= .bz [(nM l fd need).1.rv,cK (nM l fd need).2]):=by
 refine wD l fd ?_;refine aM (λh=>?_) (λh=>?_)
 .have h:(ec l fd).2=0:=by simpa using h
  refine ze _ _ ?_;refine aM (λh2=>?_) (λh2=>?_)
  .have h2:gW need (ec l fd).1.b9=false:=by simpa using h2
   show CV.bz _=CV.bz _;rw[nM,if_pos ⟨h,h2⟩];rfl
  .have h2:gW need (ec l fd).1.b9=true:=by simpa using h2
   show CV.bz _=CV.bz _;rw[nM,if_neg (by simp[h2])];rfl
 .have h:¬(ec l fd).2=0:=by simpa using h
  show CV.bz _=CV.bz _;rw[nM,if_neg (by simp[h])];rfl
theorem ku(l:List bU)(fd need:Int){m:Mem}{K:CV->Mem->Prop}(h:K (.bz [(nM l fd need).1.rv,cK (nM l fd need).2]) m):aq prog 96 [dQ l,an .i64 fd,an .i64 need] m K:=
 bv func96 l96 rfl (aae rfl) (tC l fd need) rfl rfl h
theorem l44:bu prog f44=some c44:=by kernel_rfl
def oD(l:List Int):List (List Dt):=l.map λi=>[.val (.int .i64 i)]
def My(l:List Int):CV:= .rv (.one (.aa (.sl 1 (oD l))))
def pB:Nat->List bU->List Int
 |_,[]=>[]
 |k,s::r=>if s.has then(k:Int)::pB (k+1) r else pB (k+1) r
theorem rT:∀(l:List bU)(k:Nat),(pB k l).length<=l.length
 | [],k=>by simp[pB]
 |s::r,k=>by
  have:=rT r (k+1);simp only[pB];split<;>simp<;>omega
theorem zf(l:List bU)(k i:Nat)(h:i<l.length):pB k (l.take (i+1))=if l[i].has then pB k (l.take i)++ [((k+i:Nat):Int)]else pB k (l.take i):=by
 induction l generalizing k i with
 |nil=>simp at h
 |cons s r ih=>
  cases i with
  |zero=>simp[pB]
  |succ i=>
   simp at h;have:=ih (k+1) i h;rw[show k+1+i=k+(i+1) by omega]at this
   simp only[List.take_succ_cons,pB,this,List.getElem_cons_succ];split<;>split<;>simp
theorem Mz(l:List bU)(hb:l.length<=2097152):body prog c44 [dQ l] [] (λr m=>cQ m r (My (pB 0 l))):=by
 refine rG (λk=>k<=l.length) (λk=>[(8,an .i64 (k:Nat)),(3,.rv (.one (.row 0 1 0 none))),(4,.ap),(5,.ap),(9,.ap),(10,.ap),(11,.ap),(12,.ap),(13,.ap),(14,.ap),(15,.ap),(16,.ap),(17,.ap),(18,.ap),(19,.ap)])
  (λk=>[.row 1 (af (oD (pB 0 (l.take k))))]) (λk=>l.length-k) 0 (aaj _) ?_ (λk hk=>?_)
 .refine View.trans (View.aO 3 1 0 rfl rfl rfl) (View.o1 1 [0] [] ?_)
  .exact .put (by simp[bw]) rfl (.EL (.row 1 []) aC) (.nil _)
 .refine aM (λh=>?_) (λh=>?_)
  .have aD:k<l.length:=by have h:(k:Int)<((l.map bU.enc).length:Int):=of_decide_eq_true h;simp at h;omega
   have hg:dx (l.map bU.enc) (k:Nat)=some (l[k].enc):=by rw[bA,RA,uX aD];rfl
   refine ag hg ?_;refine aM (λh3=>?_) (λh3=>?_)
   .have hlen:(pB 0 (l.take k)).length<=2097152:=by have:=rT (l.take k) 0;simp at this;omega
    refine⟨?_,?_⟩
    .show((af (oD (pB 0 (l.take k)))).length+1)*8<=_;simp[af,oD];omega
    .refine⟨k+1,aD,?_,View.o 4 [3] [] ?_ ?_⟩
     .show l.length-(k+1)<l.length-k;omega
     .repeat(first|exact .nil|refine .ap ?_|refine .put (.aU (aN om).symm) ?_|refine .eq rfl ?_)
     .refine .put (by simp[bw]) rfl (.bI ?_) (.nil _)
      rw[zf l 0 k aD,if_pos h3];simp[af,oD,bV]
   .refine⟨k+1,aD,?_,View.o 2 [0] [] ?_ ?_⟩
    .show l.length-(k+1)<l.length-k;omega
    .repeat(first|exact .nil|refine .ap ?_|refine .put (.aU (aN om).symm) ?_|refine .eq rfl ?_)
    .refine .put (by simp[bw]) rfl (.bI ?_) (.nil _)
     rw[zf l 0 k aD,if_neg (by simp[h3])]
  .have d7:¬(k:Int)<((l.map bU.enc).length:Int):=of_decide_eq_false h;simp at d7;have e:l.take k=l:=abN d7;rw[e];exact .rv (.one (eT.eU rfl 0 none))
theorem S9(l:List bU)(hb:l.length<=2097152){m:Mem}{K:CV->Mem->Prop}(h:K (My (pB 0 l)) m):aq prog 44 [dQ l] m K:=
 bg (aY func44 l44 (Mz l hb)) (by simp[dQ,CV.du,CC.du]) λr m1 hf=>⟨_,hf,h⟩
theorem l60:bu prog f60=some c60:=by kernel_rfl
def zg:Nat->Nat->List bU->Nat
 |_,b,[]=>b
 |k,b,s::r=>zg (k+1) (if s.has then k+1 else b) r
theorem Fb(l:List bU)(k b i:Nat)(h:i<l.length):zg k b (l.take (i+1))=if l[i].has then k+i+1 else zg k b (l.take i):=by
 induction l generalizing k b i with
 |nil=>simp at h
 |cons s r ih=>
  cases i with
  |zero=>simp[zg]
  |succ i=>
   simp at h;have:=ih (k+1) (if s.has then k+1 else b) i h
   rw[show k+1+i=k+(i+1) by omega]at this
   simp only[List.take_succ_cons,zg,this,List.getElem_cons_succ]
def rU(l:List bU):Nat:=zg 0 0 l
theorem Fc(l:List bU)(i:Nat)(h:i<l.length):rU (l.take (i+1))=if l[i].has then i+1 else rU (l.take i):=by rw[rU,Fb l 0 0 i h];simp[rU]
def tE:bU:=⟨false,⟨0,0⟩⟩
def nv(l:List bU)(fd:Int):List bU×Int:=
 if(ec l fd).2=0 then((l.set fd.toNat tE).take (rU (l.set fd.toNat tE)),0)else([],(ec l fd).2)
theorem Hi{l:List bU}{fd:Int}(h:(ec l fd).2=0):∃k:Nat,fd=k/\∃hk:k<l.length,l[k].has=true/\(ec l fd).1=l[k].cap:=by
 unfold ec at h;split at h
 .rename_i s hs;split at hs
  .refine⟨fd.toNat,om,(I4.1 hs).1,?_⟩;have e:=(I4.1 hs).2;split at h
   .rename_i h0 hh;rw[e];refine⟨hh,?_⟩;rw[ec,if_pos h0,hs];simp[hh]
   .simp at h
  .cases hs
 .simp at h
theorem kq{m:Mem}{a b:RV}{x:Int}(h:e7 m a b):cQ m (.bz [a,cK x]) (.bz [b,cK x]):=by
 refine .bz rfl λi r r' h1 h2=>?_
 match i,h1,h2 with
 |0,h1,h2=>cases h1;cases h2;exact h
 |1,h1,h2=>cases h1;cases h2;exact e7.self rfl
theorem CS{m:Mem}{id h:Nat}{l:List bU}(hm:m[id]? =some (.row 3 (af (l.map bU.enc)))):eT m (.row id 3 0 (some h)) (.aa (qx (l.take h))):=by
 have h1:eT m (.row id 3 0 (some h)) (.aa (.sl 3 (bV (l.map bU.enc) 0 (some h)))):=eT.eU hm 0 (some h);have h2:bV (l.map bU.enc) 0 (some h)=(l.take h).map bU.enc:=by simp[bV,aci]
 rw[h2]at h1;exact h1
theorem Fd(l:List bU)(hb:l.length<=2097152)(fd:Int):body prog c60 [dQ l,an .i64 fd] [] (λr m=>cQ m r (.bz [jo (nv l fd).1,cK (nv l fd).2])):=by
 refine wD l fd ?_;refine aM (λh=>?_) (λh=>?_)
 .have h:¬(ec l fd).2=0:=by simpa using h
  rw[nv,if_neg h];exact kq (.one (.aO 3))
 .have h:(ec l fd).2=0:=by simpa using h
  rw[nv,if_pos h];obtain⟨k,rfl,hk,Wm,_⟩:=Hi h;refine ph l hb (λhl=>by subst hl;simp at hk) ?_
  refine ag (cr (k:=k) (by simp[ce,lenOf];omega)) ?_
  refine ag (x:=(l[k].enc).map .aa) (by simp[aT,ce,ip,hk]) ?_
  have jg:aW (ce l) (ip 0 k) [CC.aa (.val (.bool false)),CC.aa (.val (.int .i64 0)),CC.aa (.val (.int .i64 0))]=af ((l.set k tE).map bU.enc):=by rw[a8];simp[ce,bU.enc,af,ip,tE]
  have hlen:(l.set k tE).length=l.length:=aC;rw[show((k:Nat):Int).toNat=k from rfl];generalize l.set k tE=l2 at jg hlen;refine rG (λh=>h<=l2.length/\rU (l2.take h)=rU l2) (λh=>[(8,.rv (.one (.row 1 3 0 (some h)))),(24,.ap),(25,.ap),(26,.ap),(27,.ap),(28,.ap),(29,.ap),(30,.ap),(31,.ap),(32,.ap),(33,.ap),(34,.ap),(35,.ap),(36,.ap),(37,.ap),(38,.ap),(39,.ap),(40,.ap),(41,.ap),(19,.ap),(20,.ap),(23,.ap)])
   (λh=>[.aS,.row 3 (af (l2.map bU.enc))]) (λh=>h) l2.length ⟨Ts _,by rw[abe]⟩ ?_ (λh hh=>?_)
  .refine View.o 2 [0,1] [] ?_ ?_
   .repeat(first|exact .nil|refine .ap ?_|refine .put (.hi rfl rfl ((congrArg List.length jg).trans (by simp[af]))) ?_|refine .eq rfl ?_)
   .exact .aS (.put (by simp[bw]) rfl (.bI jg) (.nil _))
  .refine aM (λh2=>?_) (λh2=>?_)
   .have h2:0<h:=by have h2:((h:Nat):Int)>0:=of_decide_eq_true h2;omega
    obtain⟨j,rfl⟩:∃j,h=j+1:=⟨h-1,om⟩;have hj:j<l2.length:=om;have hi:(IntKind.i64.wrap (((j+1:Nat):Int)-1))=((j:Nat):Int):=by rw[<-nI (n:=j) om];congr 1;omega
    have tj:dN (IntKind.i64.wrap (((j+1:Nat):Int)-1)) (j+1)=some j:=by rw[hi];exact cr om
    refine ag tj ?_;refine ag (x:=(l2[j].enc).map .aa) (by simp[aT,af,ip,hj]) ?_
    have ht:=Fc l2 j hj;refine aM (λh3=>?_) (λh3=>?_)
    .have h3:l2[j].has=false:=by simpa using h3
     refine ag (x:=j) (by show p4 (.rv (.one (.aa (.val (.int .i64 (IntKind.i64.wrap (((j+1:Nat):Int)-1)))))))=_;rw[hi];rfl) ?_
     refine cA (by simp[lenOf,abn,af];try omega) ?_
     refine⟨j,⟨om,by rw[h3]at ht;simp at ht;rw[<-ht];exact hh.2⟩,ab0 j,View.o1 2 [0,1] [] ?_⟩
     .exact .aS (.put (by simp[bw]) rfl (.bI rfl) (.nil _))
    .have h3:l2[j].has=true:=by simpa using h3
     have:rU l2=j+1:=by rw[<-hh.2,ht,if_pos h3]
     rw[this];exact kq (.one (CS rfl))
   .have h2:h=0:=by have h2:¬((h:Nat):Int)>0:=of_decide_eq_false h2;omega
    subst h2;have:rU l2=0:=by rw[<-hh.2];rfl
    rw[this];exact kq (.one (CS rfl))
theorem MA(l:List bU)(hb:l.length<=2097152)(fd:Int){m:Mem}{K:CV->Mem->Prop}(h:K (.bz [jo (nv l fd).1,cK (nv l fd).2]) m):aq prog 60 [dQ l,an .i64 fd] m K:=
 bg (aY func60 l60 (Fd l hb fd)) (by simp[dQ,an,CV.du,CC.du]) λr m1 hf=>⟨_,hf,h⟩
end Tb
def c29:LF:= ⟨22,[.tmp 4],(.seq (.ai [qu 2 (.box 0),qu 4 (.aK (qb false))]) (.seq (.ai [qm 5 1,qu 6 (.aJ .geq 5 (qi 0)),qm 7 6,qg 8 (.aK 1) 7 true,qg 9 (.cj 2 2) 7 true,qg 10 (.load false 1 9) 7 true,qg 11 (.len 1 10) 7 true,qg 12 (.aJ .lss 8 11) 7 true,qu 13 (.pick 7 12 (qb false)),qm 14 13,qg 15 (.cj 2 2) 14 true,qg 16 (.load false 1 15) 14 true,qg 17 (.aK 1) 14 true,qg 18 (.cw 4 16 17) 14 true,qg 19 (.cj 0 18) 14 true,qg 20 (.load false 1 19) 14 true,qu 21 (.pick 14 20 (qb false)),qm 4 21]) .ret))⟩
def c113:LF:= ⟨19,[.tmp 4],(.seq (.ai [qu 4 (.aK (qi 0))]) (.seq (.seq (.ai [qm 6 0,qu 7 (.len 1 6),qu 8 (.aK (qi 0))]) (.block 0 (.loop (.seq (.ai [qu 9 (.aJ .lss 8 7)]) (.seq (.cond 9 .skip (.exit 0)) (.seq (.block 1 (.seq (.ai [qm 10 8,qm 5 10]) (.seq (.ai [qm 11 1,qm 12 0,qm 13 5,qu 14 (.cw 2 12 13),qL 15 2 14,qu 16 (.call 11 [15])]) (.cond 16 (.seq (.ai [qm 17 5,qm 4 17]) .ret) .skip)))) (.ai [qu 18 (.aJ .add 8 (qi 1)),qm 8 18]))))))) (.seq (.ai [qu 4 (.aK (qi (-1)))]) .ret)))⟩
def c114:LF:= ⟨6,[.tmp 2],(.seq (.ai [qu 1 (.box 0),qu 2 (.aK (qb false))]) (.seq (.ai [qf 3 0 1,ql 4 3,qu 5 (.aJ .lss 4 (qi 0)),qm 2 5]) .ret))⟩
def c118:LF:= ⟨37,[.tmp 2],(.seq (.ai [qu 2 (.aK (qi 0))]) (.seq (.seq (.ai [qu 5 (.aK (qi 0))]) (.block 0 (.loop (.seq (.ai [qu 6 (.aJ .lss 5 (qi 8))]) (.seq (.cond 6 .skip (.exit 0)) (.seq (.block 1 (.seq (.ai [qm 7 5,qu 3 (.alloc [qd 0]),qw (.store 1 3 7)]) (.seq (.seq (.bR [ql 8 3,qm 9 0,qu 10 (.aP 9),qf 11 2 10,ql 12 11,qu 13 (.len 1 12),qu 14 (.aJ .eql 8 13)] [(.cons 0 none (.cons 1 none (.cons 2 none (.cons 3 none (.cons 4 none (.cons 5 none (.cons 6 none .nil)))))))]) (.cond 14 (.seq (.ai [ql 15 3,qm 2 15]) .ret) .skip)) (.seq (.ai [qm 16 0,qu 17 (.aP 16),qf 18 0 17,ql 19 18,qu 20 (.fn 141 [3]),qu 21 (qc 80 [19,20]),qm 4 21]) (.seq (.bR [qm 22 0,qu 23 (.aP 22),qf 24 2 23,ql 25 24,ql 26 3,qu 27 (.cw 4 25 26),qf 28 0 27,ql 29 28,qu 30 (.un .not 29),qm 31 30,qg 32 (.aK 4) 31 true,qg 33 (.un .not 32) 31 true,qu 34 (.pick 31 33 (qb false))] [(.cons 0 none (.cons 1 none (.cons 2 none (.cons 3 none (.cons 4 none (.cons 5 none (.cons 6 none (.cons 7 none (.cons 8 none (.cons 9 none (.cons 10 none (.cons 11 none (.cons 12 none .nil)))))))))))))]) (.cond 34 (.seq (.ai [ql 35 3,qm 2 35]) .ret) .skip)))))) (.ai [qu 36 (.aJ .add 5 (qi 1)),qm 5 36]))))))) (.seq (.ai [qu 2 (.aK (qi (-1)))]) .ret)))⟩
def c141:LF:= ⟨13,[.tmp 3],(.seq (.ai [qu 2 (.box 0),qu 3 (.aK (qb false))]) (.seq (.ai [qf 4 0 2,ql 5 4,qu 6 (.aJ .eql 5 (qi 5)),qm 7 6,qg 8 (.cj 6 2) 7 true,qg 9 (.load false 1 8) 7 true,qg 10 (.load false 1 1) 7 true,qg 11 (.aJ .eql 9 10) 7 true,qu 12 (.pick 7 11 (qb false)),qm 3 12]) .ret))⟩
theorem l29:bu prog Tryz.f29=some c29:=by kernel_rfl
def ft(ps:List bl)(p:Int):Bool:=decide (p>=0)&&(decide (p<ps.length)&&match ps[p.toNat]? with|some x=>x.aQ|none=>false)
theorem Fe(l:List Obj)(ops:List bD)(ps:List bl)(p:Int):body prog c29 [d9 l ops ps,an .i64 p] [] (λr m=>r=aE (ft ps p)):=by
 refine aL (λh0=>?_) (λh0=>?_)
 .obtain⟨n,rfl⟩:∃n:Nat,p=n:=⟨p.toNat,om⟩;refine aL (λh=>?_) (λh=>?_)
  .have aD:n<ps.length:=by have h:(n:Int)<((ps.map bl.enc).length:Int):=h;rw[ML]at h;omega
   refine ag (dz aD) ?_;have hS:ft ps (n:Int)=ps[n].aQ:=by simp[ft,aD]
   show aE _=aE _;rw[hS]
  .have d7:¬n<ps.length:=by have h:¬(n:Int)<((ps.map bl.enc).length:Int):=h;rw[ML]at h;omega
   have hS:ft ps (n:Int)=false:=by simp[ft,d7]
   show aE _=aE _;rw[hS]
 .have hS:ft ps p=false:=by have:decide (p>=0)=false:=decide_eq_false h0;simp[ft,this]
  show aE _=aE _;rw[hS]
theorem oF(l:List Obj)(ops:List bD)(ps:List bl)(p:Int){m:Mem}{K:CV->Mem->Prop}(h:K (aE (ft ps p)) m):aq prog 29 [d9 l ops ps,an .i64 p] m K:=
 bv func29 l29 rfl (aae rfl) (Fe l ops ps p) (by simp[d9,db,eN,gd,an,CV.du,CC.du,RV.du]) rfl h
theorem oG{ps:List bl}{p:Int}(h:ft ps p=true):∃n:Nat,p=n/\∃hn:n<ps.length,ps[n].aQ=true:=by
 unfold ft at h;by_cases h0:p>=0
 .obtain⟨n,rfl⟩:∃n:Nat,p=n:=⟨p.toNat,om⟩;by_cases hn:n<ps.length
  .refine⟨n,rfl,hn,?_⟩;simpa[hn]using h
  .simp[hn]at h
 .simp[h0]at h
theorem PC{ps:List bl}{n:Nat}(hn:n<ps.length)(h:ps[n].aQ=true):ft ps (n:Int)=true:=by simp[ft,hn,h]
theorem l118:bu prog f118=some c118:=by kernel_rfl
theorem l141:bu prog f141=some c141:=by kernel_rfl
theorem Ff(o:Obj)(p:Int):body prog c141 [o.cv,.rv (.one (.ptr 0 0))] [.var ([Dt.val (.int .i64 p)].map .aa)] (λr m=>r=aE (dC p o)/\∃ex,m= .var ([Dt.val (.int .i64 p)].map .aa)::ex):=by
 refine aM (λh=>?_) (λh=>?_)
 .refine⟨?_,_,rfl⟩;show aE _=aE _;rw[dC,h];rfl
 .refine⟨?_,_,rfl⟩;show aE _=aE _;rw[dC,h];rfl
theorem Wn(o:Obj)(p:Int)(K:CV->Mem->Prop)(h:K (aE (dC p o)) [.var ([Dt.val (.int .i64 p)].map .aa)]):aq prog 141 [o.cv,.rv (.one (.ptr 0 0))] [.var ([Dt.val (.int .i64 p)].map .aa)] K:=
 eH rfl (aY func141 l141 (Ff o p)) h
def rV(l:List Obj)(ps:List bl)(p:Nat):Bool:=match ps[p]? with
 |some x=>!x.aQ&& !(l.any (dC (p:Nat)))
 |none=>false
def oH(l:List Obj)(ps:List bl):Nat->Nat->Int
 |0,_=>-1
 |n+1,p=>if p=ps.length then(p:Nat)else if rV l ps p=true then(p:Nat)else oH l ps n (p+1)
def gM(l:List Obj)(ps:List bl):Int:=oH l ps 8 0
def kC(l:List Obj)(ops:List bD)(ps:List bl):List Dt:=[db l,eN ops,gd ps]
theorem tx(l:List Obj)(hl:l.length<=4194304)(ops:List bD)(ps:List bl):body prog c118 [.rv (.one (.ptr 0 0))] [.var ((kC l ops ps).map .aa)] (λr m=>r=an .i64 (gM l ps)/\∃ex,m= .var ((kC l ops ps).map .aa)::ex):=by
 refine bb (λp=>p<=8/\p<=ps.length/\oH l ps (8-p) p=gM l ps) [0] (λp=>[(5,an .i64 (p:Nat))]) (λ_=>[.var ((kC l ops ps).map .aa)]) (λp=>8-p) 0 ⟨om,aaj _,rfl⟩ ?_ (λp hp=>?_)
 .refine View.o1 1 [0] [] ?_
  .exact .pt rfl rfl (.eq rfl (by simp[kC])) (.nil _)
 obtain⟨hp8,jD,Kp⟩:=hp;have hp8:p<=8:=hp8;have jD:p<=ps.length:=jD;have Kp:oH l ps (8-p) p=gM l ps:=Kp;refine aL (λh=>?_) (λh=>?_)
 .have aD:p<8:=by have h:(p:Int)<8:=h;omega
  rw[show 8-p=(8-(p+1))+1 by omega,oH]at Kp
  refine bp (λhe=>?_) (λhe=>?_)
  .have he:p=ps.length:=by have he:(p:Int)=((ps.map bl.enc).length:Int):=he;rw[ML]at he;omega
   rw[if_pos he]at Kp;rw[<-Kp];exact⟨rfl,_,rfl⟩
  .have dt:¬p=ps.length:=by intro hh;apply he;show(p:Int)=((ps.map bl.enc).length:Int);rw[ML];omega
   rw[if_neg dt]at Kp;have Cg:p<ps.length:=om;have OW:rV l ps p=(!ps[p].aQ&& !(l.any (dC (p:Nat)))):=by rw[rV,uX Cg]
   refine ff (args0:=[cz l,.rv (.one (.fn 141 [0]))]) (cs:=[.val (.int .i64 (p:Nat))]) 1 rfl rfl (r0:=aE (l.any (dC (p:Int)))) rfl (λK hK=>tq l hl 141 _ _ (λs K hK=>Wn s _ K hK) K hK) ?_
   refine ag (dz Cg) ?_;rw[OW]at Kp;have go:(!ps[p].aQ&& !(l.any (dC (p:Nat))))=false->oH l ps (8-(p+1)) (p+1)=gM l ps:=λhh=>by
    rw[if_neg (by rw[hh];simp)]at Kp;exact Kp
   refine aM (λh1=>?_) (λh1=>?_)
   .refine aM (λh2=>?_) (λh2=>?_)
    .rw[if_pos (by rw[h1,h2];rfl)]at Kp
     rw[<-Kp];exact⟨rfl,_,rfl⟩
    .refine⟨p+1,⟨om,om,go (by rw[h2,Bool.and_false])⟩,(show 8-(p+1)<8-p by omega),View.o 2 [0] [] ?_ ?_⟩
     .repeat(first|exact .nil|refine .ap ?_|refine .put (.aU (aN om).symm) ?_|refine .eq rfl ?_)
     .exact .pt rfl rfl (.eq rfl (by simp[kC])) (.nil _)
   .refine⟨p+1,⟨om,om,go (by rw[h1,Bool.false_and])⟩,(show 8-(p+1)<8-p by omega),View.o 2 [0] [] ?_ ?_⟩
    .repeat(first|exact .nil|refine .ap ?_|refine .put (.aU (aN om).symm) ?_|refine .eq rfl ?_)
    .exact .pt rfl rfl (.eq rfl (by simp[kC])) (.nil _)
 .have hp:p=8:=by have h:¬(p:Int)<8:=h;omega
  subst hp;rw[show gM l ps= -1 from Kp.symm];exact⟨rfl,_,rfl⟩
theorem AO(l:List Obj)(hl:l.length<=4194304)(ops:List bD)(ps:List bl)(K:CV->Mem->Prop)(h:K (an .i64 (gM l ps)) [.var ((kC l ops ps).map .aa)]):aq prog 118 [.rv (.one (.ptr 0 0))] [.var ((kC l ops ps).map .aa)] K:=
 eH rfl (aY func118 l118 (tx l hl ops ps)) h
theorem l113:bu prog f113=some c113:=by kernel_rfl
theorem l114:bu prog f114=some c114:=by kernel_rfl
def bD.cv(o:bD):CV:= .rv (.agg (o.enc.map .aa))
theorem Fg(o:bD):body prog c114 [o.cv] [] (λr m=>r=aE (decide (o.bn<0))):=by show aE _=aE _;rfl
theorem Wo(o:bD){m:Mem}{K:CV->Mem->Prop}(h:K (aE (decide (o.bn<0))) m):aq prog 114 [o.cv] m K:=
 bv func114 l114 rfl (aae rfl) (Fg o) rfl rfl h
def DW(l:List bD):Option Nat:=l.findIdx? λo=>decide (o.bn<0)
def Kq(l:List bD):Int:=match DW l with|some i=>(i:Nat)|none=>-1
theorem IX(l:List bD)(hb:l.length<=4194304):body prog c113 [.rv (.one (.aa (eN l))),.rv (.one (.fn 114 []))] [] (λr m=>r=an .i64 (Kq l)):=by
 refine bb (λk=>k<=l.length/\∀(i:Nat)s,i<k->l[i]? =some s->¬s.bn<0) [0,1,7] (λk=>[(8,an .i64 (k:Nat))]) (λ_=>[]) (λk=>l.length-k) 0 ⟨aaj _,λi s h=>absurd h (abi i)⟩ ?_ (λk hk=>?_)
 .refine View.o 0 [] [] ?_ (.nil _);repeat(first|exact .nil|refine .ap ?_|refine .eq rfl ?_)
 obtain⟨f8,SR⟩:=hk;have f8:k<=l.length:=f8;refine aL (λh=>?_) (λh=>?_)
 .have aD:k<l.length:=by have h:(k:Int)<((l.map bD.enc).length:Int):=h;rw[ML]at h;omega
  refine ag (pg aD) ?_;refine Wo l[k] ?_;refine aL (λh3=>?_) (λh3=>?_)
  .show an _ _=an _ _;have:DW l=some k:=by
    rw[DW,abc];exact⟨aD,by simpa using h3,λj hj=>by simpa using SR j _ hj (uX om)⟩
   rw[Kq,this]
  .refine⟨k+1,⟨aD,λi s hi hs=>?_⟩,(show l.length-(k+1)<l.length-k by omega),View.o 0 [] [] ?_ (.nil _)⟩
   .rcases aad i k with h5|h5
    .exact SR i s h5 hs
    .have:i=k:=om;subst this;rw[uX aD]at hs;cases hs;exact h3
   .repeat(first|exact .nil|refine .ap ?_|refine .put (.aU (aN om).symm) ?_|refine .eq rfl ?_)
 .have d7:k=l.length:=by have h:¬(k:Int)<((l.map bD.enc).length:Int):=h;rw[ML]at h;omega
  show an _ _=an _ _;have:DW l=none:=by rw[DW,acj];intro s hs;obtain⟨i,hi⟩:=Xt hs;have:=(I4.1 hi).1;simpa using SR i s om hi
  rw[Kq,this]
theorem Hj(l:List bD)(hb:l.length<=4194304){m:Mem}{K:CV->Mem->Prop}(h:K (an .i64 (Kq l)) m):aq prog 113 [.rv (.one (.aa (eN l))),.rv (.one (.fn 114 []))] m K:=
 bv func113 l113 rfl (aae rfl) (IX l hb) (by simp[eN,CV.du,CC.du,RV.du]) rfl h
def c78:LF:= ⟨36,[.cell true 3 6,.tmp 7],(.seq (.ai [qu 3 (.box 0),qu 6 (.alloc [.aO,.aO,.aO]),qu 7 (.aK (qi 0))]) (.seq (.seq (.ai [qL 9 3 3,qm 10 1,qu 11 (qc 29 [9,10]),qu 12 (.un .not 11)]) (.cond 12 (.seq (.ai [qu 13 (.build [.aO,.aO,.aO] []),qw (.store 3 6 13),qu 7 (.aK (qi 6))]) .ret) .skip)) (.seq (.seq (.ai [qm 14 2,qu 15 (.aJ .lss 14 (qi 0)),qm 16 15,qg 17 (.aK 2) 16 false,qg 18 (.aJ .gtr 17 (qi 255)) 16 false,qu 19 (.pick 16 (qb true) 18)]) (.cond 19 (.seq (.ai [qu 20 (.build [.aO,.aO,.aO] []),qw (.store 3 6 20),qu 7 (.aK (qi 3))]) .ret) .skip)) (.seq (.ai [qL 21 3 3,qu 22 (qc 59 [21]),qu 8 (.alloc [.aO,.aO,.aO]),qw (.store 3 8 22)]) (.seq (.bR [qf 23 2 8,ql 24 23,qm 25 1,qf 26 2 3,ql 27 26,qm 28 1,qu 29 (.cw 4 27 28),qf 30 1 29,ql 31 30,qm 32 2,qu 33 (.build [(.aa (.val (.bool false))),(.aa (.val (.bool false))),qd 0,.aO] [(1,1,31),(2,1,32)]),qu 34 (.cw 4 24 25),qw (.store 4 34 33)] [(.cons 0 none (.cons 1 none (.cons 2 none (.cons 3 none (.cons 4 none (.cons 5 none (.cons 6 none (.cons 7 none (.cons 8 none (.cons 9 none (.cons 10 none (.cons 11 none (.cons 12 (some []) .nil)))))))))))))]) (.cS (.seq (.ai [qL 35 3 8,qw (.store 3 6 35),qu 7 (.aK (qi 0))]) .ret)))))))⟩
theorem l78:bu prog f78=some c78.er:=by kernel_rfl
def jH(k:Kr):RV:= .agg [.aa (db k.l),.aa (eN k.ops),.aa (gd k.ps)]
def rW:Kr:=⟨[],[],[]⟩
def ij(k:Kr)(p code:Int):Kr×Int:=
 if ft k.ps p=false then(rW,6)else if code<0\/code>255 then(rW,3)
 else(⟨k.l,k.ops,k.ps.set p.toNat ⟨false,(match k.ps[p.toNat]? with|some x=>x.fenced|none=>false),code,[]⟩⟩,0)
theorem iK{m:Mem}:e7 m (.agg [.aO,.aO,.aO]) (jH rW):=by
 refine .agg rfl λi c c' h1 h2=>?_
 match i,h1,h2 with
 |0,h1,h2=>cases h1;cases h2;exact .aO 9
 |1,h1,h2=>cases h1;cases h2;exact .aO 2
 |2,h1,h2=>cases h1;cases h2;exact .aO 4
 |n+3,h1,h2=>simp at h1
theorem Hk(k:Kr):(jH k).du=true:=by simp[jH,db,eN,gd,CV.du,CC.du,RV.du]
theorem MB{m:Mem}{Z:Nat->Prop}{p:Option Nat}{id:Nat}{ps:List bl}{k:Nat}{c:List CC}{x:bl}(hc:j7 m Z (some id) c x.enc)(hz:Z id)(hm:m[id]? =some (.row 4 (aW (af (ps.map bl.enc)) k c))):
  dO m Z p (.row id 4 0 none) (gd (ps.set k x)):=by
 rw[a8]at hm;refine dO.row id 4 0 none _ _ hz hm (by simp[af]) (λi cs es h1 h2=>?_) (λi cs es j c' d h1 h2 h3 h4=>?_)
 .rw[abl]at h1;rw[RA,abl]at h2;by_cases e:k=i
  .subst e;rw[if_pos rfl]at h1 h2;split at h1
   .cases h1;split at h2
    .cases h2;exact hc.len
    .cases h2
   .cases h1
  .rw[if_neg e]at h1 h2;rw[af,RA,RA]at h1;cases hi:ps[i]? with
   |none=>rw[hi]at h1;cases h1
   |some y=>rw[hi]at h1 h2;cases h1;cases h2;simp
 .rw[abl]at h1;rw[RA,abl]at h2;by_cases e:k=i
  .subst e;rw[if_pos rfl]at h1 h2;split at h1
   .cases h1;split at h2
    .cases h2;exact hc.get j _ _ h3 h4
    .cases h2
   .cases h1
  .rw[if_neg e]at h1 h2;rw[af,RA,RA]at h1;cases hi:ps[i]? with
   |none=>rw[hi]at h1;cases h1
   |some y=>
    rw[hi]at h1 h2;cases h1;cases h2;have h4:y.enc[j]? =some d:=h4;rw[RA,h4]at h3;cases h3;exact .aa d
def G15:LC:=qt (bL (bL (bL (bL (bL c78.code)))))
theorem IY(k:Kr)(hk:dF k.l k.ops k.ps)(p code:Int):body prog c78 [d9 k.l k.ops k.ps,an .i64 p,an .i64 code] [] (λr m=>cQ m r (.bz [jH (ij k p code).1,cK (ij k p code).2])):=by
 refine oF k.l k.ops k.ps p ?_;refine aM (λh1=>?_) (λh1=>?_)
 .have h1:ft k.ps p=false:=by simpa using h1
  rw[ij,if_pos h1];exact kq iK
 have h1:ft k.ps p=true:=by simpa using h1
 obtain⟨n,rfl,hn,b7⟩:=oG h1;rw[ij,if_neg (by rw[h1];simp)]
 refine aL (λh2=>?_) (λh2=>?_)
 .rw[if_pos (.inl h2)];exact kq iK
 refine aL (λh3=>?_) (λh3=>?_)
 .rw[if_pos (.inr h3)];exact kq iK
 rw[if_neg (λh=>h.elim h2 h3)]
 refine iI k.l k.ops k.ps ⟨hk.ll,λo ho=>(hk.sm o ho).nT⟩ hk.lo hk.lp hk.sl hk.ne ?_
 have hg:=dz hn;have hr:=bH bl.enc k.ps hn;have hx:(match k.ps[((n:Nat):Int).toNat]? with|some x=>x.fenced|none=>false)=k.ps[n].fenced:=by rw[show((n:Nat):Int).toNat=n from rfl,uX hn]
 rw[hx,show((n:Nat):Int).toNat=n from rfl];generalize k.ps[n]=y at hg hr;obtain⟨aQ,fenced,cd,aV⟩:=y;refine ag hg ?_;refine ag (mc hn) ?_;refine ag hr ?_;have ei:aw prog 0 G15 (oc prog c78.lK (λr m=>cQ m r (.bz [jH ⟨k.l,k.ops,k.ps.set n ⟨false,fenced,code,[]⟩⟩,cK 0]))) ⟨km 36 [(6,.rv (.one (.ptr 1 0))),(8,.rv (.one (.ptr 2 0)))],[.var ((kC k.l k.ops k.ps).map .aa),.var [.aO,.aO,.aO],.var ((kC k.l k.ops (k.ps.set n ⟨false,fenced,code,[]⟩)).map .aa)]⟩:=by exact kq (e7.self (Hk _))
 refine⟨?_,_,View.o 6 [0,1,5] [2,3,4] ?_ ?_,ei⟩
 .exact trivial
 .repeat(first|exact .nil|refine .ap ?_|refine .eq rfl ?_)
 .refine .pt rfl rfl (.eq rfl (by simp[kC])) (.pe rfl rfl rfl (.pt rfl rfl (fa.var (.cons (.fy (dO.eU (Z:=λk=>bw [2,3,4] k=true) rfl rfl 0 none)) (.cons (.fy (dO.eU (Z:=λk=>bw [2,3,4] k=true) rfl rfl 0 none)) (.cons (.fy (MB (Z:=λk=>bw [2,3,4] k=true) ?_ rfl rfl)) .nil)))) (.nil _)))
  exact .cons (.aa _) (.cons (.aa _) (.cons (.aa _) (.cons (.aO 3) .nil)))
theorem AP(k:Kr)(hk:dF k.l k.ops k.ps)(p code:Int){m:Mem}{K:CV->Mem->Prop}(h:K (.bz [jH (ij k p code).1,cK (ij k p code).2]) m):aq prog 78 [d9 k.l k.ops k.ps,an .i64 p,an .i64 code] m K:=
 bg (b8 func78 l78 (IY k hk p code)) (by simp[d9,db,eN,gd,an,CV.du,CC.du,RV.du]) λr m1 hf=>⟨_,hf,h⟩
def c72:LF:= ⟨74,[.cell true 3 8,.tmp 9,.tmp 10],(.seq (.ai [qu 4 (.box 0),qu 8 (.alloc [.aO,.aO,.aO]),qu 9 (.aK (qi 0)),qu 10 (.aK (qi 0))]) (.seq (.ai [qf 16 1 4,ql 17 16,qu 18 (qc 113 [17,(.c (.rv (.one (.fn 114 []))))]),qm 11 18]) (.seq (.seq (.ai [qm 19 11,qu 20 (.aJ .lss 19 (qi 0))]) (.cond 20 (.seq (.seq (.ai [qf 21 1 4,ql 22 21,qu 23 (.len 1 22),qu 24 (.aJ .geq 23 (qi 60))]) (.cond 24 (.seq (.ai [qu 25 (.build [.aO,.aO,.aO] []),qw (.store 3 8 25),qu 9 (.aK (qi 0)),qu 10 (.aK (qi 15))]) .ret) .skip)) (.ai [qf 26 1 4,ql 27 26,qu 28 (.len 1 27),qm 11 28])) .skip)) (.cS (.seq (.ai [qf 30 2 4,ql 31 30,qm 32 1,qu 33 (.cw 4 31 32),qf 34 3 33,ql 35 34,qm 36 11,qm 37 3,qu 38 (.build [qd 0,qd 0] [(0,1,36),(1,1,37)]),qu 39 (qc 76 [35,38]),qm 29 39,qu 40 (.ext 29 0),qu 41 (.ext 29 1),qu 42 (.ext 29 2),qm 12 40,qm 13 41,qm 14 42]) (.seq (.seq (.ai [qm 43 14,qu 44 (.aJ .neq 43 (qi 0))]) (.cond 44 (.seq (.ai [qu 45 (.build [.aO,.aO,.aO] []),qm 46 14,qw (.store 3 8 45),qu 9 (.aK (qi 0)),qm 10 46]) .ret) .skip)) (.seq (.ai [qL 47 3 4,qu 48 (qc 59 [47]),qu 15 (.alloc [.aO,.aO,.aO]),qw (.store 3 15 48)]) (.seq (.seq (.ai [qm 49 11,qf 50 1 15,ql 51 50,qu 52 (.len 1 51),qu 53 (.aJ .eql 49 52)]) (.cond 53 (.ai [qf 54 1 15,ql 55 54,qu 56 (.build [qd 0,qd 0] []),qu 57 (.nC 2 [qd 0,qd 0] 1 [(0,56)]),qu 58 (.oZ 2 16 55 57),qf 59 1 15,qw (.store 1 59 58)]) .skip)) (.cS (.seq (.ai [qf 60 1 15,ql 61 60,qm 62 11,qm 63 2,qu 64 (.build [qd 0,qd 0] [(0,1,63)]),qu 65 (.cw 2 61 62),qw (.store 2 65 64)]) (.seq (.ai [qf 66 2 15,ql 67 66,qm 68 1,qm 69 12,qu 70 (.cw 4 67 68),qf 71 3 70,qw (.store 1 71 69)]) (.seq (.ai [qL 72 3 15,qm 73 13,qw (.store 3 8 72),qm 9 73,qu 10 (.aK (qi 0))]) .ret))))))))))))⟩
theorem l72:bu prog f72=some c72.er:=by kernel_rfl
def mf(s:fk):Tb.bU:=⟨s.has,⟨s.dP,s.b9⟩⟩
def OH(s:Tb.bU):fk:=⟨s.has,s.cap.dP,s.cap.b9⟩
theorem PD(l:List fk):(l.map mf).map Tb.bU.enc=l.map fk.enc:=by rw[abM];rfl
theorem PE(l:List Tb.bU):(l.map OH).map fk.enc=l.map Tb.bU.enc:=by rw[abM];rfl
theorem zh(l:List fk):Tb.qx (l.map mf)=yh l:=by rw[Tb.qx,PD];rfl
theorem pi(l:List Tb.bU):Tb.jo l=L6 (l.map OH):=by show RV.one (.aa (.sl 3 (l.map Tb.bU.enc)))= .one (.aa (.sl 3 ((l.map OH).map fk.enc)));rw[PE]
def fQ(l:List fk)(dP b9:Int):List fk×Int×Int:=((Tb.iJ (l.map mf) ⟨dP,b9⟩).1.map OH,(Tb.iJ (l.map mf) ⟨dP,b9⟩).2.1,(Tb.iJ (l.map mf) ⟨dP,b9⟩).2.2)
theorem AQ(l:List fk)(hb:l.length<=2097152)(dP b9:Int){m:Mem}{K:CV->Mem->Prop}(h:K (.bz [L6 (fQ l dP b9).1,cK (fQ l dP b9).2.1,cK (fQ l dP b9).2.2]) m):
  aq prog 76 [mS l,.rv (.agg [.aa (.val (.int .i64 dP)),.aa (.val (.int .i64 b9))])] m K:=by
 have:=Tb.Mw (l.map mf) (by simpa using hb) ⟨dP,b9⟩ (m:=m) (K:=K) (by rw[pi];exact h)
 have e:Tb.dQ (l.map mf)=mS l:=by show CV.rv (.one (.aa (Tb.qx (l.map mf))))=_;rw[zh];rfl
 rw[e]at this;exact this
def cW(ops:List bD):Nat:=(DW ops).getD ops.length
def ay(ps:List bl)(n:Nat):List fk:=match ps[n]? with|some x=>x.aV|none=>[]
def i7(ops:List bD)(i:Nat)(o:bD):List bD:=if i=ops.length then ops++ [o]else ops.set i o
def dk(ps:List bl)(n:Nat)(l:List fk):List bl:=match ps[n]? with|some x=>ps.set n {x with aV:=l}|none=>ps
def aI(k:Kr)(n:Nat)(bn b9:Int):Kr×Int×Int:=
 if DW k.ops=none/\k.ops.length>=60 then(rW,0,15)
 else if(fQ (ay k.ps n) (cW k.ops) b9).2.2≠0 then(rW,0,(fQ (ay k.ps n) (cW k.ops) b9).2.2)
 else(⟨k.l,i7 k.ops (cW k.ops) ⟨bn,0⟩,dk k.ps n (fQ (ay k.ps n) (cW k.ops) b9).1⟩,(fQ (ay k.ps n) (cW k.ops) b9).2.1,0)
theorem AR{ops:List bD}{i:Nat}(h:DW ops=some i):i<ops.length:=(abc.1 h).1
def C30:LC:=bL (bL (bL c72.code))
def Z0:LC:=qt C30
def C60:LC:=bL (bL (bL (bL Z0)))
def G60:LC:=qt C60
def M60(l:List Obj)(O:List bD)(ps:List bl):Mem:=[.var [.aO,.aO,.aO],.row 9 (af (l.map Obj.enc)),.row 2 (af (O.map bD.enc)),.row 4 (af (ps.map bl.enc)),.var [.row 1 9 0 none,.row 2 2 0 none,.row 3 4 0 none]]
theorem Wp{m:Mem}{a b c:Nat}{l:List Obj}{ops:List bD}{ps:List bl}(h1:m[a]? =some (.row 9 (af (l.map Obj.enc))))(h2:m[b]? =some (.row 2 (af (ops.map bD.enc))))(h3:m[c]? =some (.row 4 (af (ps.map bl.enc)))):
  e7 m (.agg [.row a 9 0 none,.row b 2 0 none,.row c 4 0 none]) (jH ⟨l,ops,ps⟩):=by
 refine .agg rfl λi c c' e1 e2=>?_
 match i,e1,e2 with
 |0,e1,e2=>cases e1;cases e2;exact eT.eU h1 0 none
 |1,e1,e2=>cases e1;cases e2;exact eT.eU h2 0 none
 |2,e1,e2=>cases e1;cases e2;exact eT.eU h3 0 none
 |n+3,e1,e2=>simp at e1
theorem Ru(l:List Obj)(O:List bD)(ps:List bl)(n i:Nat)(hn:n<ps.length)(hi:i<O.length)(bn fd:Int)(y:List fk):
  aw prog 0 G60 (oc prog c72.lK (λr m=>cQ m r (.bz [jH ⟨l,O.set i ⟨bn,0⟩,dk ps n y⟩,cK fd,cK 0])))
   ⟨km 74 [(1,an .i64 (n:Nat)),(2,an .i64 bn),(8,.rv (.one (.ptr 0 0))),(11,an .i64 (i:Nat)),(12,mS y),(13,an .i64 fd),(15,.rv (.one (.ptr 4 0)))],M60 l O ps⟩:=by
 refine ag (AH hi) ?_;have ho:=bH bD.enc O hi;generalize O[i]=x at ho;obtain⟨xo,xa⟩:=x;refine ag ho ?_;refine ag (mc hn) ?_;have hp:=bH bl.enc ps hn;have pz:dk ps n y=ps.set n {ps[n]with aV:=y}:=by rw[dk,uX hn]
 rw[pz];generalize ps[n]=z at hp;obtain⟨aQ,fenced,cd,aV⟩:=z;refine ag hp ?_;refine ma (Wp ?_ ?_ ?_) (e7.self rfl)
 .rfl
 .refine congrArg (λx=>some (Bk.row 2 x)) ?_
  show aW (af (O.map bD.enc)) i ((bD.enc ⟨bn,0⟩).map .aa)=_;rw[a8,af,af,abE,abE]
 .refine congrArg (λx=>some (Bk.row 4 x)) ?_
  show aW (af (ps.map bl.enc)) n ((bl.enc ⟨aQ,fenced,cd,y⟩).map .aa)=_;rw[a8,af,af,abE,abE]
theorem Rw(k:Kr)(hk:dF k.l k.ops k.ps)(n:Nat)(hn:n<k.ps.length)(bn b9:Int)(i:Nat)(hi:i=cW k.ops)(x4:i<=k.ops.length)(jS:¬(DW k.ops=none/\k.ops.length>=60)):
  aw prog 0 Z0 (oc prog c72.lK (λr m=>cQ m r (.bz [jH (aI k n bn b9).1,cK (aI k n bn b9).2.1,cK (aI k n bn b9).2.2])))
   ⟨km 74 [(1,an .i64 (n:Nat)),(2,an .i64 bn),(3,an .i64 b9),(4,.rv (.one (.ptr 0 0))),(8,.rv (.one (.ptr 1 0))),(11,an .i64 (i:Nat))],[.var ((kC k.l k.ops k.ps).map .aa),.var [.aO,.aO,.aO]]⟩:=by
 have zi:ay k.ps n=k.ps[n].aV:=by rw[ay,uX hn]
 have yK:=hk.sl _ (aal hn);have Ta:k.ops.length<=4194304:=hk.lo;rw[aI,if_neg jS,zi,<-hi];refine ag (dz hn) ?_;generalize k.ps[n].aV=S at yK;refine AQ S om (i:Nat) b9 ?_;generalize fQ S (i:Nat) b9=A;obtain⟨y,fd,e⟩:=A;refine bs (λhe=>?_) (λhe=>?_)
 .rw[if_pos he];exact ma iK (e7.self rfl)
 have he:e=0:=he;subst he;rw[if_neg aC];refine iI k.l k.ops k.ps ⟨hk.ll,λo ho=>(hk.sm o ho).nT⟩ hk.lo hk.lp hk.sl hk.ne ?_
 refine bp (λm9=>?_) (λm9=>?_)
 .have m9:i=k.ops.length:=by have m9:(i:Int)=((af (k.ops.map bD.enc)).length:Int):=m9;rw[be,ML]at m9;omega
  have jg:i7 k.ops i ⟨bn,0⟩=(k.ops++ [bD.mk 0 0]).set i ⟨bn,0⟩:=by rw[i7,if_pos m9,m9];simp
  rw[jg];refine⟨by simp only[bV,be,ML,aah,abv];omega,?_⟩
  refine⟨_,View.o1 8 [1,2,7,4,5] [] ?_,Ru k.l (k.ops++ [bD.mk 0 0]) k.ps n i hn (by simp;omega) bn fd y⟩
  .exact .pe rfl rfl rfl (.pr rfl rfl rfl (.pt rfl rfl (.bI (by simp[bV,af,bD.enc])) (.pr rfl rfl rfl (.pm rfl rfl rfl))))
 .have aD:i<k.ops.length:=by have m9:¬(i:Int)=((af (k.ops.map bD.enc)).length:Int):=m9;rw[be,ML]at m9;omega
  have jg:i7 k.ops i ⟨bn,0⟩=k.ops.set i ⟨bn,0⟩:=by rw[i7,if_neg om]
  rw[jg];refine⟨_,View.o1 6 [1,2,3,4,5] [] ?_,Ru k.l k.ops k.ps n i hn aD bn fd y⟩
  .exact .pe rfl rfl rfl (.pr rfl rfl rfl (.pr rfl rfl rfl (.pr rfl rfl rfl (.pm rfl rfl rfl))))
theorem CT(k:Kr)(hk:dF k.l k.ops k.ps)(n:Nat)(hn:n<k.ps.length)(bn b9:Int):body prog c72 [d9 k.l k.ops k.ps,an .i64 (n:Nat),an .i64 bn,an .i64 b9] []
  (λr m=>cQ m r (.bz [jH (aI k n bn b9).1,cK (aI k n bn b9).2.1,cK (aI k n bn b9).2.2])):=by
 refine Hj k.ops hk.lo ?_;have Ta:k.ops.length<=4194304:=hk.lo;cases ho:DW k.ops with
 |none=>
  have Tc:Kq k.ops= -1:=by rw[Kq,ho]
  have Oy:cW k.ops=k.ops.length:=by rw[cW,ho];rfl
  rw[Tc];refine aL (λwG=>?_) (λwG=>?_)
  .have wG:k.ops.length>=60:=by have wG:((k.ops.map bD.enc).length:Int)>=60:=wG;rw[ML]at wG;omega
   rw[aI,if_pos ⟨ho,wG⟩];exact ma iK (e7.self rfl)
  .have wG:¬k.ops.length>=60:=by have wG:¬((k.ops.map bD.enc).length:Int)>=60:=wG;rw[ML]at wG;omega
   refine⟨_,View.o 2 [0,1] [] ?_ ?_,Rw k hk n hn bn b9 k.ops.length Oy.symm (Ts _) (λh=>wG h.2)⟩
   .have hlen:an .i64 (((k.ops.map bD.enc).length:Nat):Int)=an .i64 ((k.ops.length:Nat):Int):=by rw[ML]
    repeat(first|exact .nil|refine .ap ?_|refine .eq rfl ?_)
    refine .eq hlen.symm ?_;repeat(first|exact .nil|refine .ap ?_|refine .eq rfl ?_)
   .exact .pt rfl rfl (.eq rfl (by simp[kC])) (.pm rfl rfl rfl)
 |some i=>
  have Tc:Kq k.ops=(i:Nat):=by rw[Kq,ho]
  have Oy:cW k.ops=i:=by rw[cW,ho];rfl
  have x4:=AR ho;rw[Tc];refine⟨_,View.o1 2 [0,1] [] ?_,Rw k hk n hn bn b9 i Oy.symm om (λh=>by rw[ho]at h;cases h.1)⟩
  .exact .pt rfl rfl (.eq rfl (by simp[kC])) (.pm rfl rfl rfl)
theorem tF(k:Kr)(hk:dF k.l k.ops k.ps)(n:Nat)(hn:n<k.ps.length)(bn b9:Int){m:Mem}{K:CV->Mem->Prop}(h:K (.bz [jH (aI k n bn b9).1,cK (aI k n bn b9).2.1,cK (aI k n bn b9).2.2]) m):aq prog 72 [d9 k.l k.ops k.ps,an .i64 (n:Nat),an .i64 bn,an .i64 b9] m K:=
 bg (b8 func72 l72 (CT k hk n hn bn b9)) (by simp[d9,db,eN,gd,an,CV.du,CC.du,RV.du]) λr m1 hf=>⟨_,hf,h⟩
def c77:LF:= ⟨84,[.cell true 3 4,.tmp 5,.tmp 6,.tmp 7],(.seq (.ai [qu 2 (.box 0),qu 4 (.alloc [.aO,.aO,.aO]),qu 5 (.aK (qi 0)),qu 6 (.aK (qi 0)),qu 7 (.aK (qi 0))]) (.seq (.seq (.ai [qL 14 3 2,qm 15 1,qu 16 (qc 29 [14,15]),qu 17 (.un .not 16)]) (.cond 17 (.seq (.ai [qu 18 (.build [.aO,.aO,.aO] []),qw (.store 3 4 18),qu 5 (.aK (qi 0)),qu 6 (.aK (qi 0)),qu 7 (.aK (qi 6))]) .ret) .skip)) (.seq (.ai [qu 19 (qc 118 [2]),qm 8 19]) (.seq (.seq (.ai [qm 20 8,qu 21 (.aJ .lss 20 (qi 0))]) (.cond 21 (.seq (.ai [qu 22 (.build [.aO,.aO,.aO] []),qw (.store 3 4 22),qu 5 (.aK (qi 0)),qu 6 (.aK (qi 0)),qu 7 (.aK (qi 15))]) .ret) .skip)) (.seq (.ai [qL 23 3 2,qu 24 (qc 59 [23]),qu 9 (.alloc [.aO,.aO,.aO]),qw (.store 3 9 24)]) (.seq (.seq (.ai [qm 25 8,qf 26 2 9,ql 27 26,qu 28 (.len 1 27),qu 29 (.aJ .eql 25 28)]) (.cond 29 (.ai [qf 30 2 9,ql 31 30,qu 32 (.build [(.aa (.val (.bool false))),(.aa (.val (.bool false))),qd 0,.aO] []),qu 33 (.nC 4 [(.aa (.val (.bool false))),(.aa (.val (.bool false))),qd 0,.aO] 1 [(0,32)]),qu 34 (.oZ 4 40 31 33),qf 35 2 9,qw (.store 1 35 34)]) .skip)) (.cS (.seq (.bR [qf 36 2 9,ql 37 36,qm 38 8,qf 39 2 2,ql 40 39,qm 41 1,qu 42 (.cw 4 40 41),qf 43 1 42,ql 44 43,qf 45 2 2,ql 46 45,qm 47 1,qu 48 (.cw 4 46 47),qf 49 3 48,ql 50 49,qu 51 (qc 100 [50]),qu 52 (.build [(.aa (.val (.bool false))),(.aa (.val (.bool false))),qd 0,.aO] [(0,1,qb true),(1,1,44),(3,1,51)]),qu 53 (.cw 4 37 38),qw (.store 4 53 52)] [(.cons 0 none (.cons 1 none (.cons 2 none (.cons 3 none (.cons 4 none (.cons 5 none (.cons 6 none (.cons 7 none (.cons 8 none (.cons 9 none (.cons 10 none (.cons 11 none (.cons 12 none (.cons 13 none (.cons 14 none (.cons 15 (some [8,6,4,1]) (.cons 16 none (.cons 17 none (.cons 18 (some []) .nil)))))))))))))))))))]) (.cS (.seq (.ai [qf 55 0 9,ql 56 55,qm 57 8,qu 58 (.build [qd 0,.aO,.aO,(.aa (.val (.string ⟨#[]⟩))),qd 0,.aO,qd 0,qd 0,qd 0] [(0,1,qi 5),(4,1,(qi (-1))),(6,1,57)]),qu 59 (qc 111 [56,58]),qm 54 59,qu 60 (.ext 54 0),qu 61 (.ext 54 1),qu 62 (.ext 54 2),qm 10 60,qm 11 61,qm 12 62]) (.seq (.seq (.ai [qm 63 12,qu 64 (.aJ .neq 63 (qi 0))]) (.cond 64 (.seq (.ai [qu 65 (.build [.aO,.aO,.aO] []),qm 66 12,qw (.store 3 4 65),qu 5 (.aK (qi 0)),qu 6 (.aK (qi 0)),qm 7 66]) .ret) .skip)) (.seq (.ai [qm 67 10,qf 68 0 9,qw (.store 1 68 67)]) (.seq (.ai [qL 70 3 9,qm 71 1,qm 72 11,qu 73 (qc 72 [70,71,72,qi 3200]),qm 69 73,qu 74 (.ext 69 0),qu 75 (.ext 69 1),qu 76 (.ext 69 2),qw (.store 3 9 74),qm 13 75,qm 12 76]) (.seq (.seq (.ai [qm 77 12,qu 78 (.aJ .neq 77 (qi 0))]) (.cond 78 (.seq (.ai [qu 79 (.build [.aO,.aO,.aO] []),qm 80 12,qw (.store 3 4 79),qu 5 (.aK (qi 0)),qu 6 (.aK (qi 0)),qm 7 80]) .ret) .skip)) (.seq (.ai [qL 81 3 9,qm 82 8,qm 83 13,qw (.store 3 4 81),qm 5 82,qm 6 83,qu 7 (.aK (qi 0))]) .ret)))))))))))))))⟩
theorem l77:bu prog f77=some c77.er:=by kernel_rfl
def dd(c:Int):Obj:=⟨5,[],[],⟨#[]⟩,-1,[],c,0,0⟩
theorem CU(c:Int):(dd c).sm:=⟨⟨⟨[],rfl⟩,⟨[],rfl⟩,λq hq=>by simp[dd]at hq⟩,by simp[dd],by simp[dd],by simp[dd],λq hq=>by simp[dd]at hq⟩
theorem MC(a:CV)(c:Int):kV [a,.rv (.agg [.aa (.val (.int .i64 5)),.aO,.aO,.aa (.val (.string ⟨#[]⟩)),.aa (.val (.int .i64 (-1))),.aO,.aa (.val (.int .i64 c)),.aa (.val (.int .i64 0)),.aa (.val (.int .i64 0))])] [a,(dd c).cv]:=
 .dv _ (.agg (.cons (.dv _) (.cons (.aO 1) (.cons (.aO 2) (.cons (.dv _) (.cons (.dv _) (.cons (.aO 4) (.cons (.dv _) (.cons (.dv _) (.cons (.dv _) .nil))))))))) .nil)
theorem zj{l:List Obj}{o x:Obj}(h:x∈(aF l o).1):x∈l\/x=o:=by
 unfold aF at h;split at h
 .exact aa2 h
 .split at h
  .simp at h
  .simpa using h
theorem IZ(l:List Obj)(o:Obj):(aF l o).1.length<=l.length+1:=by
 unfold aF;split
 .simp
 .split<;>simp
theorem MD{m:Mem}{a b:RV}{x y z:Int}(h:e7 m a b):cQ m (.bz [a,cK x,cK y,cK z]) (.bz [b,cK x,cK y,cK z]):=by
 refine .bz rfl λi r r' h1 h2=>?_
 match i,h1,h2 with
 |0,h1,h2=>cases h1;cases h2;exact h
 |1,h1,h2=>cases h1;cases h2;exact e7.self rfl
 |2,h1,h2=>cases h1;cases h2;exact e7.self rfl
 |3,h1,h2=>cases h1;cases h2;exact e7.self rfl
 |n+4,h1,h2=>simp at h1
def wH(l:List Obj)(ops:List bD)(P:List bl)(n:Nat)(c:Int):Kr×Int×Int×Int:=
 if(aF l (dd c)).2.2≠0 then(rW,0,0,(aF l (dd c)).2.2)
 else if(aI ⟨(aF l (dd c)).1,ops,P⟩ n (aF l (dd c)).2.1 3200).2.2≠0 then(rW,0,0,(aI ⟨(aF l (dd c)).1,ops,P⟩ n (aF l (dd c)).2.1 3200).2.2)
 else((aI ⟨(aF l (dd c)).1,ops,P⟩ n (aF l (dd c)).2.1 3200).1,c,(aI ⟨(aF l (dd c)).1,ops,P⟩ n (aF l (dd c)).2.1 3200).2.1,0)
def gT(ps:List bl)(n c:Nat):List bl:=match ps[n]? with
 |some x=>if c=ps.length then ps++ [⟨true,x.fenced,0,x.aV⟩]else ps.set c ⟨true,x.fenced,0,x.aV⟩
 |none=>ps
def gD(k:Kr)(p:Int):Kr×Int×Int×Int:=
 if ft k.ps p=false then(rW,0,0,6)else if gM k.l k.ps<0 then(rW,0,0,15)
 else wH k.l k.ops (gT k.ps p.toNat (gM k.l k.ps).toNat) p.toNat (gM k.l k.ps)
def Hl(a:Kr×Int×Int×Int):CV:= .bz [jH a.1,cK a.2.1,cK a.2.2.1,cK a.2.2.2]
def C36:LC:=bL (bL (bL (bL (bL (bL c77.code)))))
def G36:LC:=qt C36
def C55:LC:=bL G36
def G55:LC:=qt C55
theorem Wq(l:List Obj)(ops:List bD)(P:List bl)(hk:dF l ops P)(Fh:l.length<=4194303)(n:Nat)(hn:n<P.length)(c:Int):
  aw prog 0 G55 (oc prog c77.lK (λr m=>cQ m r (Hl (wH l ops P n c))))
   ⟨km 84 [(1,an .i64 (n:Nat)),(4,.rv (.one (.ptr 0 0))),(8,an .i64 c),(9,.rv (.one (.ptr 1 0)))],[.var [.aO,.aO,.aO],.var ((kC l ops P).map .aa)]⟩:=by
 have hA1:∀x,x∈(aF l (dd c)).1->x.sm:=λx hx=>by
  rcases zj hx with hx|rfl
  .exact hk.sm x hx
  .exact CU c
 have Z1:=IZ l (dd c);refine mN (MC _ _) (Az l ⟨hk.ll,λo ho=>(hk.sm o ho).nT⟩ (dd c) ?_)
 unfold wH;generalize aF l (dd c)=A at hA1 Z1;obtain⟨A1,k,e⟩:=A;refine bs (λhe=>?_) (λhe=>?_)
 .rw[if_pos he];exact MD iK
 have he:e=0:=he;subst he;rw[if_neg aC];refine tF ⟨A1,ops,P⟩ ⟨hA1,by have Z1:A1.length<=l.length+1:=Z1;show A1.length<=4194304;omega,hk.lo,hk.lp,hk.sl,hk.ne⟩ n hn k 3200 ?_
 generalize aI ⟨A1,ops,P⟩ n k 3200=B;obtain⟨B1,fd,e2⟩:=B;refine bs (λjY=>?_) (λjY=>?_)
 .rw[if_pos jY];exact MD iK
 have jY:e2=0:=jY;subst jY;rw[if_neg aC];exact MD (e7.self (Hk _))
theorem oI(l:List Obj)(ps:List bl):∀(n p c:Nat),oH l ps n p=(c:Nat)->p<=ps.length->c<=ps.length/\p<=c/\c<p+n/\(c<ps.length->rV l ps c=true)
 |0,p,c,h,_=>by have h:(-1:Int)=(c:Nat):=h;omega
 |n+1,p,c,h,hp=>by
  rw[oH]at h;by_cases h1:p=ps.length
  .rw[if_pos h1]at h;have:p=c:=om;subst this;exact⟨om,om,om,λh2=>om⟩
  .rw[if_neg h1]at h;by_cases h2:rV l ps p=true
   .rw[if_pos h2]at h;have:p=c:=om;subst this;exact⟨om,om,om,λ_=>h2⟩
   .rw[if_neg h2]at h;obtain⟨a,b,c1,d⟩:=oI l ps n (p+1) c h om;exact⟨a,om,om,d⟩
theorem Rx(k:Kr)(hk:dF k.l k.ops k.ps)(Fh:k.l.length<=4194303)(P:List bl)(hP:∀p,p∈P->p.aV.length<=10)(X4:P.length<=4194304)(n:Nat)(hn:n<k.ps.length)(hnP:n<P.length)(c:Nat)(hc:c<P.length):
  aw prog 0 G36 (oc prog c77.lK (λr m=>cQ m r (Hl (wH k.l k.ops (P.set c ⟨true,k.ps[n].fenced,0,k.ps[n].aV⟩) n (c:Nat)))))
   ⟨km 84 [(1,an .i64 (n:Nat)),(2,.rv (.one (.ptr 0 0))),(4,.rv (.one (.ptr 1 0))),(8,an .i64 (c:Nat)),(9,.rv (.one (.ptr 5 0)))],
    [.var ((kC k.l k.ops k.ps).map .aa),.var [.aO,.aO,.aO],.row 9 (af (k.l.map Obj.enc)),.row 2 (af (k.ops.map bD.enc)),.row 4 (af (P.map bl.enc)),.var [.row 2 9 0 none,.row 3 2 0 none,.row 4 4 0 none]]⟩:=by
 have hg:=dz hn;have yK:=hk.sl _ (aal hn);have hr:=bH bl.enc P hc;generalize k.ps[n]=z at hg yK;obtain⟨aQ,fenced,cd,aV⟩:=z;have yK:aV.length<=10:=yK;generalize P[c]=w at hr;obtain⟨wl,wf,wc,ws⟩:=w;refine ag hg ?_;refine ag hg ?_;refine jm aV om ?_;refine⟨⟨rfl,ag hg rfl,rfl,rfl,trivial⟩,?_⟩;refine ag (mc hc) ?_;refine ag hr ?_;refine⟨trivial,?_⟩;have jg:∀x,x∈P.set c ⟨true,fenced,0,aV⟩->x.aV.length<=10:=λx hx=>by
  rcases aa2 hx with hx|rfl
  .exact hP x hx
  .exact yK
 have ei:=Wq k.l k.ops (P.set c ⟨true,fenced,0,aV⟩) ⟨hk.sm,hk.ll,hk.lo,by rw[aaY];exact X4,jg,λh=>by have:=congrArg List.length h;rw[aaY,abv]at this;omega⟩ Fh n (by rw[aaY];exact hnP) (c:Nat)
 refine⟨_,View.o1 6 [1,5] [2,3,4] ?_,ei⟩
 .refine .pe rfl rfl rfl (.pt rfl rfl (fa.var (.cons (.fy (dO.eU (Z:=λk=>bw [2,3,4] k=true) rfl rfl 0 none)) (.cons (.fy (dO.eU (Z:=λk=>bw [2,3,4] k=true) rfl rfl 0 none)) (.cons (.fy (MB (Z:=λk=>bw [2,3,4] k=true) (c:=(bl.enc ⟨true,fenced,0,aV⟩).map .aa) ?_ rfl rfl)) .nil)))) (.nil _))
  exact .cons (.aa _) (.cons (.aa _) (.cons (.aa _) (.cons (.aa _) .nil)))
theorem I0(k:Kr)(hk:dF k.l k.ops k.ps)(Fh:k.l.length<=4194303)(p:Int):body prog c77 [d9 k.l k.ops k.ps,an .i64 p] [] (λr m=>cQ m r (Hl (gD k p))):=by
 refine oF k.l k.ops k.ps p ?_;have h2:=hk.lp;refine aM (λh1=>?_) (λh1=>?_)
 .have h1:ft k.ps p=false:=by simpa using h1
  rw[gD,if_pos h1];exact MD iK
 have h1:ft k.ps p=true:=by simpa using h1
 obtain⟨n,rfl,hn,b7⟩:=oG h1;rw[gD,if_neg (by rw[h1];simp)]
 refine ff (args0:=[.rv (.one (.ptr 0 0))]) (cs:=kC k.l k.ops k.ps) 0 rfl rfl (r0:=an .i64 (gM k.l k.ps)) rfl (λK hK=>AO k.l hk.ll k.ops k.ps K hK) ?_
 refine aL (λh3=>?_) (λh3=>?_)
 .rw[if_pos h3];exact MD iK
 rw[if_neg h3];obtain⟨c,hc⟩:∃c:Nat,gM k.l k.ps=(c:Int):=⟨(gM k.l k.ps).toNat,om⟩;obtain⟨eB,_,hc8,_⟩:=oI k.l k.ps 8 0 c hc (aaj _);rw[hc,show((n:Nat):Int).toNat=n from rfl,show((c:Nat):Int).toNat=c from rfl];refine iI k.l k.ops k.ps ⟨hk.ll,λo ho=>(hk.sm o ho).nT⟩ hk.lo hk.lp hk.sl hk.ne ?_
 refine bp (λm9=>?_) (λm9=>?_)
 .have m9:c=k.ps.length:=by have m9:(c:Int)=((af (k.ps.map bl.enc)).length:Int):=m9;rw[be,ML]at m9;omega
  have Z2:gT k.ps n c=(k.ps++ [f9]).set c ⟨true,k.ps[n].fenced,0,k.ps[n].aV⟩:=by rw[gT,uX hn];simp only[];rw[if_pos m9,m9];simp
  rw[Z2];refine⟨by simp only[bV,be,ML,aah,abv];omega,?_⟩
  have ei:=Rx k hk Fh (k.ps++ [f9]) (λx hx=>by
   rcases abD.1 hx with hx|hx
   .exact hk.sl x hx
   .simp at hx;subst hx;simp[f9]) (by simp;omega) n hn (by simp;omega) c (by simp;omega)
  refine⟨_,View.o1 8 [0,1,2,3,7,5] [] ?_,ei⟩
  .exact .pt rfl rfl (.eq rfl (by simp[kC])) (.pe rfl rfl rfl (.pr rfl rfl rfl (.pr rfl rfl rfl (.pt rfl rfl (Wd k.ps f9 (.fy (.aO 3)) (by simp[bV,af,CC.aU,f9])) (.pm rfl rfl rfl)))))
 .have aD:c<k.ps.length:=by have m9:¬(c:Int)=((af (k.ps.map bl.enc)).length:Int):=m9;rw[be,ML]at m9;omega
  have Z2:gT k.ps n c=k.ps.set c ⟨true,k.ps[n].fenced,0,k.ps[n].aV⟩:=by rw[gT,uX hn];simp only[];rw[if_neg om]
  rw[Z2];have ei:=Rx k hk Fh k.ps hk.sl hk.lp n hn hn c aD;refine⟨_,View.o1 6 [0,1,2,3,4,5] [] ?_,ei⟩
  .exact .pt rfl rfl (.eq rfl (by simp[kC])) (.pe rfl rfl rfl (.pr rfl rfl rfl (.pr rfl rfl rfl (.pr rfl rfl rfl (.pm rfl rfl rfl)))))
theorem Hm(k:Kr)(hk:dF k.l k.ops k.ps)(Fh:k.l.length<=4194303)(p:Int){m:Mem}{K:CV->Mem->Prop}(h:K (Hl (gD k p)) m):aq prog 77 [d9 k.l k.ops k.ps,an .i64 p] m K:=
 bg (b8 func77 l77 (I0 k hk Fh p)) (by simp[d9,db,eN,gd,an,CV.du,CC.du,RV.du]) λr m1 hf=>⟨_,hf,h⟩
def c62:LF:= ⟨40,[.tmp 6,.tmp 7],(.seq (.ai [qu 6 (.aK qe),qu 7 (.aK (qi 0))]) (.seq (.ai [qm 12 0,qm 13 1,qu 14 (qc 73 [12,13]),qm 11 14,qu 15 (.ext 11 0),qu 16 (.ext 11 1),qu 8 (.alloc [qd 0,qd 0]),qw (.store 2 8 15),qm 9 16]) (.seq (.block 0 (.seq (.ai [qm 18 9,qu 19 (.aJ .neq 18 (qi 0)),qm 17 19]) (.cond 17 (.seq (.ai [qm 20 9,qu 6 (.aK qe),qm 7 20]) .ret) (.seq (.ai [qm 22 2,qu 23 (qc 54 [22]),qu 24 (.un .not 23),qm 21 24]) (.cond 21 (.seq (.ai [qu 6 (.aK qe),qu 7 (.aK (qi 3))]) .ret) (.seq (.ai [qm 26 2,qf 27 1 8,ql 28 27,qu 29 (qc 101 [26,28]),qu 30 (.un .not 29),qm 25 30]) (.cond 25 (.seq (.ai [qu 6 (.aK qe),qu 7 (.aK (qi 10))]) .ret) .skip))))))) (.seq (.ai [qm 31 0,qu 32 (qc 100 [31]),qm 10 32]) (.seq (.ai [qm 33 10,qm 34 1,qm 35 2,qu 36 (.cw 3 33 34),qf 37 1 36,qf 38 1 37,qw (.store 1 38 35)]) (.seq (.ai [qm 39 10,qm 6 39,qu 7 (.aK (qi 0))]) .ret))))))⟩
namespace Tb
theorem l62:bu prog f62=some c62:=by kernel_rfl
def yk(l:List bU)(fd n:Int):List bU×Int:=
 if(ec l fd).2=0 then
  if eV n=false then([],3)else if gW n (ec l fd).1.b9=false then([],10)else(l.set fd.toNat ⟨true,⟨(ec l fd).1.dP,n⟩⟩,0)
 else([],(ec l fd).2)
theorem Fi(l:List bU)(hb:l.length<=2097152)(fd n:Int):body prog c62 [dQ l,an .i64 fd,an .i64 n] [] (λr m=>cQ m r (.bz [jo (yk l fd n).1,cK (yk l fd n).2])):=by
 refine wD l fd ?_;refine aM (λh=>?_) (λh=>?_)
 .have h:¬(ec l fd).2=0:=by simpa using h
  rw[yk,if_neg h];exact kq (.one (.aO 3))
 .have h:(ec l fd).2=0:=by simpa using h
  rw[yk,if_pos h];refine wF n ?_;refine aM (λh1=>?_) (λh1=>?_)
  .have h1:eV n=false:=by simpa using h1
   rw[if_pos h1];exact kq (.one (.aO 3))
  .have h1:eV n=true:=by simpa using h1
   rw[if_neg (by simp[h1])]
   refine ze _ _ ?_;refine aM (λh2=>?_) (λh2=>?_)
   .have h2:gW n (ec l fd).1.b9=false:=by simpa using h2
    rw[if_pos h2];exact kq (.one (.aO 3))
   .have h2:gW n (ec l fd).1.b9=true:=by simpa using h2
    rw[if_neg (by simp[h2])]
    obtain⟨d,rfl,hd,Wm,bc⟩:=Hi h;rw[show((d:Nat):Int).toNat=d from rfl];refine ph l hb (λhl=>by subst hl;simp at hd) ?_
    refine ag (cr (k:=d) (by simp[ce,lenOf];omega)) ?_
    refine ag (x:=(l[d].enc).map .aa) (by simp[aT,ce,ip,hd]) ?_
    refine kq (.one ?_);have e:aW (ce l) d [CC.aa (.val (.bool l[d].has)),CC.aa (.val (.int .i64 l[d].cap.dP)),CC.aa (.val (.int .i64 n))]=af ((l.set d ⟨true,⟨(ec l d).1.dP,n⟩⟩).map bU.enc):=by rw[a8,Wm,bc];simp[ce,af,bU.enc]
    exact eT.eU (congrArg (λx=>some (Bk.row 3 x)) e) 0 none
theorem MF(l:List bU)(hb:l.length<=2097152)(fd n:Int){m:Mem}{K:CV->Mem->Prop}(h:K (.bz [jo (yk l fd n).1,cK (yk l fd n).2]) m):aq prog 62 [dQ l,an .i64 fd,an .i64 n] m K:=
 bg (aY func62 l62 (Fi l hb fd n)) (by simp[dQ,an,CV.du,CC.du]) λr m1 hf=>⟨_,hf,h⟩
end Tb
def c134:LF:= ⟨49,[.tmp 6,.tmp 7],(.seq (.ai [qu 6 (.aK (qi 0)),qu 7 (.aK (qb false))]) (.seq (.ai [qm 12 0,qu 13 (.len 1 12),qm 8 13]) (.seq (.ai [qm 14 8,qu 9 (.aK (qi 0)),qm 10 14]) (.seq (.block 0 (.loop (.seq (.seq (.ai [qm 15 9,qm 16 10,qu 17 (.aJ .lss 15 16)]) (.cond 17 .skip (.exit 0))) (.block 1 (.seq (.ai [qm 18 9,qm 19 10,qu 20 (.aJ .add 18 19),qu 21 (.conv .u64 20),qu 22 (.aJ .shr 21 (.c (.rv (.one (.aa (.val (.int .u64 (1)))))))),qu 23 (.conv .i64 22),qm 11 23]) (.seq (.ai [qm 24 2,qm 25 0,qm 26 11,qu 27 (.cw 2 25 26),qL 28 2 27,qm 29 1,qu 30 (.call 24 [28,29]),qu 31 (.aJ .lss 30 (qi 0))]) (.cond 31 (.ai [qm 32 11,qu 33 (.aJ .add 32 (qi 1)),qm 9 33]) (.ai [qm 34 11,qm 10 34])))))))) (.seq (.ai [qm 35 9,qm 36 9,qm 37 8,qu 38 (.aJ .lss 36 37),qm 39 38,qg 40 (.aK 2) 39 true,qg 41 (.aK 0) 39 true,qg 42 (.aK 9) 39 true,qg 43 (.cw 2 41 42) 39 true,qg 44 (.load true 2 43) 39 true,qg 45 (.aK 1) 39 true,qg 46 (.call 40 [44,45]) 39 true,qg 47 (.aJ .eql 46 (qi 0)) 39 true,qu 48 (.pick 39 47 (qb false)),qm 6 35,qm 7 48]) .ret)))))⟩
def c135:LF:= ⟨9,[.tmp 4],(.seq (.ai [qu 2 (.box 0),qu 4 (.aK (qi 0))]) (.seq (.ai [qf 5 0 2,ql 6 5,qm 7 1,qu 8 (qc 136 [6,7]),qm 4 8]) .ret))⟩
def c136:LF:= ⟨20,[.tmp 4],(.seq (.ai [qu 4 (.aK (qi 0))]) (.seq (.ai [qm 7 0,qu 8 (qc 150 [7]),qm 5 8]) (.seq (.ai [qm 9 1,qu 10 (qc 150 [9]),qm 6 10]) (.seq (.seq (.ai [qm 11 5]) (.cond 11 (.seq (.seq (.ai [qm 12 6]) (.cond 12 (.seq (.ai [qu 4 (.aK (qi 0))]) .ret) .skip)) (.seq (.ai [qu 4 (.aK (qi (-1)))]) .ret)) .skip)) (.seq (.seq (.ai [qm 13 6]) (.cond 13 (.seq (.ai [qu 4 (.aK (qi 1))]) .ret) .skip)) (.seq (.seq (.ai [qm 14 0,qm 15 1,qu 16 (.aJ .lss 14 15)]) (.cond 16 (.seq (.ai [qu 4 (.aK (qi (-1)))]) .ret) .skip)) (.seq (.seq (.ai [qm 17 0,qm 18 1,qu 19 (.aJ .gtr 17 18)]) (.cond 19 (.seq (.ai [qu 4 (.aK (qi 1))]) .ret) .skip)) (.seq (.ai [qu 4 (.aK (qi 0))]) .ret))))))))⟩
def c150:LF:= ⟨6,[.tmp 2],(.seq (.ai [qu 2 (.aK (qb false))]) (.seq (.ai [qm 3 0,qm 4 0,qu 5 (.aJ .neq 3 4),qm 2 5]) .ret))⟩
theorem l150:bu prog f150=some c150:=by kernel_rfl
theorem l136:bu prog f136=some c136:=by kernel_rfl
theorem l135:bu prog f135=some c135:=by kernel_rfl
theorem l134:bu prog f134=some c134:=by kernel_rfl
def Ry(a b:ByteArray):Bool:=Op.bytesLess a.toList b.toList
def Uw(a b:ByteArray):Bool:= !(Op.bytesLess a.toList b.toList||a.toList==b.toList)
def kZ(a b:ByteArray):Int:=if Ry a b=true then -1 else if Uw a b=true then 1 else 0
theorem MG(a:ByteArray):body prog c150 [eL a] [] (λr m=>r=aE false):=by show aE (!(a.toList==a.toList))=aE false;simp
theorem MH(a:ByteArray){m:Mem}{K:CV->Mem->Prop}(h:K (aE false) m):aq prog 150 [eL a] m K:=
 bv func150 l150 rfl (aae rfl) (MG a) rfl rfl h
theorem MI(a b:ByteArray):body prog c136 [eL a,eL b] [] (λr m=>r=an .i64 (kZ a b)):=by
 refine MH a ?_;refine MH b ?_;refine aM (λh1=>?_) (λh1=>?_)
 .show an _ _=an _ _;rw[kZ,if_pos (show Ry a b=true from h1)]
 refine aM (λh2=>?_) (λh2=>?_)
 .show an _ _=an _ _;rw[kZ,if_neg (by rw[show Ry a b=false from h1];simp),if_pos (show Uw a b=true from h2)]
 .show an _ _=an _ _;rw[kZ,if_neg (by rw[show Ry a b=false from h1];simp),if_neg (by rw[show Uw a b=false from h2];simp)]
theorem MJ(a b:ByteArray){m:Mem}{K:CV->Mem->Prop}(h:K (an .i64 (kZ a b)) m):aq prog 136 [eL a,eL b] m K:=
 bv func136 l136 rfl (aae rfl) (MI a b) rfl rfl h
def cX(e:ByteArray×Int):List Dt:=[.val (.string e.1),.val (.int .i64 e.2)]
def wI(e:ByteArray×Int):CV:= .rv (.agg ((cX e).map .aa))
theorem Fj(e:ByteArray×Int)(s:ByteArray):body prog c135 [wI e,eL s] [] (λr m=>r=an .i64 (kZ e.1 s)):=
 MJ e.1 s rfl
theorem Rz(e:ByteArray×Int)(s:ByteArray){m:Mem}{K:CV->Mem->Prop}(h:K (an .i64 (kZ e.1 s)) m):aq prog 135 [wI e,eL s] m K:=
 bv func135 l135 rfl (aae rfl) (Fj e s) rfl rfl h
def I1(es:List (ByteArray×Int))(s:ByteArray):Nat->Nat->Nat->Nat
 |0,i,_=>i
 |n+1,i,j=>if i<j then(match es[(i+j)/2]? with
   |some e=>if kZ e.1 s<0 then I1 es s n ((i+j)/2+1) j else I1 es s n i ((i+j)/2)
   |none=>i)else i
def qy(es:List (ByteArray×Int))(s:ByteArray):Nat:=I1 es s es.length 0 es.length
def AS(es:List (ByteArray×Int))(s:ByteArray):Bool:=match es[qy es s]? with|some e=>kZ e.1 s==0|none=>false
structure Z3 where
 i:Nat
 j:Nat
theorem oJ{es:List (ByteArray×Int)}{k:Nat}(h:k<es.length):dx (es.map cX) (k:Nat)=some [.val (.string es[k].1),.val (.int .i64 es[k].2)]:=by rw[bA,RA,uX h];rfl
theorem Fk{i j:Nat}(h:i+j<=4294967296):IntKind.i64.wrap ((IntKind.u64.wrap (IntKind.i64.wrap ((i:Int)+(j:Int)))).fdiv (2^(min (1:Int).toNat IntKind.u64.bits)))=(((i+j)/2:Nat):Int):=by
 rw[show(i:Int)+(j:Int)=((i+j:Nat):Int) by omega,nI om]
 have hu:IntKind.u64.wrap ((i+j:Nat):Int)=((i+j:Nat):Int):=by simp only[IntKind.wrap,IntKind.bits,IntKind.signed];simp;omega
 rw[hu,show(2:Int)^(min (1:Int).toNat IntKind.u64.bits)=((2:Nat):Int)from rfl];rw[show(((i+j:Nat):Int)).fdiv ((2:Nat):Int)=(((i+j)/2:Nat):Int) by rw[Int.fdiv_eq_ediv_of_nonneg _ om];exact(Int.natCast_ediv _ _).symm]
 rw[nI om]
theorem PF(es:List (ByteArray×Int))(hl:es.length<=2147483648)(s:ByteArray)(F:Nat)(hF:∀(e:ByteArray×Int)(m:Mem)(K:CV->Mem->Prop),K (an .i64 (kZ e.1 s)) m->aq prog F [wI e,eL s] m K):
  body prog c134 [rI 2 (es.map cX),eL s,.rv (.one (.fn F []))] [] (λr m=>r= .bz [.one (.aa (.val (.int .i64 (qy es s:Nat)))),.one (.aa (.val (.bool (AS es s))))]):=by
 refine bb (λa:Z3=>a.i<=a.j/\a.j<=es.length/\∃n,a.j-a.i<=n/\I1 es s n a.i a.j=qy es s) [0,1,2] (λa=>[(8,an .i64 (es.length:Nat)),(9,an .i64 (a.i:Nat)),(10,an .i64 (a.j:Nat))]) (λ_=>[]) (λa=>a.j-a.i) ⟨0,es.length⟩ ⟨aaj _,Ts _,es.length,aC,rfl⟩ ?_ (λa ha=>?_)
 .refine View.o 0 [] [] ?_ (.nil _);have hlen:an .i64 (((es.map cX).length:Nat):Int)=an .i64 ((es.length:Nat):Int):=by rw[ML]
  repeat(first|exact .nil|refine .ap ?_|refine .eq rfl ?_|refine .eq hlen.symm ?_)
 obtain⟨i,j⟩:=a;obtain⟨h1,h2,n,h3,h4⟩:=ha;have h1:i<=j:=h1;have h2:j<=es.length:=h2;have h3:j-i<=n:=h3;have h4:I1 es s n i j=qy es s:=h4;refine aL (λh=>?_) (λh=>?_)
 .have aD:i<j:=by have h:(i:Int)<(j:Int):=h;omega
  obtain⟨n,rfl⟩:∃n',n=n'+1:=⟨n-1,om⟩;have hh:(i+j)/2<es.length:=om;rw[I1,if_pos aD,uX hh]at h4;have d7:dx (es.map cX) (IntKind.i64.wrap ((IntKind.u64.wrap (IntKind.i64.wrap ((i:Int)+(j:Int)))).fdiv (2^(min (1:Int).toNat IntKind.u64.bits))))=some [.val (.string es[(i+j)/2].1),.val (.int .i64 es[(i+j)/2].2)]:=by rw[Fk om];exact oJ hh
  refine ag d7 ?_;refine hF es[(i+j)/2] _ _ ?_;refine aL (λh5=>?_) (λh5=>?_)
  .have h5:kZ es[(i+j)/2].1 s<0:=h5;simp only[]at h4;rw[if_pos h5]at h4;refine⟨⟨(i+j)/2+1,j⟩,⟨by show(i+j)/2+1<=j;omega,h2,n,by show j-((i+j)/2+1)<=n;omega,h4⟩,(show j-((i+j)/2+1)<j-i by omega),View.o 0 [] [] ?_ (.nil _)⟩
   have e1:an .i64 (IntKind.i64.wrap (IntKind.i64.wrap ((IntKind.u64.wrap (IntKind.i64.wrap ((i:Int)+(j:Int)))).fdiv (2^(min (1:Int).toNat IntKind.u64.bits)))+1))=an .i64 (((i+j)/2+1:Nat):Int):=by
    rw[Fk om,show(((i+j)/2:Nat):Int)+1=(((i+j)/2+1:Nat):Int) by omega,nI om]
   repeat(first|exact .nil|refine .ap ?_|refine .eq rfl ?_|refine .eq e1.symm ?_)
  .have h5:¬kZ es[(i+j)/2].1 s<0:=h5;simp only[]at h4;rw[if_neg h5]at h4;refine⟨⟨i,(i+j)/2⟩,⟨by show i<=(i+j)/2;omega,by show(i+j)/2<=es.length;omega,n,by show(i+j)/2-i<=n;omega,h4⟩,(show(i+j)/2-i<j-i by omega),View.o 0 [] [] ?_ (.nil _)⟩
   have e1:an .i64 (IntKind.i64.wrap ((IntKind.u64.wrap (IntKind.i64.wrap ((i:Int)+(j:Int)))).fdiv (2^(min (1:Int).toNat IntKind.u64.bits))))=an .i64 (((i+j)/2:Nat):Int):=by rw[Fk om]
   repeat(first|exact .nil|refine .ap ?_|refine .eq rfl ?_|refine .eq e1.symm ?_)
 .have rh:i=j:=by have h:¬(i:Int)<(j:Int):=h;omega
  subst rh;have hI:qy es s=i:=by
   rw[<-h4];cases n with
   |zero=>rfl
   |succ n=>rw[I1,if_neg (Nat.lt_irrefl _)]
  rw[AS,hI];refine aL (λh6=>?_) (λh6=>?_)
  .have aD:i<es.length:=by have h6:(i:Int)<(es.length:Int):=h6;omega
   refine ag (oJ aD) ?_;refine hF es[i] _ _ ?_;show CV.bz _=CV.bz _;rw[uX aD]
  .have d7:¬i<es.length:=by have h6:¬(i:Int)<(es.length:Int):=h6;omega
   show CV.bz _=CV.bz _;rw[aaZ om]
def Ya(es:List (ByteArray×Int))(s:ByteArray):CV:= .bz [.one (.aa (.val (.int .i64 (qy es s:Nat)))),.one (.aa (.val (.bool (AS es s))))]
theorem MK(es:List (ByteArray×Int))(hl:es.length<=2147483648)(s:ByteArray)(F:Nat)(hF:∀(e:ByteArray×Int)(m:Mem)(K:CV->Mem->Prop),K (an .i64 (kZ e.1 s)) m->aq prog F [wI e,eL s] m K){m:Mem}{K:CV->Mem->Prop}(h:K (Ya es s) m):aq prog 134 [rI 2 (es.map cX),eL s,.rv (.one (.fn F []))] m K:=by
 refine bg (K0:=λr _=>r=Ya es s) (aY func134 l134 (PF es hl s F hF)) (by simp[rI,eL,CV.du,CC.du,RV.du]) λr m1 hr=>?_
 subst hr;exact⟨_,cQ.self rfl,h⟩
theorem Td(es:List (ByteArray×Int))(hl:es.length<=2147483648)(s:ByteArray)(F:Nat)(hF:∀(e:ByteArray×Int)(m:Mem)(K:CV->Mem->Prop),K (an .i64 (kZ e.1 s)) m->aq prog F [wI e,eL s] m K){m:Mem}{id:Nat}(hb:cD m id=some (.row 2 (af (es.map cX)))){K:CV->Mem->Prop}(h:K (Ya es s) m):aq prog 134 [.rv (.one (.row id 2 0 none)),eL s,.rv (.one (.fn F []))] m K:=
 LP [id] (args0:=[rI 2 (es.map cX),eL s,.rv (.one (.fn F []))]) (MK es hl s F hF (K:=λr _=>r=Ya es s) rfl) (.put (qQ.fy id (es.map cX) (by simp[bw]) hb) (.eq rfl (.eq rfl .nil))) λr m1 hr=>by subst hr;exact⟨rfl,h⟩
def Tryz.CW:Go.Shelf.Ren:=⟨λ|143=>149|219=>154|217=>156|225=>157|224=>158|267=>159|266=>161|314=>162|n=>n,λ|9=>9|3=>3|4=>4|5=>5|46=>127|146=>267|51=>187|n=>n,λ|1=>0|n=>n⟩
theorem Tryz.PG:Go.Proofs.Lays.n143 prog Tryz.CW:={
 mixed:=by kernel_rfl,
 f143:=func149.trans (congrArg some (by kernel_rfl)),
 f217:=func156.trans (congrArg some (by kernel_rfl)),
 f219:=func154.trans (congrArg some (by kernel_rfl)),
 f224:=func158.trans (congrArg some (by kernel_rfl)),
 f225:=func157.trans (congrArg some (by kernel_rfl)),
 f266:=func161.trans (congrArg some (by kernel_rfl)),
 f267:=func159.trans (congrArg some (by kernel_rfl)),
 f314:=func162.trans (congrArg some (by kernel_rfl)),
 t3:=underlying3,
 a3:=isAgg3,
 z3:=sizeOf3,
 v3:=zeroValue3,
 t4:=underlying4,
 a4:=isAgg4,
 z4:=sizeOf4,
 v4:=zeroValue4,
 t5:=underlying5,
 a5:=isAgg5,
 z5:=sizeOf5,
 v5:=zeroValue5,
 t9:=underlying9,
 a9:=isAgg9,
 z9:=sizeOf9,
 v9:=zeroValue9,
 t46:=underlying127,
 a46:=isAgg127,
 z46:=sizeOf127,
 v46:=zeroValue127,
 t51:=underlying187,
 a51:=isAgg187,
 z51:=sizeOf187,
 v51:=zeroValue187,
 t146:=underlying267,
 a146:=isAgg267,
 z146:=sizeOf267,
 v146:=zeroValue267,
 g1:=by kernel_rfl}
def Tryz.uF:Go.Shelf.Ren:=⟨λ|156=>64|165=>102|166=>103|169=>104|240=>129|241=>130|276=>145|277=>146|n=>n,λ|31=>146|9=>9|3=>3|4=>4|0=>0|20=>20|72=>198|76=>202|70=>196|37=>23|75=>201|127=>241|164=>252|5=>5|80=>204|n=>n,λ|n=>n⟩
theorem Tryz.Hn:Go.Proofs.Lays.n156 prog Tryz.uF:={
 mixed:=by kernel_rfl,
 f156:=func64.trans (congrArg some (by kernel_rfl)),
 f165:=func102.trans (congrArg some (by kernel_rfl)),
 f166:=func103.trans (congrArg some (by kernel_rfl)),
 f169:=func104.trans (congrArg some (by kernel_rfl)),
 f240:=func129.trans (congrArg some (by kernel_rfl)),
 f241:=func130.trans (congrArg some (by kernel_rfl)),
 f276:=func145.trans (congrArg some (by kernel_rfl)),
 f277:=func146.trans (congrArg some (by kernel_rfl)),
 t0:=underlying0,
 a0:=isAgg0,
 z0:=sizeOf0,
 v0:=zeroValue0,
 t3:=underlying3,
 a3:=isAgg3,
 z3:=sizeOf3,
 v3:=zeroValue3,
 t4:=underlying4,
 a4:=isAgg4,
 z4:=sizeOf4,
 v4:=zeroValue4,
 t9:=underlying9,
 a9:=isAgg9,
 z9:=sizeOf9,
 v9:=zeroValue9,
 t20:=underlying20,
 a20:=isAgg20,
 z20:=sizeOf20,
 v20:=zeroValue20,
 t31:=underlying146,
 a31:=isAgg146,
 z31:=sizeOf146,
 v31:=zeroValue146,
 t37:=underlying23,
 a37:=isAgg23,
 z37:=sizeOf23,
 v37:=zeroValue23,
 t70:=underlying196,
 a70:=isAgg196,
 z70:=sizeOf196,
 v70:=zeroValue196,
 t72:=underlying198,
 a72:=isAgg198,
 z72:=sizeOf198,
 v72:=zeroValue198,
 t75:=underlying201,
 a75:=isAgg201,
 z75:=sizeOf201,
 v75:=zeroValue201,
 t76:=underlying202,
 a76:=isAgg202,
 z76:=sizeOf202,
 v76:=zeroValue202,
 t127:=underlying241,
 a127:=isAgg241,
 z127:=sizeOf241,
 v127:=zeroValue241,
 t164:=underlying252,
 a164:=isAgg252,
 z164:=sizeOf252,
 v164:=zeroValue252}
theorem Tryz.Ho:Builder.Extra prog Tryz.uF:={
 sizeBuilder:=by kernel_rfl,
 liesBuilder:=by kernel_rfl,
 t5:=underlying5,
 a5:=isAgg5,
 z5:=sizeOf5,
 v5:=zeroValue5,
 infoByte:=by kernel_rfl,
 cellsByte:=by kernel_rfl,
 sizeByte:=by kernel_rfl,
 neB5:=by decide}
namespace bK
theorem I2(s:ByteArray)(c:UInt8)(w:World):Calls prog 149 #[.string s,.string ⟨#[c]⟩] w λe w'=>e= .returned (.int .i64 (Lib.indexByte s.data.toList c))/\w'=w:=
 Any.strings_Index_one Tryz.PG s c w
end bK
theorem I3(a:Option Addr)(c:Nat)(sep:ByteArray)(w:World):Calls prog 64 #[.slice a 0 c,.string sep] w λe w'=>e= .returned (.string ⟨#[]⟩)/\w'=w:=
 Any.strings_Join_none Tryz.Hn Tryz.Ho a c sep w
theorem PH(bk o c:Nat)(xs:List ByteArray)(sep:ByteArray)(w:World)(dD:∀(j:Nat)x,xs[j]? =some x->w.cell? ⟨bk,o+j,none⟩=some (.string x))(de:bk<w.heap.size)(hN:xs.length<=140737488355328)(bc:xs.length<=c)(hlen:(Lib.join (xs.map (·.data.toList)) sep.data.toList).length<=140737488355328):
  Calls prog 64 #[.slice (some ⟨bk,o,none⟩) xs.length c,.string sep] w λe w'=>e= .returned (.string ⟨(Lib.join (xs.map (·.data.toList)) sep.data.toList).toArray⟩)/\Below w.heap.size w w':=
 Any.strings_Join Tryz.Hn Tryz.Ho bk o c xs sep w dD de hN bc hlen
end Go.Proofs.YtodckkkbiidffaaGreatDoor
namespace Go.Proofs.YtodckkkbiidffaaGreatDoor
open Go.AM Go.ChangeShapes Go.WideShapes Go.ChangeAt Go.RowKit
namespace bK
attribute [local go_sem] Oper.semAt_some
def gN(c:UInt8):List UInt8->List (List UInt8)
 | []=>[[]]
 |x::r=>if x==c then []::gN c r else match gN c r with
  | []=>[[x]]
  |p::ps=>(x::p)::ps
theorem tG{c:UInt8}:∀{l:List UInt8},Lib.indexByte l c= -1->gN c l=[l]
 | [],_=>rfl
 |x::r,h=>by
  simp only[Lib.indexByte]at h;split at h
  .cases h
  .rename_i hx;split at h
   .rename_i h2;have Kc:Lib.indexByte r c= -1:=by simpa using h2
    simp only[gN,hx,tG Kc,abQ,if_false]
   .have:=Lib.indexByte_ge r c;omega
theorem zk{c:UInt8}:∀{l:List UInt8}{i:Nat},Lib.indexByte l c=i->i<l.length/\gN c l=l.take i::gN c (l.drop (i+1))
 | [],i,h=>by simp[Lib.indexByte]at h
 |x::r,i,h=>by
  simp only[Lib.indexByte]at h;split at h
  .rename_i hx;have:i=0:=om;subst this;simp[gN,hx]
  .rename_i hx;split at h
   .omega
   .cases i with
    |zero=>
     have:=Lib.indexByte_ge r c;rename_i h2;have:Lib.indexByte r c= -1:=om;simp[this]at h2
    |succ i=>
     have h3:Lib.indexByte r c=i:=om;obtain⟨h4,h5⟩:=zk h3;refine⟨by simpa using h4,?_⟩
     simp only[gN,hx,h5,abQ,if_false];simp
def cF(l:List UInt8):ByteArray:=⟨l.toArray⟩
def g9(c:UInt8)(s:ByteArray):List ByteArray:=(gN c s.data.toList).map cF
end bK
end Go.Proofs.YtodckkkbiidffaaGreatDoor
namespace Go.Proofs.YtodckkkbiidffaaGreatDoor
open Proofs.Tryz
open Go.AM Go.ChangeShapes Go.WideShapes Go.ChangeAt Go.RowKit
namespace bK
attribute [local go_sem] Oper.semAt_some
def AT(w:World)(b o:Nat):Nat:=match w.cell? ⟨b,o,none⟩with|some (.string s)=>s.size|_=>0
theorem wJ{w:World}{b o:Nat}{s:ByteArray}(h:w.cell? ⟨b,o,none⟩=some (.string s)):AT w b o=s.size:=by simp[AT,h]
@[simp] theorem pj(r:List UInt8):(cF r).data.toList=r:=rfl
@[simp] theorem mV(r:List UInt8):(cF r).size=r.length:=by simp[cF,ByteArray.size]
theorem rX(r:List UInt8)(a b:Nat)(hb:b<=r.length):(cF r).extract a b=cF ((r.take b).drop a):=by apply ByteArray.ext;simp[cF,ByteArray.data_extract,List.drop_take]
def Z4(F:Fence)(n:Nat)(P:Program)(l:Nat)(args:Array Value)(W:World)(R:Ending->World->Prop):Prop:=
 ∃fn tmps assign body,(Instr.yield l args).run P W= .ok (.round l fn tmps assign body) W/\RoundIn F n P l fn tmps assign body W R
theorem Fl(F:Fence)(n:Nat)(h49:F.fn 147)(h51:F.fn 149)(hro:F.round=none)(hn:3<=n)(s:ByteArray)(c:UInt8)(l b1 o1 b2 o2 b3 o3:Nat)(W:World)(J:Nat->World->Prop)(Jx:World->Prop)(n12:b1≠b2)(n13:b1≠b3)(n23:b2≠b3)(hix:∀(s:ByteArray)(w:World),CallsIn F (n-1) prog 149 #[.string s,.string ⟨#[c]⟩] w λe w'=>e= .returned (.int .i64 (Lib.indexByte s.data.toList c))/\w'=w)(c1:W.cell? ⟨b1,o1,none⟩=some (.string ⟨#[c]⟩))(c2:W.cell? ⟨b2,o2,none⟩=some (.string s))(f2:W.frozen? ⟨b2,o2,none⟩=false)(c3:W.cell? ⟨b3,o3,none⟩=some (.int .i64 0))(hJ:∀k W v,J k W->J k (W.setCell ⟨b2,o2,none⟩ v))(hY:∀k y W,(g9 c s)[k]? =some y->J k W->Z4 F (n-1) prog l #[.string y] W λe W'=>
   (e= .returned (.bool true)/\J (k+1) W'/\W'.heap[b1]? =W.heap[b1]? /\W'.heap[b2]? =W.heap[b2]? /\W'.heap[b3]? =W.heap[b3]?)\/(e= .returned (.bool false)/\Jx W'))(h0:J 0 W)(hsz:(s.size:Int)<4611686018427387904):
  CallsIn F n prog 147 #[.func (.yield l) #[] #[],.pointer (some ⟨b1,o1,none⟩),.pointer (some ⟨b2,o2,none⟩),.pointer (some ⟨b3,o3,none⟩)] W λe W'=>
   (∃v,e= .returned v)/\(J (g9 c s).length W'\/Jx W'):=by
 have h1:1<=n:=om;refine callsIn_of_wp func147 rfl h49 ?_ hro;simp only[ntmps147,List.size_toArray,aah,abv,Nat.reduceAdd,Nat.reduceSub,Array.replicate_succ,Array.replicate_zero,List.push_toArray,List.append_toArray,adm,adg]
 gi_wp2
 gi_loopw [] (λwr=>∃(k:Nat)(r:List UInt8),wr.cell? ⟨b2,o2,none⟩=some (.string (cF r))/\wr.frozen? ⟨b2,o2,none⟩=false/\wr.cell? ⟨b1,o1,none⟩=some (.string ⟨#[c]⟩)/\
   wr.cell? ⟨b3,o3,none⟩=some (.int .i64 0)/\(g9 c s).drop k=(gN c r).map cF/\J k wr/\r.length<=s.size) (λwr=>AT wr b2 o2)
 case atStart=>
  exact⟨0,s.data.toList,by rw[c2];rfl,f2,c1,c3,rfl,h0,by show s.data.toList.length<=s.data.size;rw[abS];exact Ts _⟩
 case round=>
  obtain⟨k,r,d2,g2,d1,d3,hcut,hj,hlen⟩:=hrel;rcases Int.lt_or_le (Lib.indexByte r c) 0 with hneg|hpos
  .have hm1:Lib.indexByte r c= -1:=by have:=Lib.indexByte_ge r c;omega
   have hix:=(hix (cF r) wr).mono (R':=λe w'=>e= .returned (.int .i64 (-1))/\w'=wr) λe w'⟨h1,h2⟩=>⟨by rw[h1,pj,hm1],h2⟩
   have hk:(g9 c s)[k]? =some (cF r):=by
    have:=congrArg (λl=>l[0]?) hcut
    simp only[abp,tG hm1]at this;simpa using this
   have hlen2:(g9 c s).length=k+1:=by have h2:=congrArg List.length hcut;have h3:=(I4.1 hk).1;rw[tG hm1,abz]at h2;simp only[aa9,acX,aah,abv]at h2;omega
   obtain⟨fn,tmps,assign,body,hy,hR⟩:=hY k _ wr hk hj;have hfin:∀W,J (k+1) W->J (g9 c s).length W:=λW h=>hlen2▸h
   clear hY hJ hcut hneg hm1 hk c1 c2 f2 c3 h0 hlen2
   gi_wp2_with (gi_at_call 149;refine hix.mono ?_;rintro e w' ⟨rfl,rfl⟩)
   refine hR.mono ?_;rintro e W' (⟨rfl,hJ',_⟩|⟨rfl,hx⟩)
   .gi_wp2
    go_end0
    exact⟨⟨_,rfl⟩,.inl (hfin _ hJ')⟩
   .gi_wp2
    go_end0
    exact⟨⟨_,rfl⟩,.inr hx⟩
  .obtain⟨i,hi⟩:=Int.eq_ofNat_of_zero_le hpos;obtain⟨hlt,hcut2⟩:=zk hi;have hk:(g9 c s)[k]? =some (cF (r.take i)):=by
    have:=congrArg (λl=>l[0]?) hcut
    simp only[abp,hcut2]at this;simpa using this
   have hnext:(g9 c s).drop (k+1)=(gN c (r.drop (i+1))).map cF:=by have:=congrArg List.tail hcut;rw[hcut2,List.tail_drop]at this;simpa using this
   obtain⟨fn,tmps,assign,body,hy,hR⟩:=hY k _ wr hk hj;obtain⟨z,hz⟩:∃z:Int,z=(i:Int):=⟨_,rfl⟩;have hix:=(hix (cF r) wr).mono (R':=λe w'=>e= .returned (.int .i64 z)/\w'=wr) λe w'⟨h1,h2⟩=>⟨by rw[h1,pj,hi,hz],h2⟩
   have Hnext:Hid ((g9 c s).drop (k+1)=(gN c (r.drop (i+1))).map cF):=hnext;have HJ:Hid (∀k W v,J k W->J k (W.setCell ⟨b2,o2,none⟩ v)):=hJ;have Hz:Hid (z=(i:Int)):=hz;have z0:0<=z:=om;have z0':decide (z<0)=false:=decide_eq_false om;have z1:z<r.length:=om;have hw1:wrap64 z=z:=by unfold wrap64;omega
   have hw2:wrap64 (z+1)=z+1:=by unfold wrap64;omega
   have hs1:(0<=z/\z<=(r.length:Int))=True:=by simp;omega
   have hs2:(0<=z+1/\z+1<=(r.length:Int))=True:=by simp;omega
   have hs3:z<=(r.length:Int):=om;have hs4:0<=z+1:=om;have hs5:z+1<=(r.length:Int):=om;have he1:cF (r.take i)=(cF r).extract 0 z.toNat:=by rw[rX r _ _ om,hz];simp
   have he2:(cF r).extract (z+1).toNat r.length=cF (r.drop (i+1)):=by rw[rX r _ _ (Ts _),abe,hz];rfl
   have Hend:Hid (i<r.length/\r.length<=s.size/\(cF r).extract (z+1).toNat r.length=cF (r.drop (i+1))):=⟨hlt,hlen,he2⟩;rw[he1]at hy;clear hJ hY hcut hcut2 hi hk c1 c2 f2 c3 h0 hpos hnext hz hsz he1 he2 hlt hlen
   gi_wp2_with (first
    |(gi_at_call 149;refine hix.mono ?_;rintro e w' ⟨rfl,rfl⟩)
    |(refine wpIn_cond_false (by show Value.bool (decide (z<0))=Value.bool false;rw[z0']) ?_))
   refine hR.mono ?_;rintro e W' (⟨rfl,hJ',e1,e2,e3⟩|⟨rfl,hx⟩)
   .have q1:W'.cell? ⟨b1,o1,none⟩=some (.string ⟨#[c]⟩):=(World.cell?_of_block (a:=⟨b1,o1,none⟩) e1).trans d1;have q2:W'.cell? ⟨b2,o2,none⟩=some (.string (cF r)):=(World.cell?_of_block (a:=⟨b2,o2,none⟩) e2).trans d2;have q3:W'.cell? ⟨b3,o3,none⟩=some (.int .i64 0):=(World.cell?_of_block (a:=⟨b3,o3,none⟩) e3).trans d3;have q4:W'.frozen? ⟨b2,o2,none⟩=false:=by rw[<-g2];simp only[World.frozen?,e2]
    gi_wp2
    obtain⟨hlt,hlen,he2⟩:=Hend.out;have hq:(W'.cell? ⟨b2,o2,none⟩).isSome=true:=by rw[q2];rfl
    have hn2:=World.cell?_setCell_same' W' ⟨b2,o2,none⟩ (.string ((cF r).extract (z+1).toNat r.length)) hq;rw[he2]at hn2|-;refine⟨⟨k+1,r.drop (i+1),hn2,by rw[World.frozen?_setCell];exact q4,?_,?_,Hnext.out,HJ.out _ _ _ hJ',by simp;omega⟩,?_⟩
    .exact(World.cell?_setCell_other _ _ _ _ λe=>n12 (congrArg Addr.block e).symm).trans q1
    .exact(World.cell?_setCell_other _ _ _ _ λe=>n23 (congrArg Addr.block e)).trans q3
    .rw[wJ hn2,wJ d2,mV,mV,abz];omega
   .gi_wp2
    refine bodyPost_ret (results_none rfl _ _ _) rfl ?_;exact⟨⟨_,rfl⟩,.inr hx⟩
theorem qz(W:World)(a:Addr)(v:Value){b:Nat}(h:b≠a.block):(W.setCell a v).heap[b]? =W.heap[b]? :=by simp only[World.setCell,abx];rw[if_neg (λe=>h e.symm)]
theorem AU{n:Nat}{P:Program}{l:Nat}{f:FuncId}{tmps:Array Value}{assign body:Code}{w:World}{R:Ending->World->Prop}(h:RoundIn Fence.wide 0 P l f tmps assign body w R):
  RoundIn Fence.wide n P l f tmps assign body w R:=⟨h.1,λc cs _=>h.2 c cs (room_wide _)⟩
theorem I5(s:ByteArray)(c:UInt8)(hsz:(s.size:Int)<4611686018427387904):UT prog 147 [.string ⟨#[c]⟩,.string s,.int .i64 0] (g9 c s):=by
 refine⟨⟨f147,func147,rfl,by decide⟩,?_⟩
 intro l az W J Jx hlen hnd hcell hJ hJx hY h0
 match az,hlen with
 | [(b1,o1),(b2,o2),(b3,o3)],_=>
 obtain⟨c1,f1⟩:=hcell 0 _ _ rfl rfl;obtain⟨c2,f2⟩:=hcell 1 _ _ rfl rfl;obtain⟨c3,f3⟩:=hcell 2 _ _ rfl rfl;simp only[aa9,acX,abJ,aa1,acn,or_false,not_or,List.nodup_nil]at hnd;obtain⟨⟨n12,n13⟩,n23,_⟩:=hnd;show CallsIn Fence.wide 0 prog 147 #[.func (.yield l) #[] #[],.pointer (some ⟨b1,o1,none⟩),.pointer (some ⟨b2,o2,none⟩),.pointer (some ⟨b3,o3,none⟩)] W _;refine callsIn_wide.2 ((callsIn_wide (n:=5)).1 ?_);refine Fl Fence.wide 5 trivial trivial rfl om s c l b1 o1 b2 o2 b3 o3 W J Jx n12 n13 n23 (λs w=>callsIn_wide.2 (I2 s c w)) c1 c2 f2 c3 ?_ ?_ h0 hsz
 .intro k W v hj;exact hJ k W _ hj aC (λb _ hb=>qz _ _ _ (hb (b2,o2) aC)) rfl rfl rfl
 .intro k y W hk hj;obtain⟨fn,tmps,assign,body,hy,hR⟩:=hY k y W hk hj;refine⟨fn,tmps,assign,body,hy,(AU hR).mono λe W' h=>?_⟩
  rcases h with⟨he,h1,h2,h3⟩|⟨he,h1⟩
  .exact .inl ⟨he,h1,h3 (b1,o1) aC,h3 (b2,o2) aC,h3 (b3,o3) aC⟩
  .exact .inr ⟨he,h1⟩
end bK
def c106:LF:= ⟨52,[.tmp 2],(.seq (.ai [qu 2 (.aK (qb false))]) (.seq (.seq (.ai [qm 5 0,qu 6 (.len 0 5),qu 7 (.aJ .lss 6 (qi 1)),qm 8 7,qg 9 (.aK 0) 8 false,qg 10 (.len 0 9) 8 false,qg 11 (.aJ .gtr 10 (qi 12)) 8 false,qu 12 (.pick 8 (qb true) 11),qm 13 12,qg 14 (.aK 0) 13 false,qg 15 (.aJ .eql 14 (.c (.rv (.one (.aa (.val (.string ⟨#[46]⟩))))))) 13 false,qu 16 (.pick 13 (qb true) 15),qm 17 16,qg 18 (.aK 0) 17 false,qg 19 (.aJ .eql 18 (.c (.rv (.one (.aa (.val (.string ⟨#[46,46]⟩))))))) 17 false,qu 20 (.pick 17 (qb true) 19)]) (.cond 20 (.seq (.ai [qu 2 (.aK (qb false))]) .ret) .skip)) (.seq (.seq (.ai [qm 21 0,qu 22 (.len 0 21),qu 23 (.aK (qi 0))]) (.block 0 (.loop (.seq (.ai [qu 24 (.aJ .lss 23 22)]) (.seq (.cond 24 .skip (.exit 0)) (.seq (.block 1 (.seq (.ai [qm 25 23,qm 3 25]) (.seq (.ai [qm 26 0,qm 27 3,qu 28 (.BO 26 27),qm 4 28]) (.seq (.ai [qm 29 4,qu 30 (.aJ .lss 29 (.c (.rv (.one (.aa (.val (.int .u8 (97)))))))),qm 31 30,qg 32 (.aK 4) 31 false,qg 33 (.aJ .gtr 32 (.c (.rv (.one (.aa (.val (.int .u8 (122)))))))) 31 false,qu 34 (.pick 31 (qb true) 33),qm 35 34,qg 36 (.aK 4) 35 true,qg 37 (.aJ .lss 36 (.c (.rv (.one (.aa (.val (.int .u8 (48)))))))) 35 true,qg 38 (.aK 37) 35 true,qg 39 (.aK 4) 38 false,qg 40 (.aJ .gtr 39 (.c (.rv (.one (.aa (.val (.int .u8 (57)))))))) 38 false,qg 41 (.pick 38 (qb true) 40) 35 true,qu 42 (.pick 35 41 (qb false)),qm 43 42,qg 44 (.aK 4) 43 true,qg 45 (.aJ .neq 44 (.c (.rv (.one (.aa (.val (.int .u8 (46)))))))) 43 true,qu 46 (.pick 43 45 (qb false)),qm 47 46,qg 48 (.aK 4) 47 true,qg 49 (.aJ .neq 48 (.c (.rv (.one (.aa (.val (.int .u8 (95)))))))) 47 true,qu 50 (.pick 47 49 (qb false))]) (.cond 50 (.seq (.ai [qu 2 (.aK (qb false))]) .ret) .skip))))) (.ai [qu 51 (.aJ .add 23 (qi 1)),qm 23 51]))))))) (.seq (.ai [qu 2 (.aK (qb true))]) .ret))))⟩
namespace bK
abbrev dI:=List UInt8
def vT(t:dI):CV:=eL (cF t)
theorem AV(s:ByteArray):∃t:dI,s=cF t:=⟨s.data.toList,rfl⟩
theorem uG(t:dI):(cF t).toList=t:=ByteArray.toList_mk t
theorem k6{a b:dI}{A B:Prop}(ha:a=b->A)(hb:a≠b->B): @Bool.rec (λ_=>Prop) B A ((cF a).toList==(cF b).toList):=by
 rw[uG,uG];cases h:(a==b)
 .exact hb (by simpa using h)
 .exact ha (by simpa using h)
def MM(n:Nat):Bool:=(decide (97<=n)&&decide (n<=122))||(decide (48<=n)&&decide (n<=57))||decide (n=46)||decide (n=95)
def fL(t:dI):Bool:=decide (1<=t.length)&&decide (t.length<=12)&&decide (t≠[46])&&decide (t≠[46,46])&&t.all λc=>MM c.toNat
theorem Fm{t:dI}{k:Nat}(hk:k<t.length)(h:MM t[k].toNat=false):fL t=false:=by
 have:(t.all λc=>MM c.toNat)=false:=by
  rw[List.all_eq_false];exact⟨t[k],aal hk,by simp[h]⟩
 simp[fL,this]
theorem Fo{t:dI}(h1:1<=t.length)(h2:t.length<=12)(h3:t≠[46])(h4:t≠[46,46])(h:∀k(hk:k<t.length),MM t[k].toNat=true):fL t=true:=by
 have:(t.all λc=>MM c.toNat)=true:=by rw[aby];intro c hc;obtain⟨k,hk,rfl⟩:=List.mem_iff_getElem.1 hc;exact h k hk
 simp[fL,this,h1,h2,h3,h4]
theorem Ws{n:Nat}(h1:¬(97<=n/\n<=122))(h2:¬(48<=n/\n<=57))(h3:n≠46)(h4:n≠95):MM n=false:=by
 have a:¬(97<=n)\/¬(n<=122):=om;have b:¬(48<=n)\/¬(n<=57):=om;unfold MM;rcases a with a|a<;>rcases b with b|b<;>simp[a,b,h3,h4]
theorem Wu{n:Nat}(h:(97<=n/\n<=122)\/(48<=n/\n<=57)\/n=46\/n=95):MM n=true:=by
 unfold MM;rcases h with⟨a,b⟩|⟨a,b⟩|h|h<;>simp_all
theorem l106:bu prog f106=some c106:=by kernel_rfl
theorem Z6{t:dI}{k:Nat}(hk:k<t.length):dx (cF t).data.toList (k:Nat)=some t[k]:=by rw[bA,pj,uX hk]
theorem gk(t:dI):(((cF t).size:Nat):Int)=t.length:=by rw[mV]
theorem tH(t:dI):body prog c106 [vT t] [] (λr m=>r=aE (fL t)):=by
 refine aL (λh=>?_) (λh=>?_)
 .rw[gk]at h;have:fL t=false:=by simp[fL];omega
  rw[this];rfl
 rw[gk]at h;refine aL (λh2=>?_) (λh2=>?_)
 .rw[gk]at h2;have:fL t=false:=by simp[fL];omega
  rw[this];rfl
 rw[gk]at h2;refine k6 (b:=[46]) (λh3=>?_) (λh3=>?_)
 .subst h3;rfl
 refine k6 (b:=[46,46]) (λh4=>?_) (λh4=>?_)
 .subst h4;rfl
 refine bb (λk=>k<=t.length/\∀j(hj:j<t.length),j<k->MM t[j].toNat=true) [0] (λk=>[(22,an .i64 (t.length:Nat)),(23,an .i64 (k:Nat))]) (λ_=>[]) (λk=>t.length-k) 0 ⟨aaj _,λj _ h=>absurd h (abi _)⟩ ?_ (λk hk=>?_)
 .refine View.o 0 [] [] ?_ (.nil _);repeat(first|exact .nil|refine .ap ?_|refine .eq rfl ?_|refine .put (.aU (by rw[gk];rfl)) ?_)
 obtain⟨hk,fI⟩:k<=t.length/\∀j(hj:j<t.length),j<k->MM t[j].toNat=true:=hk;refine aL (λh5=>?_) (λh5=>?_)
 .have aD:k<t.length:=by have h5:(k:Int)<(t.length:Int):=h5;omega
  refine ag (Z6 aD) ?_;repeat' first|refine aL (λ_=>?_) (λ_=>?_)|refine bs (λ_=>?_) (λ_=>?_)
  all_goals first
   |(show aE false=aE (fL t)
     rw[Fm aD (Ws om om om om)])
   |(refine⟨k+1,⟨aD,λj hj hjk=>?_⟩,(show t.length-(k+1)<t.length-k by omega),View.o 0 [] [] ?_ (.nil _)⟩
     .rcases aad j k with h|h
      .exact fI j hj h
      .have:j=k:=om;subst this;exact Wu om
     .repeat(first|exact .nil|refine .ap ?_|refine .put (.aU (aN om).symm) ?_|refine .eq rfl ?_))
 .show aE true=aE (fL t);have h5:¬(k:Int)<(t.length:Int):=h5;rw[Fo om om h3 h4 λj hj=>fI j hj om]
theorem AW(t:dI){m:Mem}{K:CV->Mem->Prop}(h:K (aE (fL t)) m):aq prog 106 [vT t] m K:=
 bv func106 l106 rfl (aae rfl) (tH t) rfl rfl h
end bK
def c66:LF:= ⟨37,[.cell false 1 2,.cell false 1 3,.cell false 1 4],(.seq (.ai [qu 2 (.alloc [.aO]),qu 3 (.alloc [(.aa (.val (.bool false)))]),qu 4 (.alloc [qd 0])]) (.seq (.seq (.ai [qm 7 0,qu 8 (.aJ .eql 7 (.c (.rv (.one (.aa (.val (.string ⟨#[]⟩)))))))]) (.cond 8 (.seq (.ai [qw (.store 1 2 qe),qw (.store 1 3 (qb false)),qw (.store 1 4 (qi 2))]) .ret) .skip)) (.seq (.seq (.ai [qm 9 0,qu 10 (.len 0 9),qu 11 (.aJ .gtr 10 (qi 60))]) (.cond 11 (.seq (.ai [qw (.store 1 2 qe),qw (.store 1 3 (qb false)),qw (.store 1 4 (qi 4))]) .ret) .skip)) (.seq (.ai [qu 5 (.alloc [.aO])]) (.seq (.seq (.ai [qm 12 0,qu 13 (qc 105 [12,(.c (.rv (.one (.aa (.val (.string ⟨#[47]⟩))))))])]) (.block 0 (.xX 13 14 (.ai [qm 6 14]) (.block 1 (.block 2 (.seq (.ai [qm 16 6,qu 17 (.aJ .eql 16 (.c (.rv (.one (.aa (.val (.string ⟨#[]⟩))))))),qm 18 17,qg 19 (.aK 6) 18 false,qg 20 (.aJ .eql 19 (.c (.rv (.one (.aa (.val (.string ⟨#[46]⟩))))))) 18 false,qu 21 (.pick 18 (qb true) 20),qm 15 21]) (.cond 15 .skip (.seq (.ai [qm 23 6,qu 24 (.aJ .eql 23 (.c (.rv (.one (.aa (.val (.string ⟨#[46,46]⟩))))))),qm 25 24,qg 26 (.aK 6) 25 false,qg 27 (qc 106 [26]) 25 false,qu 28 (.pick 25 (qb true) 27),qm 22 28]) (.cond 22 (.ai [ql 29 5,qm 30 6,qu 31 (.nC 1 [(.aa (.val (.string ⟨#[]⟩)))] 1 [(0,30)]),qu 32 (.oZ 1 16 29 31),qw (.store 1 5 32)]) (.seq (.ai [qw (.store 1 2 qe),qw (.store 1 3 (qb false)),qw (.store 1 4 (qi 7))]) .ret)))))))))) (.seq (.bR [ql 33 5,qm 34 0,qu 35 (.BO 34 (qi 0)),qu 36 (.aJ .eql 35 (.c (.rv (.one (.aa (.val (.int .u8 (47)))))))),qw (.store 1 2 33),qw (.store 1 3 36),qw (.store 1 4 (qi 0))] [(.cons 0 none (.cons 1 none (.cons 2 none (.cons 3 none (.cons 4 (some []) (.cons 5 (some []) (.cons 6 (some []) .nil)))))))]) .ret))))))⟩
def c105:LF:= ⟨8,[.tmp 4],(.seq (.ai [qu 4 (.aK (.c (.rv (.one (.aa (.val .nilFunc))))))]) (.seq (.ai [qm 5 0,qm 6 1,qu 7 (qc 131 [5,6,qi 0]),qm 4 7]) .ret))⟩
def c131:LF:= ⟨8,[.tmp 6],(.seq (.ai [qu 3 (.box 0),qu 4 (.box 1),qu 5 (.box 2),qu 6 (.aK (.c (.rv (.one (.aa (.val .nilFunc))))))]) (.seq (.ai [qu 7 (.fn 147 [4,3,5]),qm 6 7]) .ret))⟩
namespace bK
theorem l131:bu prog f131=some c131:=by kernel_rfl
theorem l105:bu prog f105=some c105:=by kernel_rfl
def Wv(s:ByteArray):Bk:= .var [.aa (.val (.string s))]
def sqM(s sep:ByteArray)(b0 b1 b2 b3:Bk):Mem:=[b0,b1,b2,b3,Wv s,Wv sep,.var [.aa (.val (.int .i64 0))]]
theorem Z7(s sep:ByteArray){b0 b1 b2 b3:Bk}{K:CV->Mem->Prop}(h:K (.rv (.one (.fn 147 [5,4,6]))) (sqM s sep b0 b1 b2 b3)):aq prog 131 [eL s,eL sep,an .i64 0] [b0,b1,b2,b3] K:=
 aY func131 l131 h
theorem Z8(s sep:ByteArray){b0 b1 b2 b3:Bk}{K:CV->Mem->Prop}(h:K (.rv (.one (.fn 147 [5,4,6]))) (sqM s sep b0 b1 b2 b3)):aq prog 105 [eL s,eL sep] [b0,b1,b2,b3] K:=by refine aY func105 l105 ?_;exact Z7 s sep h
theorem wK(c:UInt8):∀t:dI,(gN c t).length<=t.length+1
 | []=>by simp[gN]
 |x::r=>by
  have ih:=wK c r;simp only[gN];split
  .simp;exact ih
  .split
   .simp
   .rename_i h;rw[h]at ih;simp at ih|-;omega
theorem dj(a b:List (List Dt)):af (a++b)=af a++af b:=by simp[af]
theorem PI(c:UInt8)(r:dI):decide ((c::r)[0]? =some 47)=((c.toNat:Int)==47):=by
 by_cases h:c=47
 .subst h;rfl
 .have h2:(c.toNat:Int)≠47:=by
   intro e;have e2:c.toNat=(47:UInt8).toNat:=by show c.toNat=47;omega
   exact h (UInt8.toNat_inj.1 e2)
  simp[h,h2]
theorem l66:bu prog f66=some c66:=by kernel_rfl
def tD(t:dI):List Dt:=[.val (.string (cF t))]
def Yb(l:List dI):Dt:= .sl 1 (l.map tD)
def txV(l:List dI):CV:= .rv (.one (.aa (Yb l)))
def rY(w:dI):Bool:= !(decide (w=[])||decide (w=[46]))
def rZ(w:dI):Bool:=decide (w=[])||decide (w=[46])||decide (w=[46,46])||fL w
def AX(t:dI):List dI:=(gN 47 t).filter rY
def cM(t:dI):List dI×Bool×Int:=
 if t=[]then([],false,2)else if 60<t.length then([],false,4)else if(gN 47 t).all rZ then(AX t,decide (t[0]? =some 47),0)else([],false,7)
def Te(p:List dI×Bool×Int):CV:= .bz [.one (.aa (Yb p.1)),.one (.aa (.val (.bool p.2.1))),.one (.aa (.val (.int .i64 p.2.2)))]
def pt(id:Nat):CV:= .rv (.one (.ptr id 0))
def PJ(t:dI):List CV:=vT t:: .ap::pt 0::pt 1::pt 2::pt 3::gw 31 .ap
def Tf:List dI->Mem
 | []=>[.var [.aO],.var [.aa (.val (.bool false))],.var [.aa (.val (.int .i64 0))],.var [.aO]]
 |x::r=>[.var [.aO],.var [.aa (.val (.bool false))],.var [.aa (.val (.int .i64 0))],.var [.row 4 1 0 none],.row 1 (af ((x::r).map tD))]
theorem Fp{c:UInt8}{t:dI}{k:Nat}{y:ByteArray}(h:(g9 c (cF t))[k]? =some y):∃w,(gN c t)[k]? =some w/\y=cF w:=by
 simp only[g9,pj,RA]at h;cases hc:(gN c t)[k]? with
 |none=>rw[hc]at h;cases h
 |some w=>rw[hc]at h;cases h;exact⟨w,rfl,rfl⟩
theorem ma{m:Mem}{c:CC}{l:List dI}{b:Bool}{e:Int}(h:eT m c (.aa (Yb l))):cQ m (.bz [.one c,.one (.aa (.val (.bool b))),.one (.aa (.val (.int .i64 e)))]) (Te (l,b,e)):=by
 refine .bz rfl λi r r' h1 h2=>?_
 match i with
 |0=>cases h1;cases h2;exact .one h
 |1=>cases h1;cases h2;exact .one (.aa _)
 |2=>cases h1;cases h2;exact .one (.aa _)
 |n+3=>simp at h1
theorem Fq(t:dI):body prog c66 [vT t] [] (λr m=>cQ m r (Te (cM t))):=by
 refine k6 (b:=[]) (λh=>?_) (λh0=>?_)
 .subst h;exact ma (.aO 1)
 refine aL (λh=>?_) (λh1=>?_)
 .rw[gk]at h;have:cM t=([],false,4):=by rw[cM,if_neg h0,if_pos om]
  rw[this];exact ma (.aO 1)
 rw[gk]at h1;refine Z8 (cF t) ⟨#[47]⟩ ?_;refine⟨147,[5,4,6],[.string ⟨#[47]⟩,.string (cF t),.int .i64 0],g9 47 (cF t),List dI,λk out=>out=((gN 47 t).take k).filter rY/\((gN 47 t).take k).all rZ=true,λout=>⟨PJ t,Tf out⟩,rfl,
  ⟨⟨rfl,rfl⟩,⟨rfl,rfl⟩,⟨rfl,rfl⟩,trivial⟩,⟨by decide,aC⟩,I5 (cF t) 47 (by rw[gk];omega),⟨[],⟨aC,aC⟩,?_⟩,?_,?_⟩
 .refine View.o1 7 [0,1,2,3] [] ?_
  .repeat(first|exact .nil _|refine .put (by simp[bw]) rfl (.eq rfl aC) ?_)
 .intro k y out hk hJ;obtain⟨w,hw,rfl⟩:=Fp hk;obtain⟨ho,hg⟩:=hJ;have Rp:(gN 47 t).take (k+1)=(gN 47 t).take k++ [w]:=by rw[abI,hw];rfl
  have skip:w=[]\/w=[46]->out=((gN 47 t).take (k+1)).filter rY/\((gN 47 t).take (k+1)).all rZ=true:=by
   intro h;rw[Rp,ac4,List.all_append,<-ho,hg];rcases h with rfl|rfl<;>simp[rY,rZ]
  have eE:w≠[]->w≠[46]->(w=[46,46]\/fL w=true)->out++ [w]=((gN 47 t).take (k+1)).filter rY/\((gN 47 t).take (k+1)).all rZ=true:=by
   intro h1 h2 h3;rw[Rp,ac4,List.all_append,<-ho,hg];rcases h3 with rfl|h3
   .simp[rY,rZ]
   .simp[rY,rZ,h1,h2,h3]
  have bad:w≠[]->w≠[46]->w≠[46,46]->fL w=false->cM t=([],false,7):=by
   intro h1 h2 h3 h4;have:(gN 47 t).all rZ=false:=by
    rw[List.all_eq_false];exact⟨w,RD hw,by simp[rZ,h1,h2,h3,h4]⟩
   rw[cM,if_neg h0,if_neg om,this];rfl
  have hlen:out.length<=61:=by
   rw[ho];have h2:=acf rY ((gN 47 t).take k);have h3:=wK 47 t;have h4:((gN 47 t).take k).length<=(gN 47 t).length:=by rw[aan];omega
   omega
  clear ho hg Rp hk;cases out with
  |nil=>
   have dv:View 0 ⟨PJ t,Tf []⟩ ⟨PJ t,Tf []⟩:=by
    refine View.o1 4 [0,1,2,3] [] ?_
    .repeat(first|exact .nil _|refine .put (by simp[bw]) rfl (.eq rfl aC) ?_)
   have iy:∀m,m=([.var [.aO],.var [.aa (.val (.bool false))],.var [.aa (.val (.int .i64 0))],.var [.row 5 1 0 none],.aS,.row 1 ([]++ [[.aa (.val (.string (cF w)))]])]:Mem)->View 0 ⟨PJ t,m⟩ ⟨PJ t,Tf ([]++ [w])⟩:=by
    rintro m rfl;refine View.o1 6 [0,1,2,3,5] [] ?_
    .repeat(first|exact .nil _|refine .put (by simp[bw]) rfl (.eq rfl aC) ?_)
   refine k6 (b:=[]) (λe1=>?_) (λe1=>?_)
   .exact⟨[],skip (.inl e1),dv⟩
   refine k6 (b:=[46]) (λe2=>?_) (λe2=>?_)
   .exact⟨[],skip (.inr e2),dv⟩
   refine k6 (b:=[46,46]) (λe3=>?_) (λe3=>?_)
   .exact⟨(show 1*16<=140737488355328 by omega),_,eE e1 e2 (.inl e3),iy _ rfl⟩
   .refine AW w ?_;refine aM (λe4=>?_) (λe4=>?_)
    .exact⟨(show 1*16<=140737488355328 by omega),_,eE e1 e2 (.inr e4),iy _ rfl⟩
    .rw[bad e1 e2 e3 e4];exact ma (.aO 1)
  |cons x r=>
   have dv:View 0 ⟨PJ t,Tf (x::r)⟩ ⟨PJ t,Tf (x::r)⟩:=by
    refine View.o1 5 [0,1,2,3,4] [] ?_
    .refine .put (by simp[bw]) rfl (.eq rfl aC) (.put (by simp[bw]) rfl (.eq rfl aC) (.put (by simp[bw]) rfl (.eq rfl aC) (.put (by simp[bw]) rfl (.eq rfl aC) (.put (by simp[bw]) rfl (.bI rfl) (.nil _)))))
   have iy:∀m,m=([.var [.aO],.var [.aa (.val (.bool false))],.var [.aa (.val (.int .i64 0))],.var [.row 6 1 0 none],.aS,.aS,.row 1 (af ((x::r).map tD)++ [[.aa (.val (.string (cF w)))]])]:Mem)->View 0 ⟨PJ t,m⟩ ⟨PJ t,Tf ((x::r)++ [w])⟩:=by
    rintro m rfl;refine View.o1 7 [0,1,2,3,6] [] ?_
    .refine .put (by simp[bw]) rfl (.eq rfl aC) (.put (by simp[bw]) rfl (.eq rfl aC) (.put (by simp[bw]) rfl (.eq rfl aC) (.put (by simp[bw]) rfl (.eq rfl aC) (.put (by simp[bw]) rfl (.bI ?_) (.nil _)))))
     show _=af (((x::r)++ [w]).map tD);rw[abw,dj];rfl
   have sL:((af ((x::r).map tD)).length+1)*16<=140737488355328:=by simp[af];simp at hlen;omega
   refine k6 (b:=[]) (λe1=>?_) (λe1=>?_)
   .exact⟨_,skip (.inl e1),dv⟩
   refine k6 (b:=[46]) (λe2=>?_) (λe2=>?_)
   .exact⟨_,skip (.inr e2),dv⟩
   refine k6 (b:=[46,46]) (λe3=>?_) (λe3=>?_)
   .exact⟨sL,_,eE e1 e2 (.inl e3),iy _ rfl⟩
   .refine AW w ?_;refine aM (λe4=>?_) (λe4=>?_)
    .exact⟨sL,_,eE e1 e2 (.inr e4),iy _ rfl⟩
    .rw[bad e1 e2 e3 e4];exact ma (.aO 1)
 .intro out hJ;obtain⟨ho,hg⟩:=hJ;have jD:(g9 47 (cF t)).length=(gN 47 t).length:=by simp[g9]
  rw[jD,abe]at ho hg;have hs:cM t=(out,decide (t[0]? =some 47),0):=by rw[cM,if_neg h0,if_neg om,hg];simp[AX,ho]
  rw[hs];obtain⟨c,r,rfl⟩:∃c r,t=c::r:=by
   cases t with
   |nil=>exact absurd rfl h0
   |cons c r=>exact⟨c,r,rfl⟩
  have hc:decide ((c::r)[0]? =some 47)=((c.toNat:Int)==47):=PI c r;cases out with
  |nil=>
   rw[hc];refine⟨trivial,trivial,trivial,?_⟩;exact ma (l:=[]) (c:= .aO) (.aO 1)
  |cons x r=>
   rw[hc];refine⟨trivial,trivial,trivial,?_⟩;exact ma (l:=x::r) (c:= .row 4 1 0 none) (eT.eU (ds:=(x::r).map tD) rfl 0 none)
theorem wN(t:dI){m:Mem}{K:CV->Mem->Prop}(h:K (Te (cM t)) m):aq prog 66 [vT t] m K:=
 bg (aY func66 l66 (Fq t)) (by simp[vT,eL,CV.du,CC.du]) λr m1 hf=>⟨_,hf,h⟩
end bK
end Go.Proofs.YtodckkkbiidffaaGreatDoor
namespace Go.Proofs.YtodckkkbiidffaaGreatDoor
open Go.AM Go.ChangeShapes Go.WideShapes Go.ChangeAt Go.RowKit
namespace bK
theorem be(l:List (List Dt)):(af l).length=l.length:=by simp[af]
end bK
def Z9:Ob:=⟨0,[],[],⟨#[]⟩,0,noD,0,0,0⟩
def lC(l:List Ob)(n:Nat):Ob:=(l[n]?).getD Z9
theorem tI{l:List Ob}{n:Nat}(h:n<l.length):lC l n=l[n]:=by rw[lC,uX h];rfl
structure R4 where
 bn:Int
 cL:Int
 name:bK.dI
 fC:Int
def R4.no(e:Int):R4:=⟨0,0,[],e⟩
def iL(o:Ob):List NE:=o.ak.map nJ
def mg(l:List Ob)(da:Nat)(w:bK.dI):Int:=fB (iL (lC l da)) (bK.cF w)
def AY(l:List Ob)(da:Nat):Nat:=(lC l da).up.toNat
def Hp(l:List Ob)(ar:Nat)(ax follow:Bool)(rec:Nat->List bK.dI->Nat->R4):List bK.dI->Nat->R4
 | [],a=>⟨a,AY l a,[],0⟩
 |w::rest,a=>
  if(lC l a).ah≠2 then R4.no 11
  else if w=[46,46]then(if ax=true/\a=ar then R4.no 14 else Hp l ar ax follow rec rest (AY l a))
  else if mg l a w<0 then(if rest≠[]then R4.no 6 else⟨-1,a,w,0⟩)
  else if(lC l (mg l a w).toNat).ah=3/\(follow=true\/rest≠[])then rec a rest (mg l a w).toNat
  else if rest=[]then⟨mg l a w,a,w,0⟩
  else Hp l ar ax follow rec rest (mg l a w).toNat
def MN(l:List Ob)(k:Nat):bK.dI:=(lC l k).target.data.toList
def PK(l:List Ob)(ax:Bool)(wk:List bK.dI->Nat->R4)(a:Nat)(rest:List bK.dI)(k:Nat):R4:=
 if(bK.cM (MN l k)).2.2≠0 then R4.no (bK.cM (MN l k)).2.2
 else if(bK.cM (MN l k)).2.1=true/\ax=true then R4.no 14
 else wk ((bK.cM (MN l k)).1++rest) (if(bK.cM (MN l k)).2.1=true then 0 else a)
def BL(l:List Ob)(ar:Nat)(ax follow:Bool):Nat->List bK.dI->Nat->R4
 |0=>Hp l ar ax follow λ_ _ _=>R4.no 13
 |n+1=>Hp l ar ax follow (PK l ax (BL l ar ax follow n))
def pQ(l:List Ob)(ar:Int)(s:bK.dI)(ax follow:Bool):R4:=
 if oz l ar 0=true then
  if(lC l ar.toNat).ah≠2 then R4.no 11
  else if(bK.cM s).2.2≠0 then R4.no (bK.cM s).2.2
  else if(bK.cM s).2.1=true/\ax=true then R4.no 14
  else BL l ar.toNat ax follow 6 (bK.cM s).1 (if(bK.cM s).2.1=true then 0 else ar.toNat)
 else R4.no 6
structure nw(l:List Ob):Prop where
 len:l.length<=64
 pos:0<l.length
 en:∀o,o∈l->Wb l.length o.ah o.ak
 ne:∀o,o∈l->o.ak.length<=64
 up:∀o,o∈l->0<=o.up/\o.up<l.length
theorem nw.Tg{l:List Ob}(h:nw l)(n:Nat):AY l n<l.length:=by
 rw[AY,lC];cases hn:l[n]? with
 |none=>show(0:Int).toNat<l.length;have:=h.pos;simpa using this
 |some o=>have:=h.up o (RD hn);show o.up.toNat<l.length;omega
theorem nw.MP{l:List Ob}(h:nw l){n:Nat}(hn:n<l.length):l[n].up=(AY l n:Nat):=by rw[AY,tI hn];have:=h.up _ (aal hn);omega
theorem nw.dG{l:List Ob}(h:nw l)(n:Nat):ER (iL (lC l n))/\(∀e,e∈iL (lC l n)->0<=e.2/\e.2<(l.length:Int))/\(iL (lC l n)).length<=64/\∀hn:n<l.length,l[n].ak=(iL (lC l n)).map fP:=by
 rw[lC];cases hn:l[n]? with
 |none=>
  refine⟨List.Pairwise.nil,by simp[iL,Z9],by simp[iL,Z9],λh=>?_⟩
  rw[uX h]at hn;cases hn
 |some o=>
  obtain⟨es,h1,h2,h3,h4⟩:=(h.en o (RD hn)).ex;have h5:iL o=es:=by rw[iL,h1,nt]
  show ER (iL o)/\(∀e,e∈iL o->_)/\(iL o).length<=64/\∀hn:n<l.length,l[n].ak=(iL o).map fP;rw[h5];refine⟨h2,h3,?_,λh=>?_⟩
  .have:=h.ne o (RD hn);rw[h1,ML]at this;exact this
  .rw[uX h]at hn;cases hn;exact h1
theorem nw.Th{l:List Ob}(h:nw l)(n:Nat)(w:bK.dI)(hf:¬mg l n w<0):∃k:Nat,mg l n w=k/\k<l.length:=by
 obtain⟨_,h2,_,_⟩:=h.dG n;rcases iH (iL (lC l n)) (bK.cF w)with⟨e,he,_,h3⟩|⟨h3,_⟩
 .obtain⟨h4,h5⟩:=h2 e he;exact⟨e.2.toNat,by rw[mg,h3];omega,om⟩
 .rw[mg,h3]at hf;omega
theorem MQ{a b:ByteArray}:kZ a b<0↔AB a b:=by
 unfold kZ AB;by_cases h:Ry a b=true
 .rw[if_pos h];exact⟨λ_=>h,λ_=>om⟩
 .rw[if_neg h];refine⟨λh2=>?_,λh2=>absurd h2 h⟩
  split at h2<;>omega
theorem wO{a b:ByteArray}:kZ a b=0↔a.toList=b.toList:=by
 unfold kZ;by_cases h:Ry a b=true
 .rw[if_pos h];refine⟨λh2=>om,λh2=>?_⟩
  rw[Ry,h2,oy]at h;cases h
 .rw[if_neg h];rw[acy]at h;by_cases h2:Uw a b=true
  .rw[if_pos h2];refine⟨λh3=>om,λh3=>?_⟩
   unfold Uw at h2;rw[h3]at h2;simp at h2
  .rw[if_neg h2];refine⟨λ_=>?_,λ_=>rfl⟩
   unfold Uw at h2;unfold Ry at h;rw[h]at h2;simpa using h2
theorem oK{es:List NE}(hs:ER es)(s:ByteArray):∀(n i j:Nat),j-i<=n->i<=j->j<=es.length->(∀(k:Nat)e,k<i->es[k]? =some e->AB e.1 s)->(∀(k:Nat)e,j<=k->es[k]? =some e->¬AB e.1 s)->
  I1 es s n i j<=es.length/\(∀(k:Nat)e,k<I1 es s n i j->es[k]? =some e->AB e.1 s)/\∀(k:Nat)e,I1 es s n i j<=k->es[k]? =some e->¬AB e.1 s
 |0,i,j,hn,rh,hj,h1,h2=>by have:i=j:=om;subst this;exact⟨hj,h1,h2⟩
 |n+1,i,j,hn,rh,hj,h1,h2=>by
  rw[I1];by_cases aD:i<j
  .rw[if_pos aD];have hh:(i+j)/2<es.length:=om;rw[uX hh];simp only[];have hp:=abR.1 hs;by_cases hc:kZ es[(i+j)/2].1 s<0
   .rw[if_pos hc];refine oK hs s n _ _ om om hj (λk e hk he=>?_) h2
    have ib:=MQ.1 hc;obtain⟨f8,rfl⟩:=I4.1 he;rcases aad k ((i+j)/2)with h3|h3
    .exact rN (hp k _ f8 hh h3) ib
    .have:k=(i+j)/2:=om;subst this;exact ib
   .rw[if_neg hc];refine oK hs s n _ _ om om om h1 λk e hk he hl=>?_
    have ib:¬AB es[(i+j)/2].1 s:=λh=>hc (MQ.2 h)
    obtain⟨f8,rfl⟩:=I4.1 he;rcases aad ((i+j)/2) k with h3|h3
    .exact ib (rN (hp _ k hh f8 h3) hl)
    .have:k=(i+j)/2:=om;subst this;exact ib hl
  .rw[if_neg aD];have:i=j:=om;subst this;exact⟨hj,h1,h2⟩
theorem Hq{es:List NE}(hs:ER es)(s:ByteArray):AD es s (if AS es s=true then(match es[qy es s]? with|some e=>e.2|none=>0)else -1):=by
 obtain⟨h0,h1,h2⟩:=oK hs s es.length 0 es.length om om om (λk e hk=>absurd hk (abi k)) (λk e hk he=>by have:=(I4.1 he).1;omega)
 have hI:I1 es s es.length 0 es.length=qy es s:=rfl;rw[hI]at h0 h1 h2;unfold AS;cases he:es[qy es s]? with
 |none=>
  simp only[];rw[if_neg aC];refine .inr ⟨rfl,λe hm heq=>?_⟩
  obtain⟨k,hk⟩:=Xt hm;have f8:=(I4.1 hk).1;have:es.length<=qy es s:=acE.1 he;have:=h1 k e om hk;rw[AB,heq,oy]at this;cases this
 |some e=>
  simp only[];by_cases hc:kZ e.1 s=0
  .rw[if_pos (by rw[hc];rfl)]
   exact .inl ⟨e,RD he,wO.1 hc,rfl⟩
  .rw[if_neg (by simpa using hc)]
   refine .inr ⟨rfl,λe' hm heq=>?_⟩
   obtain⟨k,hk⟩:=Xt hm;obtain⟨f8,AF⟩:=I4.1 hk;obtain⟨Lz,nr⟩:=I4.1 he;rcases acO k (qy es s)with h3|h3|h3
   .have:=h1 k e' h3 hk;rw[AB,heq,oy]at this;cases this
   .subst h3;rw[he]at hk;cases hk;exact hc (wO.2 heq)
   .have hp:=abR.1 hs _ k Lz f8 h3;rw[nr,AF]at hp;have jT:=h2 _ e (Ts _) he;apply jT;rw[AB,<-heq];exact hp
end Go.Proofs.YtodckkkbiidffaaGreatDoor
namespace Go.Proofs.YtodckkkbiidffaaGreatDoor
open Proofs.Tryz
open Go.AM Go.ChangeShapes Go.WideShapes Go.ChangeAt Go.RowKit
theorem AZ(d:List (List Dt))(hb:d.length<=4194304):body prog c97 [rI 1 d] [] (λr m=>∃r' m',View 0 ⟨[r],m⟩ ⟨[r'],m'⟩/\r'= .rv (.one (.row 0 1 0 none))/\m'=[.row 1 (af d)]):=by
 have sL:((([]:List (List CC)).length+(d.map λds=>ds.map CC.aa).length)*1)<=140737488355328:=by simp;omega
 have iy:∃r' m',View 0 ⟨[CV.rv (.one (.row 1 1 0 none))],[.aS,.row 1 (bV ([]:List (List CC)) 0 none++d.map λds=>ds.map CC.aa)]⟩ ⟨[r'],m'⟩/\r'=CV.rv (.one (.row 0 1 0 none))/\m'=[Bk.row 1 (af d)]:=
  ⟨_,_,View.o 2 [1] [] (.eq rfl .nil) (.pn rfl rfl rfl),rfl,rfl⟩
 refine aM (λh=>?_) (λh=>?_)
 .have hd:d=[]:=aag (by simpa using aai h)
  refine⟨?_,sL,iy⟩;subst hd;exact⟨_,_,View.aO 0 1 0 rfl rfl rfl,rfl,rfl⟩
 .exact⟨sL,iy⟩
theorem hB(Y:Nat->Nat)(ds:List (List Dt)):(af ds).map (λcs=>cs.map (CC.aU Y))=af ds:=by simp[af,acP,CC.aU]
theorem Fr(d:List (List Dt))(hb:d.length<=4194304){m:Mem}{K:CV->Mem->Prop}(h:K (.rv (.one (.row m.length 1 0 none))) (m++ [.row 1 (af d)])):aq prog 97 [rI 1 d] m K:=by
 refine bq [] m.length rfl rfl rfl rfl (args0:=[rI 1 d]) rfl (λi b' hi=>by simp at hi) (K0:=λr m=>r= .rv (.one (.row 0 1 0 none))/\m=[.row 1 (af d)]) (bG (aY func97 l97 (AZ d hb)) λr m1 h=>h) (λr m1 hr=>?_)
 obtain⟨rfl,rfl⟩:=hr;refine⟨aaj _,?_⟩;show K (.rv (.one (.row (m.length+(0-0)) 1 0 none))) (gh m [.row 1 ((af d).map (λcs=>cs.map (CC.aU (sg [] m.length))))])
 rw[hB,bX];exact h
def nV(Q:Nat)(o:Obj):List CC:=[.aa (.val (.int .i64 o.ah)),.row Q 1 0 none,.aa (.sl 2 o.ak),.aa (.val (.string o.target)),.aa (.val (.int .i64 o.aG)),
 .aa (.sl 4 (o.aj.map br.enc)),.aa (.val (.int .i64 o.aA)),.aa (.val (.int .i64 o.am)),.aa (.val (.int .i64 o.up))]
def aaa(o:Obj):Nat->Mem
 |0=>[.row 9 [],.aS]
 |_+1=>[.row 9 [nV 1 o],.row 1 (af o.data)]
theorem I6(o:Obj)(hf:o.nT):body prog c98 [cz [o]] [] (λr m=>r= .rv (.one (.row 0 9 0 none))/\m=[.row 9 [nV 1 o],.row 1 (af o.data)]):=by
 obtain⟨ah,data,ak,target,aG,aj,aA,am,up⟩:=o;obtain⟨LV,Kk,Rg,Kl⟩:=hf;have LV:data.length<=4194304:=LV;have Kk:ak.length<=4194304:=Kk;have Rg:aj.length<=4194304:=Rg;have Kl:∀q,q∈aj->q.data.length<=4194304:=Kl;refine bb (λk=>k<=1) [0,9,10] (λk=>[(11,an .i64 (k:Nat)),(3,.rv (.one (.row 0 9 0 none)))]) (aaa ⟨ah,data,ak,target,aG,aj,aA,am,up⟩) (λk=>1-k) 0 (aaj _) ?_ (λk hk=>?_)
 .refine View.trans (View.aO 2 4 0 rfl rfl rfl) (View.trans (View.aO 3 9 1 rfl rfl rfl) (View.o1 2 [1,0] [] ?_))
  .exact .put (by simp[bw]) rfl (.eq rfl aC) (.aS (.nil _))
 have hk:k<=1:=hk
 match k,hk with
 |0,_=>
  refine Fr data LV ?_;refine⟨⟨rfl,trivial⟩,?_⟩;refine tf ak Kk ?_;refine⟨trivial,?_⟩;refine⟨trivial,?_⟩;refine⟨trivial,?_⟩;refine bb (λj=>j<=aj.length) [0,3,5,9,10,11,24,25] (λj=>[(26,an .i64 (j:Nat)),(6,.rv (.one (.row 4 4 0 none)))])
    (λj=>[.row 9 [],.aS,.var (nV 3 ⟨ah,data,ak,target,aG,aj,aA,am,up⟩),.row 1 (af data),.row 4 (af ((aj.take j).map br.enc))]) (λj=>aj.length-j) 0 (aaj _) ?_ (λj hj=>?_)
  .refine View.trans (View.aO 6 4 4 rfl rfl rfl) (View.o1 5 [0,1,2,3,4] [] ?_)
   .exact .pe rfl rfl rfl (.aS (.pe rfl rfl rfl (.pr rfl rfl rfl (.pn rfl rfl rfl))))
  have hj:j<=aj.length:=hj;refine aL (λh=>?_) (λh=>?_)
  .have d8:j<aj.length:=by have h:(j:Int)<((aj.map br.enc).length:Int):=h;rw[ML]at h;omega
   have yd:=uX d8;have ID:=Kl _ (aal d8);generalize aj[j]=q at yd ID;obtain⟨qd,qh,qo,qr⟩:=q;have BI:dx (aj.map br.enc) (j:Nat)=some [.sl 1 qd,.val (.bool qh),.val (.int .i64 qo),.val (.int .i64 qr)]:=by rw[bA,RA,yd];rfl
   refine ag BI ?_;refine ig qd ID ?_;refine⟨?_,?_⟩
   .show((af ((aj.take j).map br.enc)).length+1)*48<=_;simp[af];omega
   refine⟨j+1,d8,(show aj.length-(j+1)<aj.length-j by omega),View.o 8 [0,1,2,3,7] [] ?_ ?_⟩
   .repeat(first|exact .nil|refine .ap ?_|refine .put (.aU (aN om).symm) ?_|refine .eq rfl ?_)
   .refine .pe rfl rfl rfl (.aS (.pe rfl rfl rfl (.pr rfl rfl rfl (.pt rfl rfl (.bI ?_) (.nil _)))));rw[rL yd,abw,dj];rfl
  .have d7:¬(j:Int)<((aj.map br.enc).length:Int):=h;rw[ML]at d7;have hq:aj.take j=aj:=abN om;refine⟨by show(0+1)*128<=140737488355328;omega,?_⟩
   refine⟨1,Ts 1,(show 1-1<1-0 by omega),View.o 7 [6,3] [4] ?_ ?_⟩
   .repeat(first|exact .nil|refine .ap ?_|refine .put (.aU (aN om).symm) ?_|refine .eq rfl ?_)
   .refine .pt rfl rfl (l9.IB (R:=[]) (R':=[]) rfl rfl ?_) (.pn rfl rfl rfl);intro j' c c' h1 h2;have e5:nV 1 ⟨ah,data,ak,target,aG,aj,aA,am,up⟩=[.aa (.val (.int .i64 ah)),.row 1 1 0 none,.aa (.sl 2 ak),.aa (.val (.string target)),.aa (.val (.int .i64 aG)),.aa (.sl 4 ((aj.take j).map br.enc)),.aa (.val (.int .i64 aA)),.aa (.val (.int .i64 am)),.aa (.val (.int .i64 up))]:=by simp[nV,hq]
    rw[e5]at h2
    match j',h1,h2 with
    |0,h1,h2=>cases h1;cases h2;exact .aU (.aa _)
    |1,h1,h2=>cases h1;cases h2;exact .aU (.row 1 1 0 none)
    |2,h1,h2=>cases h1;cases h2;exact .aU (.aa _)
    |3,h1,h2=>cases h1;cases h2;exact .aU (.aa _)
    |4,h1,h2=>cases h1;cases h2;exact .aU (.aa _)
    |5,h1,h2=>cases h1;cases h2;exact .fy (dO.eU (Z:=λk=>bw [4] k=true) rfl (by rw[<-aT];rfl) 0 none)
    |6,h1,h2=>cases h1;cases h2;exact .aU (.aa _)
    |7,h1,h2=>cases h1;cases h2;exact .aU (.aa _)
    |8,h1,h2=>cases h1;cases h2;exact .aU (.aa _)
    |n+9,h1,h2=>simp at h1
 |1,_=>exact⟨rfl,rfl⟩
theorem MR{Y:Nat->Nat}(Q:Nat)(o:Obj):(nV Q o).map (CC.aU Y)=nV (Y Q) o:=by simp[nV,CC.aU]
theorem PL(o:Obj)(hf:o.nT){m:Mem}{K:CV->Mem->Prop}(h:K (.rv (.one (.row m.length 9 0 none))) (m++ [.row 9 [nV (m.length+1) o],.row 1 (af o.data)])):aq prog 98 [cz [o]] m K:=by
 refine bq [] m.length rfl rfl rfl rfl rfl (λi b' hi=>by simp at hi) (aY func98 l98 (I6 o hf)) (λr m1 hr=>?_)
 obtain⟨rfl,rfl⟩:=hr;refine⟨aaj _,?_⟩;show K (.rv (.one (.row (m.length+(0-0)) 9 0 none))) (gh m [.row 9 [(nV 1 o).map (CC.aU (sg [] m.length))],.row 1 ((af o.data).map (λcs=>cs.map (CC.aU (sg [] m.length))))])
 rw[MR,hB,bX];exact h
def c57:LF:= ⟨43,[.tmp 6,.tmp 7],(.seq (.ai [qu 3 (.box 0),qu 6 (.aK qe),qu 7 (.aK (qi 0))]) (.seq (.block 0 (.seq (.ai [qf 10 0 3,ql 11 10,qu 12 (.aJ .eql 11 (qi 2)),qm 9 12]) (.cond 9 (.seq (.ai [qu 6 (.aK qe),qu 7 (.aK (qi 12))]) .ret) (.seq (.ai [qf 14 0 3,ql 15 14,qu 16 (.aJ .neq 15 (qi 1)),qm 13 16]) (.cond 13 (.seq (.ai [qu 6 (.aK qe),qu 7 (.aK (qi 8))]) .ret) (.seq (.ai [qm 18 1,qu 19 (.aJ .lss 18 (qi 0)),qm 20 19,qg 21 (.aK 2) 20 false,qg 22 (.aJ .lss 21 (qi 0)) 20 false,qu 23 (.pick 20 (qb true) 22),qm 17 23]) (.cond 17 (.seq (.ai [qu 6 (.aK qe),qu 7 (.aK (qi 3))]) .ret) .skip))))))) (.seq (.ai [qm 24 1,qf 25 1 3,ql 26 25,qu 27 (.len 1 26),qu 28 (.jO false [24,27]),qm 8 28]) (.seq (.ai [qf 29 1 3,ql 30 29,qm 31 8,qm 32 8,qm 33 2,qf 34 1 3,ql 35 34,qu 36 (.len 1 35),qm 37 8,qu 38 (.aJ .sub 36 37),qu 39 (.jO false [33,38]),qu 40 (.aJ .add 32 39),qu 41 (.nR 1 30 (some 31) (some 40) none),qu 42 (qc 97 [41]),qm 6 42,qu 7 (.aK (qi 0))]) .ret))))⟩
theorem l57:bu prog Tryz.f57=some c57:=by kernel_rfl
def fg(a b:Nat):Nat:=if b<a then b else a
theorem r8(a b:Nat):(if(b:Int)<(a:Int)then(b:Int)else(a:Int))=((fg a b:Nat):Int):=by unfold fg;split<;>split<;>omega
theorem ny(a b:Nat):fg a b<=a/\fg a b<=b:=by unfold fg;split<;>omega
def I7(d:List (List Dt))(da n:Nat):List (List Dt):=(d.take (fg da d.length+fg n (d.length-fg da d.length))).drop (fg da d.length)
def jI(ah:Int)(d:List (List Dt))(da n:Int):List (List Dt)×Int:=
 if ah=2 then([],12)else if ah≠1 then([],8)else if da<0\/n<0 then([],3)else(I7 d da.toNat n.toNat,0)
def byR(d:List (List Dt)):RV:= .one (.aa (.sl 1 d))
def c58:LF:= ⟨68,[.cell true 9 6,.tmp 7],(.seq (.ai [qu 3 (.box 0),qu 6 (.alloc [qd 0,.aO,.aO,(.aa (.val (.string ⟨#[]⟩))),qd 0,.aO,qd 0,qd 0,qd 0]),qu 7 (.aK (qi 0))]) (.seq (.block 0 (.seq (.ai [qf 10 0 3,ql 11 10,qu 12 (.aJ .eql 11 (qi 2)),qm 9 12]) (.cond 9 (.seq (.ai [qu 13 (.build [qd 0,.aO,.aO,(.aa (.val (.string ⟨#[]⟩))),qd 0,.aO,qd 0,qd 0,qd 0] []),qw (.store 9 6 13),qu 7 (.aK (qi 12))]) .ret) (.seq (.ai [qf 15 0 3,ql 16 15,qu 17 (.aJ .neq 16 (qi 1)),qm 14 17]) (.cond 14 (.seq (.ai [qu 18 (.build [qd 0,.aO,.aO,(.aa (.val (.string ⟨#[]⟩))),qd 0,.aO,qd 0,qd 0,qd 0] []),qw (.store 9 6 18),qu 7 (.aK (qi 8))]) .ret) (.seq (.ai [qm 20 1,qu 21 (.aJ .lss 20 (qi 0)),qm 19 21]) (.cond 19 (.seq (.ai [qu 22 (.build [qd 0,.aO,.aO,(.aa (.val (.string ⟨#[]⟩))),qd 0,.aO,qd 0,qd 0,qd 0] []),qw (.store 9 6 22),qu 7 (.aK (qi 3))]) .ret) (.seq (.ai [qm 24 1,qu 25 (.aJ .gtr 24 (qi 60)),qm 26 25,qg 27 (.aK 2) 26 false,qg 28 (.len 1 27) 26 false,qg 29 (.aK 1) 26 false,qg 30 (.aJ .sub (qi 60) 29) 26 false,qg 31 (.aJ .gtr 28 30) 26 false,qu 32 (.pick 26 (qb true) 31),qm 23 32]) (.cond 23 (.seq (.ai [qu 33 (.build [qd 0,.aO,.aO,(.aa (.val (.string ⟨#[]⟩))),qd 0,.aO,qd 0,qd 0,qd 0] []),qw (.store 9 6 33),qu 7 (.aK (qi 15))]) .ret) .skip))))))))) (.seq (.ai [qL 34 9 3,qu 35 (.nC 9 [qd 0,.aO,.aO,(.aa (.val (.string ⟨#[]⟩))),qd 0,.aO,qd 0,qd 0,qd 0] 1 [(0,34)]),qu 36 (qc 98 [35]),qu 37 (.cw 9 36 (qi 0)),qL 38 9 37,qu 8 (.alloc [qd 0,.aO,.aO,(.aa (.val (.string ⟨#[]⟩))),qd 0,.aO,qd 0,qd 0,qd 0]),qw (.store 9 8 38)]) (.seq (.block 1 (.loop (.seq (.seq (.ai [qf 39 1 8,ql 40 39,qu 41 (.len 1 40),qm 42 1,qm 43 2,qu 44 (.len 1 43),qu 45 (.aJ .add 42 44),qu 46 (.aJ .lss 41 45),qm 47 46,qg 48 (.aK 2) 47 true,qg 49 (.len 1 48) 47 true,qg 50 (.aJ .gtr 49 (qi 0)) 47 true,qu 51 (.pick 47 50 (qb false))]) (.cond 51 .skip (.exit 1))) (.block 2 (.ai [qf 52 1 8,ql 53 52,qu 54 (.nC 1 [(.aa (.val (.int .u8 (0))))] 1 [(0,(.c (.rv (.one (.aa (.val (.int .u8 (0))))))))]),qu 55 (.oZ 1 1 53 54),qf 56 1 8,qw (.store 1 56 55)]))))) (.cS (.seq (.ai [qf 57 1 8,ql 58 57,qm 59 1,qf 60 1 8,ql 61 60,qu 62 (.len 1 61),qu 63 (.jO false [59,62]),qu 64 (.nR 1 58 (some 63) none none),qm 65 2,qu 66 (.copy 1 64 65)]) (.seq (.ai [qL 67 9 8,qw (.store 9 6 67),qu 7 (.aK (qi 0))]) .ret)))))))⟩
theorem l58:bu prog f58=some c58.er:=by kernel_rfl
def zb:List Dt:=[.val (.int .u8 0)]
def Ti(d:List (List Dt))(n:Nat):List (List Dt):=d++List.replicate (n-d.length) zb
def pR(d:List (List Dt))(A:Nat)(b:List (List Dt)):List (List Dt):=if b.length=0 then d else cP (Ti d (A+b.length)) A b
def MS:Obj:=⟨0,[],[],⟨#[]⟩,0,[],0,0,0⟩
def I8(o:Obj):RV:= .agg (o.enc.map .aa)
def eW(o:Obj)(da:Int)(b:List (List Dt)):Obj×Int:=
 if o.ah=2 then(MS,12)else if o.ah≠1 then(MS,8)else if da<0 then(MS,3)else if da>60\/(b.length:Int)>60-da then(MS,15)
 else({o with data:=pR o.data da.toNat b},0)
def r9:List CC:=[.aa (.val (.int .i64 0)),.aO,.aO,.aa (.val (.string ⟨#[]⟩)),.aa (.val (.int .i64 0)),.aO,.aa (.val (.int .i64 0)),.aa (.val (.int .i64 0)),.aa (.val (.int .i64 0))]
theorem oL{m:Mem}:e7 m (.agg r9) (I8 MS):=by
 refine .agg rfl λi c c' h1 h2=>?_
 match i,h1,h2 with
 |0,h1,h2=>cases h1;cases h2;exact .aa _
 |1,h1,h2=>cases h1;cases h2;exact .aO 1
 |2,h1,h2=>cases h1;cases h2;exact .aO 2
 |3,h1,h2=>cases h1;cases h2;exact .aa _
 |4,h1,h2=>cases h1;cases h2;exact .aa _
 |5,h1,h2=>cases h1;cases h2;exact .aO 4
 |6,h1,h2=>cases h1;cases h2;exact .aa _
 |7,h1,h2=>cases h1;cases h2;exact .aa _
 |8,h1,h2=>cases h1;cases h2;exact .aa _
 |n+9,h1,h2=>simp[r9]at h1
theorem CX{m:Mem}{Q:Nat}{o:Obj}{D:List (List Dt)}(h:m[Q]? =some (.row 1 (af D))):e7 m (.agg (nV Q o)) (I8 {o with data:=D}):=by
 refine .agg rfl λi c c' h1 h2=>?_
 match i,h1,h2 with
 |0,h1,h2=>cases h1;cases h2;exact .aa _
 |1,h1,h2=>cases h1;cases h2;exact eT.eU h 0 none
 |2,h1,h2=>cases h1;cases h2;exact .aa _
 |3,h1,h2=>cases h1;cases h2;exact .aa _
 |4,h1,h2=>cases h1;cases h2;exact .aa _
 |5,h1,h2=>cases h1;cases h2;exact .aa _
 |6,h1,h2=>cases h1;cases h2;exact .aa _
 |7,h1,h2=>cases h1;cases h2;exact .aa _
 |8,h1,h2=>cases h1;cases h2;exact .aa _
 |n+9,h1,h2=>simp[nV]at h1
theorem dK(d:List (List Dt)):(af d).length=d.length:=by simp[af]
theorem A0(D b:List (List Dt))(A:Nat):cP (af D) A (af b)=af (cP D A b):=by simp[cP,af,aci,ac9]
theorem MT(x:Nat):ip 0 x=x:=by simp[ip]
def mW:LC->LC
 | .seq _ b=>b
 |x=>x
def unW:LC->LC
 | .cS a=>a
 |x=>x
def C57:LC:=mW (mW (mW (mW c58.code)))
def G57:LC:=unW C57
theorem Tj(o:Obj)(D b:List (List Dt))(A:Nat)(h:b.length≠0->A+b.length<=D.length):
  aw prog 0 G57 (oc prog c58.lK (λr m=>cQ m r (.bz [I8 {o with data:=if b.length=0 then D else cP D A b},cK 0])))
   ⟨km 68 [(1,an .i64 (A:Nat)),(2,rI 1 b),(6,.rv (.one (.ptr 0 0))),(8,.rv (.one (.ptr 2 0)))],[.var r9,.row 1 (af D),.var (nV 1 o)]⟩:=by
 have hm:=ny A D.length;have hmi:p4 (an .i64 (if((lenOf (af D).length 0 none:Nat):Int)<(A:Int)then((lenOf (af D).length 0 none:Nat):Int)else(A:Int)))=some (fg A D.length):=by have e:lenOf (af D).length 0 none=D.length:=dK D;rw[e,r8];rfl
 refine ag hmi ?_;refine cA (by show(Nat.ble (fg A D.length) (af D).length&&Nat.ble (af D).length ((af D).length-0))=true;rw[dK];simp[abn];omega) ?_
 by_cases hb:b.length=0
 .rw[if_pos hb];refine cA (by show Nat.beq (af b).length 0=true;rw[dK,hb];rfl) ?_
  exact kq (CX rfl)
 .rw[if_neg hb];have hle:=h hb;have hmA:fg A D.length=A:=by unfold fg;rw[if_neg om]
  rw[hmA];refine pL (by show Nat.beq (af b).length 0=false;rw[dK];exact Bool.eq_false_iff.2 λhh=>hb (aai hh)) ?_
  refine cA (by have e1:=MT A;show(Nat.beq 1 1&&(Nat.beq 1 1&&(Nat.ble (ip 0 (af D).length) (af D).length&&(Nat.ble (ip 0 A+(af b).length) (ip 0 (af D).length)&&fo (af b)))))=true;rw[jU,e1,dK,dK,MT D.length];simp[abn];omega) ?_
  refine kq (CX ?_);show some (Bk.row 1 (cP (af D) (ip 0 A) (af b)))=_;rw[MT A,A0]
theorem Fs(o:Obj)(hf:o.nT)(da:Int)(b:List (List Dt))(hb:b.length<=4194304):body prog c58 [o.cv,an .i64 da,rI 1 b] [] (λr m=>cQ m r (.bz [I8 (eW o da b).1,cK (eW o da b).2])):=by
 refine bp (λh1=>?_) (λh1=>?_)
 .have h1:o.ah=2:=h1;rw[eW,if_pos h1];exact kq oL
 have h1:¬o.ah=2:=h1;refine bs (λh2=>?_) (λh2=>?_)
 .have h2:o.ah≠1:=h2;rw[eW,if_neg h1,if_pos h2];exact kq oL
 have h2:¬o.ah≠1:=by simpa using h2
 refine aL (λh3=>?_) (λh3=>?_)
 .rw[eW,if_neg h1,if_neg h2,if_pos h3];exact kq oL
 have h3:¬da<0:=h3;refine aL (λh4=>?_) (λh4=>?_)
 .rw[eW,if_neg h1,if_neg h2,if_neg h3,if_pos (.inl h4)];exact kq oL
 have h4:¬da>60:=h4;have hw:IntKind.i64.wrap (60-da)=60-da:=by obtain⟨z,hz⟩:∃z:Nat,60-da=(z:Int):=⟨(60-da).toNat,om⟩;rw[hz,nI om]
 refine aL (λh5=>?_) (λh5=>?_)
 .have h5:(b.length:Int)>IntKind.i64.wrap (60-da):=h5;rw[hw]at h5;rw[eW,if_neg h1,if_neg h2,if_neg h3,if_pos (.inr h5)];exact kq oL
 have h5:¬(b.length:Int)>IntKind.i64.wrap (60-da):=h5;rw[hw]at h5;rw[eW,if_neg h1,if_neg h2,if_neg h3,if_neg (λh=>h.elim h4 h5)]
 obtain⟨A,rfl⟩:∃A:Nat,da=A:=⟨da.toNat,om⟩;rw[show((A:Nat):Int).toNat=A from rfl];have lT:=hf.1;refine pa (pM:=[cz [o]]) (m':=[.var (o.enc.map .aa),.var r9,.aS]) (View.o 3 [0,1,2] [2] (.put (.rv (.one (.fy (dO.eU (Z:=λk=>bw [2] k=true) (ds:=[o.enc]) rfl rfl 0 none)))) .nil)
  (.pe rfl rfl rfl (.pe rfl rfl rfl (.aS (.nil _))))) ?_
 refine PL o hf ?_;obtain⟨N,hN⟩:∃N:Nat,N=if b.length=0 then 0 else A+b.length-o.data.length:=⟨_,rfl⟩
 have hN0:b.length=0->N=0:=λh0=>by rw[hN,if_pos h0]
 have hN1:b.length≠0->N=A+b.length-o.data.length:=λh0=>by rw[hN,if_neg h0]
 have aek:N<=A+b.length-o.data.length:=by
  by_cases h0:b.length=0
  .rw[hN0 h0];exact aaj _
  .rw[hN1 h0];exact Ts _
 clear hN;have Tk:∀j,j<=N->(o.data++List.replicate j zb).length=o.data.length+j:=λj _=>aC
 have hwA:IntKind.i64.wrap ((A:Int)+(b.length:Int))=((A+b.length:Nat):Int):=by
  rw[show(A:Int)+(b.length:Int)=((A+b.length:Nat):Int) by omega,nI om]
 refine bb (λj=>j<=N) [1,2] (λj=>[(6,.rv (.one (.ptr 0 0))),(8,.rv (.one (.ptr 2 0)))]) (λj=>[.var r9,.row 1 (af (o.data++List.replicate j zb)),.var (nV 1 o)]) (λj=>N-j) 0 (aaj _) ?_ (λj hj=>?_)
 .refine View.o1 6 [1,4,5] [] ?_
  .exact .pe rfl rfl rfl (.pt rfl rfl (.bI aC) (.pm rfl rfl rfl))
 have hj:j<=N:=hj;have hlen:lenOf (af (o.data++List.replicate j zb)).length 0 none=o.data.length+j:=by show(af (o.data++List.replicate j zb)).length=_;rw[dK,Tk j hj]
 have iy:∀(D:List (List Dt)),D=o.data++List.replicate j zb->(b.length≠0->A+b.length<=o.data.length+j)->aw prog 0 G57 (oc prog c58.lK (λr m=>cQ m r (.bz [I8 {o with data:=pR o.data A b},cK 0])))
   ⟨km 68 [(1,an .i64 (A:Nat)),(2,rI 1 b),(6,.rv (.one (.ptr 0 0))),(8,.rv (.one (.ptr 2 0)))],[.var r9,.row 1 (af D),.var (nV 1 o)]⟩:=λD hD hh=>by
  have hs:=Tj o D b A (λh0=>by rw[hD,Tk j hj];exact hh h0)
  have e:pR o.data A b=if b.length=0 then D else cP D A b:=by
   unfold pR;by_cases h0:b.length=0
   .rw[if_pos h0,if_pos h0,hD];have:=hN0 h0;have ej:j=0:=om;rw[ej];simp
   .rw[if_neg h0,if_neg h0,hD];have:=hh h0;have ej:j=A+b.length-o.data.length:=om;rw[Ti,ej]
  rw[e];exact hs
 have out:∀e,iF (sg [0,1,2] 3) [.var r9,.row 1 (af (o.data++List.replicate j zb)),.var (nV 1 o)] (λk=>bw [] k=true) e (km 68 [(1,an .i64 (A:Nat)),(2,rI 1 b),(6,.rv (.one (.ptr 0 0))),(8,.rv (.one (.ptr 2 0)))])->
   View 0 ⟨e,[.var r9,.row 1 (af (o.data++List.replicate j zb)),.var (nV 1 o)]⟩ ⟨km 68 [(1,an .i64 (A:Nat)),(2,rI 1 b),(6,.rv (.one (.ptr 0 0))),(8,.rv (.one (.ptr 2 0)))],[.var r9,.row 1 (af (o.data++List.replicate j zb)),.var (nV 1 o)]⟩:=λe he=>
  View.o 3 [0,1,2] [] he (.pe rfl rfl rfl (.pr rfl rfl rfl (.pm rfl rfl rfl)))
 refine aL (λh6=>?_) (λh6=>?_)
 .have h6:((lenOf (af (o.data++List.replicate j zb)).length 0 none:Nat):Int)<IntKind.i64.wrap ((A:Int)+(b.length:Int)):=h6;rw[hlen,hwA]at h6;refine aL (λh7=>?_) (λh7=>?_)
  .have h7:(b.length:Int)>0:=h7;have:=hN1 om;refine⟨by simp only[bV,dK,aah,abv,Tk j hj];omega,?_⟩
   refine⟨j+1,(show j+1<=N by omega),(show N-(j+1)<N-j by omega),View.o1 5 [0,4,2] [] ?_⟩
   .refine .pe rfl rfl rfl (.pt rfl rfl (.bI ?_) (.pm rfl rfl rfl));rw[List.replicate_succ'];simp[bV,af,zb]
  .have h7:¬(b.length:Int)>0:=h7;refine⟨_,out _ ?_,iy _ rfl (λh0=>om)⟩
   repeat(first|exact .nil|refine .ap ?_|refine .eq rfl ?_)
 .have h6:¬((lenOf (af (o.data++List.replicate j zb)).length 0 none:Nat):Int)<IntKind.i64.wrap ((A:Int)+(b.length:Int)):=h6;rw[hlen,hwA]at h6;refine⟨_,out _ ?_,iy _ rfl (λh0=>om)⟩
  repeat(first|exact .nil|refine .ap ?_|refine .eq rfl ?_)
theorem CY(o:Obj)(hf:o.nT)(da:Int)(b:List (List Dt))(hb:b.length<=4194304){m:Mem}{K:CV->Mem->Prop}(h:K (.bz [I8 (eW o da b).1,cK (eW o da b).2]) m):aq prog 58 [o.cv,an .i64 da,rI 1 b] m K:=
 bg (b8 func58 l58 (Fs o hf da b hb)) (by simp[Obj.cv,Obj.enc,rI,an,CV.du,CC.du,RV.du]) λr m1 hf=>⟨_,hf,h⟩
def kz(p Q k:Nat)(o:Obj):List CC:=[.aa (.val (.int .i64 o.ah)),.aa (.sl 1 o.data),(if k=p then .row Q 2 0 none else .aa (.sl 2 o.ak)),.aa (.val (.string o.target)),.aa (.val (.int .i64 o.aG)),
 .aa (.sl 4 (o.aj.map br.enc)),.aa (.val (.int .i64 o.aA)),.aa (.val (.int .i64 o.am)),.aa (.val (.int .i64 o.up))]
def bO(p Q:Nat):Nat->List Obj->List (List CC)
 |_,[]=>[]
 |k,o::r=>kz p Q k o::bO p Q (k+1) r
theorem sa(p Q:Nat):∀(a:List Obj)(k:Nat)(b:List Obj),bO p Q k (a++b)=bO p Q k a++bO p Q (k+a.length) b
 | [],k,b=>rfl
 |o::r,k,b=>by simp[bO,sa p Q r (k+1) b,abo,Nat.add_comm 1]
theorem fW(p Q:Nat):∀(l:List Obj)(k:Nat),(bO p Q k l).length=l.length
 | [],_=>rfl
 |o::r,k=>by simp[bO,fW p Q r (k+1)]
theorem wP(p Q:Nat):∀(l:List Obj)(k:Nat),(p<k\/k+l.length<=p)->bO p Q k l=af (l.map Obj.enc)
 | [],_,_=>rfl
 |o::r,k,h=>by simp only[aah]at h;have hk:¬k=p:=om;simp only[bO,kz,if_neg hk,wP p Q r (k+1) om];rfl
theorem fX(p Q:Nat):∀(l:List Obj)(k i:Nat),(bO p Q k l)[i]? =(l[i]?).map (kz p Q (k+i))
 | [],k,i=>by simp[bO]
 |o::r,k,0=>by simp[bO]
 |o::r,k,i+1=>by
  simp only[bO,abA,fX p Q r (k+1) i];rw[show k+1+i=k+(i+1) by omega]
theorem MU{Y:Nat->Nat}{p Q k:Nat}(o:Obj):(kz p Q k o).map (CC.aU Y)=kz p (Y Q) k o:=by
 by_cases h:k=p<;>simp[kz,h,CC.aU]
theorem mX{Y:Nat->Nat}(p Q:Nat):∀(l:List Obj)(k:Nat),(bO p Q k l).map (λcs=>cs.map (CC.aU Y))=bO p (Y Q) k l
 | [],_=>rfl
 |o::r,k=>by simp only[bO,aa9,mX p Q r (k+1)];rw[MU]
theorem A2(d:List (List Dt))(hb:d.length<=4194304):body prog c128 [rI 2 d] [] (λr m=>∃r' m',View 0 ⟨[r],m⟩ ⟨[r'],m'⟩/\r'= .rv (.one (.row 0 2 0 none))/\m'=[.row 2 (af d)]):=by
 have sL:((([]:List (List CC)).length+(d.map λds=>ds.map CC.aa).length)*24)<=140737488355328:=by simp;omega
 have iy:∃r' m',View 0 ⟨[CV.rv (.one (.row 1 2 0 none))],[.aS,.row 2 (bV ([]:List (List CC)) 0 none++d.map λds=>ds.map CC.aa)]⟩ ⟨[r'],m'⟩/\r'=CV.rv (.one (.row 0 2 0 none))/\m'=[Bk.row 2 (af d)]:=
  ⟨_,_,View.o 2 [1] [] (.eq rfl .nil) (.pn rfl rfl rfl),rfl,rfl⟩
 refine aM (λh=>?_) (λh=>?_)
 .have hd:d=[]:=aag (by simpa using aai h)
  refine⟨?_,sL,iy⟩;subst hd;exact⟨_,_,View.aO 0 2 0 rfl rfl rfl,rfl,rfl⟩
 .exact⟨sL,iy⟩
theorem Ft(d:List (List Dt))(hb:d.length<=4194304){m:Mem}{K:CV->Mem->Prop}(h:K (.rv (.one (.row m.length 2 0 none))) (m++ [.row 2 (af d)])):aq prog 128 [rI 2 d] m K:=by
 refine bq [] m.length rfl rfl rfl rfl (args0:=[rI 2 d]) rfl (λi b' hi=>by simp at hi) (K0:=λr m=>r= .rv (.one (.row 0 2 0 none))/\m=[.row 2 (af d)]) (bG (aY func128 l128 (A2 d hb)) λr m1 h=>h) (λr m1 hr=>?_)
 obtain⟨rfl,rfl⟩:=hr;refine⟨aaj _,?_⟩;show K (.rv (.one (.row (m.length+(0-0)) 2 0 none))) (gh m [.row 2 ((af d).map (λcs=>cs.map (CC.aU (sg [] m.length))))])
 rw[hB,bX];exact h
def A3(l:List Obj)(p k:Nat):Bk:=match Nat.blt p k with|true=>.row 2 (af (match l[p]? with|some o=>o.ak|none=>[]))|false=>.aS
theorem vh{Y:Nat->Nat}(l:List Obj)(p k:Nat):(A3 l p k).aU Y=A3 l p k:=by
 unfold A3;split
 .exact Bk.jk _ _
 .rfl
theorem wQ{p Q:Nat}{l:List Obj}{k:Nat}{o:Obj}(h:l[k]? =some o):bO p Q 0 (l.take (k+1))=bO p Q 0 (l.take k)++ [kz p Q k o]:=by have hk:=(I4.1 h).1;rw[rL h,sa,aan,acr om,abb];rfl
theorem I9(l:List Obj)(hf:lG l)(p:Nat):body prog c98 [cz l] [] (λr m=>r= .rv (.one (.row 0 9 0 none))/\m=[.row 9 (bO p 1 0 l),A3 l p l.length]):=by
 obtain⟨hl,Ud⟩:=hf;refine bb (λk=>k<=l.length) [0,9,10] (λk=>[(11,an .i64 (k:Nat)),(3,.rv (.one (.row 0 9 0 none)))]) (λk=>[.row 9 (bO p 1 0 (l.take k)),A3 l p k]) (λk=>l.length-k) 0 (aaj _) ?_ (λk hk=>?_)
 .refine View.trans (View.aO 2 4 0 rfl rfl rfl) (View.trans (View.aO 3 9 1 rfl rfl rfl) (View.o1 2 [1,0] [] ?_))
  .exact .put (by simp[bw]) rfl (.eq rfl aC) (.aS (.nil _))
 .refine aL (λh=>?_) (λh=>?_)
  .have aD:k<l.length:=by have h:(k:Int)<((l.map Obj.enc).length:Int):=h;rw[ML]at h;omega
   have hi:=uX aD;have OA:=Ud _ (aal aD);have hg:dx (l.map Obj.enc) (k:Nat)=some (l[k].enc):=by rw[bA,RA,uX aD];rfl
   generalize l[k]=o at hi OA hg;obtain⟨ah,data,ak,target,aG,aj,aA,am,up⟩:=o;obtain⟨LV,Kk,Rg,Kl⟩:=OA;have LV:data.length<=4194304:=LV;have Kk:ak.length<=4194304:=Kk;have Rg:aj.length<=4194304:=Rg;have Kl:∀q,q∈aj->q.data.length<=4194304:=Kl;have hg:dx (l.map Obj.enc) (k:Nat)=some [.val (.int .i64 ah),.sl 1 data,.sl 2 ak,.val (.string target),.val (.int .i64 aG),.sl 4 (aj.map br.enc),.val (.int .i64 aA),.val (.int .i64 am),.val (.int .i64 up)]:=hg;refine ag hg ?_;refine ig data LV ?_;refine⟨⟨rfl,trivial⟩,?_⟩;by_cases Ic:k=p
   .subst Ic;refine Ft ak Kk ?_;refine⟨trivial,?_⟩;refine⟨trivial,?_⟩;refine⟨trivial,?_⟩;have hR:∀Q,bO k Q 0 (l.take k)=af ((l.take k).map Obj.enc):=λQ=>wP k Q _ 0 (.inr (by simp;omega))
    have hd:A3 l k k= .aS:=by
     have:Nat.blt k k=false:=Bool.eq_false_iff.2 λh=>by rw[abL]at h;omega
     simp only[A3,this]
    rw[hd,hR];refine bb (λj=>j<=aj.length) [0,3,5,9,10,11,24,25] (λj=>[(26,an .i64 (j:Nat)),(6,.rv (.one (.row 4 4 0 none)))])
     (λj=>[.row 9 (af ((l.take k).map Obj.enc)),.aS,.var [.aa (.val (.int .i64 ah)),.aa (.sl 1 data),.row 3 2 0 none,.aa (.val (.string target)),.aa (.val (.int .i64 aG)),.aa (.sl 4 (aj.map br.enc)),.aa (.val (.int .i64 aA)),.aa (.val (.int .i64 am)),.aa (.val (.int .i64 up))],.row 2 (af ak),.row 4 (af ((aj.take j).map br.enc))]) (λj=>aj.length-j) 0 (aaj _) ?_ (λj hj=>?_)
    .refine View.trans (View.aO 6 4 4 rfl rfl rfl) (View.o1 5 [0,1,2,3,4] [] ?_)
     .exact .pr rfl rfl rfl (.aS (.pe rfl rfl rfl (.pr rfl rfl rfl (.pn rfl rfl rfl))))
    .have hj:j<=aj.length:=hj;refine aL (λh=>?_) (λh=>?_)
     .have d8:j<aj.length:=by have h:(j:Int)<((aj.map br.enc).length:Int):=h;rw[ML]at h;omega
      have yd:=uX d8;have ID:=Kl _ (aal d8);generalize aj[j]=q at yd ID;obtain⟨qd,qh,qo,qr⟩:=q;have BI:dx (aj.map br.enc) (j:Nat)=some [.sl 1 qd,.val (.bool qh),.val (.int .i64 qo),.val (.int .i64 qr)]:=by rw[bA,RA,yd];rfl
      refine ag BI ?_;refine ig qd ID ?_;refine⟨?_,?_⟩
      .show((af ((aj.take j).map br.enc)).length+1)*48<=_;simp[af];omega
      refine⟨j+1,d8,(show aj.length-(j+1)<aj.length-j by omega),View.o 8 [0,1,2,3,7] [] ?_ ?_⟩
      .repeat(first|exact .nil|refine .ap ?_|refine .put (.aU (aN om).symm) ?_|refine .eq rfl ?_)
      .refine .pr rfl rfl rfl (.aS (.pe rfl rfl rfl (.pr rfl rfl rfl (.pt rfl rfl (.bI ?_) (.nil _)))));rw[rL yd,abw,dj];rfl
     .have d7:¬(j:Int)<((aj.map br.enc).length:Int):=h;rw[ML]at d7;have hq:aj.take j=aj:=abN om;refine⟨?_,?_⟩
      .show((af ((l.take k).map Obj.enc)).length+1)*128<=_;simp[af];omega
      have SO:A3 l k (k+1)= .row 2 (af ak):=by
       have:Nat.blt k (k+1)=true:=by rw[abL];omega
       simp only[A3,this,hi]
      refine⟨k+1,aD,(show l.length-(k+1)<l.length-k by omega),View.o 7 [6,3] [4] ?_ ?_⟩
      .repeat(first|exact .nil|refine .ap ?_|refine .put (.aU (aN om).symm) ?_|refine .eq rfl ?_)
      .rw[wQ hi,SO,hR];refine .pt rfl rfl (.IB (hB _ _) rfl ?_) (.pn rfl rfl rfl);intro j' c c' h1 h2;have e5:kz k 1 k ⟨ah,data,ak,target,aG,aj,aA,am,up⟩=[.aa (.val (.int .i64 ah)),.aa (.sl 1 data),.row 1 2 0 none,.aa (.val (.string target)),.aa (.val (.int .i64 aG)),.aa (.sl 4 ((aj.take j).map br.enc)),.aa (.val (.int .i64 aA)),.aa (.val (.int .i64 am)),.aa (.val (.int .i64 up))]:=by simp[kz,hq]
       rw[e5]at h2
       match j',h1,h2 with
       |0,h1,h2=>cases h1;cases h2;exact .aU (.aa _)
       |1,h1,h2=>cases h1;cases h2;exact .aU (.aa _)
       |2,h1,h2=>cases h1;cases h2;exact .aU (.row 1 2 0 none)
       |3,h1,h2=>cases h1;cases h2;exact .aU (.aa _)
       |4,h1,h2=>cases h1;cases h2;exact .aU (.aa _)
       |5,h1,h2=>cases h1;cases h2;exact .fy (dO.eU (Z:=λk=>bw [4] k=true) rfl (by rw[<-aT];rfl) 0 none)
       |6,h1,h2=>cases h1;cases h2;exact .aU (.aa _)
       |7,h1,h2=>cases h1;cases h2;exact .aU (.aa _)
       |8,h1,h2=>cases h1;cases h2;exact .aU (.aa _)
       |n+9,h1,h2=>simp at h1
   .refine tf ak Kk ?_;refine⟨trivial,?_⟩;refine⟨trivial,?_⟩;refine⟨trivial,?_⟩;refine bb (λj=>j<=aj.length) [0,3,5,9,10,11,24,25] (λj=>[(26,an .i64 (j:Nat)),(6,.rv (.one (.row 3 4 0 none)))])
     (λj=>[.row 9 (bO p 1 0 (l.take k)),A3 l p k,.var ((⟨ah,data,ak,target,aG,aj,aA,am,up⟩:Obj).enc.map .aa),.row 4 (af ((aj.take j).map br.enc))]) (λj=>aj.length-j) 0 (aaj _) ?_ (λj hj=>?_)
    .refine View.trans (View.aO 6 4 3 rfl rfl rfl) (View.o1 4 [0,1,2,3] [] ?_)
     .exact .pt rfl rfl (.eq (congrArg (Bk.row 9) (mX p 1 _ _)) aC) (.fO (dy rfl) rfl (vh l p k) (.pe rfl rfl rfl (.pn rfl rfl rfl)))
    .have hj:j<=aj.length:=hj;refine aL (λh=>?_) (λh=>?_)
     .have d8:j<aj.length:=by have h:(j:Int)<((aj.map br.enc).length:Int):=h;rw[ML]at h;omega
      have yd:=uX d8;have ID:=Kl _ (aal d8);generalize aj[j]=q at yd ID;obtain⟨qd,qh,qo,qr⟩:=q;have BI:dx (aj.map br.enc) (j:Nat)=some [.sl 1 qd,.val (.bool qh),.val (.int .i64 qo),.val (.int .i64 qr)]:=by rw[bA,RA,yd];rfl
      refine ag BI ?_;refine ig qd ID ?_;refine⟨?_,?_⟩
      .show((af ((aj.take j).map br.enc)).length+1)*48<=_;simp[af];omega
      refine⟨j+1,d8,(show aj.length-(j+1)<aj.length-j by omega),View.o 7 [0,1,2,6] [] ?_ ?_⟩
      .repeat(first|exact .nil|refine .ap ?_|refine .put (.aU (aN om).symm) ?_|refine .eq rfl ?_)
      .refine .pt rfl rfl (.eq (congrArg (Bk.row 9) (mX p 1 _ _)) aC) (.fO (dy rfl) rfl (vh l p k) (.pe rfl rfl rfl (.pt rfl rfl (.bI ?_) (.nil _))));rw[rL yd,abw,dj];rfl
     .have d7:¬(j:Int)<((aj.map br.enc).length:Int):=h;rw[ML]at d7;have hq:aj.take j=aj:=abN om;refine⟨?_,?_⟩
      .show((bO p 1 0 (l.take k)).length+1)*128<=_;rw[fW];simp;omega
      have SO:A3 l p (k+1)=A3 l p k:=by
       have:Nat.blt p (k+1)=Nat.blt p k:=by rw[acZ,abL,abL];omega
       simp only[A3,this]
      refine⟨k+1,aD,(show l.length-(k+1)<l.length-k by omega),View.o 6 [5,1] [3] ?_ ?_⟩
      .repeat(first|exact .nil|refine .ap ?_|refine .put (.aU (aN om).symm) ?_|refine .eq rfl ?_)
      .rw[wQ hi,SO];refine .pt rfl rfl (.IB (mX p 1 _ _) rfl ?_) (.fO (dy rfl) rfl (vh l p k) (.nil _));intro j' c c' h1 h2;have e5:kz p 1 k ⟨ah,data,ak,target,aG,aj,aA,am,up⟩=[.aa (.val (.int .i64 ah)),.aa (.sl 1 data),.aa (.sl 2 ak),.aa (.val (.string target)),.aa (.val (.int .i64 aG)),.aa (.sl 4 ((aj.take j).map br.enc)),.aa (.val (.int .i64 aA)),.aa (.val (.int .i64 am)),.aa (.val (.int .i64 up))]:=by simp[kz,Ic,hq]
       rw[e5]at h2
       match j',h1,h2 with
       |0,h1,h2=>cases h1;cases h2;exact .aU (.aa _)
       |1,h1,h2=>cases h1;cases h2;exact .aU (.aa _)
       |2,h1,h2=>cases h1;cases h2;exact .aU (.aa _)
       |3,h1,h2=>cases h1;cases h2;exact .aU (.aa _)
       |4,h1,h2=>cases h1;cases h2;exact .aU (.aa _)
       |5,h1,h2=>cases h1;cases h2;exact .fy (dO.eU (Z:=λk=>bw [3] k=true) rfl (by rw[<-aT];rfl) 0 none)
       |6,h1,h2=>cases h1;cases h2;exact .aU (.aa _)
       |7,h1,h2=>cases h1;cases h2;exact .aU (.aa _)
       |8,h1,h2=>cases h1;cases h2;exact .aU (.aa _)
       |n+9,h1,h2=>simp at h1
  .have d7:¬(k:Int)<((l.map Obj.enc).length:Int):=h;rw[ML]at d7;have f8:k=l.length:=by have:k<=l.length:=hk;omega
   subst f8;rw[abe];exact⟨rfl,rfl⟩
theorem A4(l:List Obj)(hf:lG l)(p:Nat){m:Mem}{K:CV->Mem->Prop}(h:K (.rv (.one (.row m.length 9 0 none))) (m++ [.row 9 (bO p (m.length+1) 0 l),A3 l p l.length])):aq prog 98 [cz l] m K:=by
 refine bq [] m.length rfl rfl rfl rfl rfl (λi b' hi=>by simp at hi) (aY func98 l98 (I9 l hf p)) (λr m1 hr=>?_)
 obtain⟨h1,h2⟩:=hr;subst h1;subst h2;refine⟨aaj _,?_⟩;show K (.rv (.one (.row (m.length+(0-0)) 9 0 none))) (gh m [.row 9 ((bO p 1 0 l).map (λcs=>cs.map (CC.aU (sg [] m.length)))),(A3 l p l.length).aU (sg [] m.length)])
 rw[mX,vh,bX];exact h
def c108:LF:= ⟨46,[.tmp 6],(.seq (.ai [qu 6 (.aK (qi 0))]) (.seq (.seq (.ai [qm 9 1,qu 10 (.aJ .lss 9 (qi 0)),qm 11 10,qg 12 (.aK 1) 11 false,qg 13 (.aK 0) 11 false,qg 14 (.len 1 13) 11 false,qg 15 (.aJ .geq 12 14) 11 false,qu 16 (.pick 11 (qb true) 15),qm 17 16,qg 18 (.aK 0) 17 false,qg 19 (.aK 1) 17 false,qg 20 (.cw 9 18 19) 17 false,qg 21 (.cj 0 20) 17 false,qg 22 (.load false 1 21) 17 false,qg 23 (.aJ .neq 22 (qi 2)) 17 false,qu 24 (.pick 17 (qb true) 23)]) (.cond 24 (.seq (.ai [qu 6 (.aK (qi (-1)))]) .ret) .skip)) (.seq (.ai [qm 26 0,qm 27 1,qu 28 (.cw 9 26 27),qf 29 2 28,ql 30 29,qm 31 2,qu 32 (qc 134 [30,31,(.c (.rv (.one (.fn 135 []))))]),qm 25 32,qu 33 (.ext 25 0),qu 34 (.ext 25 1),qm 7 33,qm 8 34]) (.seq (.seq (.ai [qm 35 8,qu 36 (.un .not 35)]) (.cond 36 (.seq (.ai [qu 6 (.aK (qi (-1)))]) .ret) .skip)) (.seq (.ai [qm 37 0,qm 38 1,qu 39 (.cw 9 37 38),qf 40 2 39,ql 41 40,qm 42 7,qu 43 (.cw 2 41 42),qf 44 1 43,ql 45 44,qm 6 45]) .ret)))))⟩
def c139:LF:= ⟨9,[.tmp 4],(.seq (.ai [qu 2 (.box 0),qu 4 (.aK (qi 0))]) (.seq (.ai [qf 5 0 2,ql 6 5,qm 7 1,qu 8 (qc 136 [6,7]),qm 4 8]) .ret))⟩
theorem l139:bu prog f139=some c139:=by kernel_rfl
theorem l108:bu prog f108=some c108:=by kernel_rfl
theorem CZ(e:ByteArray×Int)(s:ByteArray):body prog c139 [wI e,eL s] [] (λr m=>r=an .i64 (kZ e.1 s)):=
 MJ e.1 s rfl
theorem Tl(e:ByteArray×Int)(s:ByteArray){m:Mem}{K:CV->Mem->Prop}(h:K (an .i64 (kZ e.1 s)) m):aq prog 139 [wI e,eL s] m K:=
 bv func139 l139 rfl (aae rfl) (CZ e s) rfl rfl h
def wR(l:List Obj)(es:List (ByteArray×Int))(cL:Nat)(s:ByteArray):Int:=if AS es s=true then(match es[qy es s]? with|some e=>e.2|none=>0)else -1
theorem Fu(l:List Obj)(cL:Nat)(hd:cL<l.length)(hk:l[cL].ah=2)(es:List (ByteArray×Int))(he:l[cL].ak=es.map cX)(hl:es.length<=2147483648)(s:ByteArray):body prog c108 [cz l,an .i64 (cL:Nat),eL s] [] (λr m=>r=an .i64 (wR l es cL s)):=by
 have hg:dx (l.map Obj.enc) (cL:Nat)=some l[cL].enc:=by rw[bA,RA,uX hd];rfl
 generalize l[cL]=o at hg hk he;obtain⟨ah,data,ak,target,aG,aj,aA,am,up⟩:=o;have hk:ah=2:=hk;have he:ak=es.map cX:=he;subst hk he;have hg:dx (l.map Obj.enc) (cL:Nat)=some [.val (.int .i64 2),.sl 1 data,.sl 2 (es.map cX),.val (.string target),.val (.int .i64 aG),.sl 4 (aj.map br.enc),.val (.int .i64 aA),.val (.int .i64 am),.val (.int .i64 up)]:=hg;refine aL (λh1=>?_) (λh1=>?_)
 .exfalso;have h1:(cL:Int)>=((l.map Obj.enc).length:Int):=h1;rw[ML]at h1;omega
 refine ag hg ?_;refine ag hg ?_;refine MK es hl s 135 (λe m K h=>Rz e s h) ?_
 refine aM (λh2=>?_) (λh2=>?_)
 .have h2:AS es s=false:=by simpa using h2
  show an _ _=an _ _;rw[wR,if_neg (by rw[h2];simp)]
 .have h2:AS es s=true:=by simpa using h2
  refine ag hg ?_;have aD:qy es s<es.length:=by
   unfold AS at h2;split at h2
   .rename_i e he;exact(I4.1 he).1
   .cases h2
  refine ag (oJ aD) ?_;show an _ _=an _ _;rw[wR,if_pos h2,uX aD]
theorem C0(l:List Obj)(cL:Nat)(hd:cL<l.length)(hk:l[cL].ah=2)(es:List (ByteArray×Int))(he:l[cL].ak=es.map cX)(hl:es.length<=2147483648)(s:ByteArray){m:Mem}{K:CV->Mem->Prop}(h:K (an .i64 (wR l es cL s)) m):aq prog 108 [cz l,an .i64 (cL:Nat),eL s] m K:=
 bv func108 l108 rfl (aae rfl) (Fu l cL hd hk es he hl s) (by simp[cz,an,eL,CV.du,CC.du,RV.du]) rfl h
theorem Fv(l:List Ob)(ok:nw l)(cL:Nat)(hd:cL<l.length)(hk:l[cL].ah=2)(w:bK.dI):body prog c108 [AE l,an .i64 (cL:Nat),bK.vT w] [] (λr m=>r=an .i64 (mg l cL w)):=by
 obtain⟨A5,ael,hlen,uO⟩:=ok.dG cL;have uO:=uO hd;have hf:mg l cL w=(if AS (iL (lC l cL)) (bK.cF w)=true then(match (iL (lC l cL))[qy (iL (lC l cL)) (bK.cF w)]? with|some e=>e.2|none=>0)else -1):=uD A5 (iH _ _) (Hq A5 _)
 rw[hf];have hg:=mT hd;generalize iL (lC l cL)=es at*
 generalize l[cL]=o at hg hk uO;obtain⟨ah,data,ak,target,aG,aj,aA,am,up⟩:=o;have hk:ah=2:=hk;have he:ak=es.map cX:=uO;subst hk he;refine aL (λh1=>?_) (λh1=>?_)
 .exfalso;have h1:(cL:Int)>=((l.map Ob.enc).length:Int):=h1;rw[ML]at h1;omega
 refine ag hg ?_;refine ag hg ?_;refine MK es om (bK.cF w) 135 (λe m K h=>Rz e (bK.cF w) h) ?_
 refine aM (λh2=>?_) (λh2=>?_)
 .have h2:AS es (bK.cF w)=false:=by simpa using h2
  show an _ _=an _ _;rw[if_neg (by rw[h2];simp)]
 .have h2:AS es (bK.cF w)=true:=by simpa using h2
  refine ag hg ?_;have aD:qy es (bK.cF w)<es.length:=by
   unfold AS at h2;split at h2
   .rename_i e he;exact(I4.1 he).1
   .cases h2
  refine ag (oJ aD) ?_;show an _ _=an _ _;rw[if_pos h2,uX aD]
theorem MW(l:List Ob)(ok:nw l)(cL:Nat)(hd:cL<l.length)(hk:l[cL].ah=2)(w:bK.dI){m:Mem}{K:CV->Mem->Prop}(h:K (an .i64 (mg l cL w)) m):aq prog 108 [AE l,an .i64 (cL:Nat),bK.vT w] m K:=
 bv func108 l108 rfl (aae rfl) (Fv l ok cL hd hk w) rfl rfl h
def Ux(l:List Ob)(ar:Int):Nat->Int->Bool
 |0,_=>false
 |n+1,d=>if oz l d 2=false then false else if d=ar then true else if d=0 then false else Ux l ar n (lC l d.toNat).up
theorem wS{l:List Ob}{ar:Int}(V:List Nat)(h:∀x,x∈V->(x:Int)≠ar/\∃y,y∈V/\(lC l x).up=(y:Nat)):∀(n x:Nat),x∈V->Ux l ar n (x:Nat)=false
 |0,_,_=>rfl
 |n+1,x,hx=>by
  obtain⟨h1,y,hy,h2⟩:=h x hx;rw[Ux];by_cases hI:oz l x 2=false
  .rw[if_pos hI]
  rw[if_neg hI,if_neg h1];by_cases h0:(x:Int)=0
  .rw[if_pos h0]
  rw[if_neg h0,aac,h2];exact wS V h n y hy
theorem wT:∀{N:Nat}{V:List Nat},V.Nodup->(∀x,x∈V->x<N)->V.length<=N
 |0,V,_,h=>by
  cases V with
  |nil=>exact Ts _
  |cons x r=>exact absurd (h x aC) (abi x)
 |N+1,V,hd,h=>by
  by_cases hm:N∈V
  .have h1:=List.length_erase_of_mem hm;have h2:=wT (N:=N) (hd.erase N) λx hx=>by rw[hd.mem_erase_iff]at hx;have:=h x hx.2;have:=hx.1;omega
   have:=List.length_pos_of_mem hm;omega
  .have:=wT (N:=N) hd λx hx=>by
    have h1:=h x hx;have:x≠N:=λe=>hm (e▸hx)
    omega
   omega
structure Tm where
 d:Int
 V:List Nat
structure PM(l:List Ob)(ar cL:Int)(a:Tm):Prop where
 nd:a.V.Nodup
 rg:∀x,x∈a.V->x<l.length
 cl:∀x,x∈a.V->(x:Int)≠ar/\((lC l x).up=a.d\/∃y,y∈a.V/\(lC l x).up=(y:Nat))
 eq:Ux l ar (l.length+1-a.V.length) a.d=Ux l ar (l.length+1) cL
theorem PM.le{l:List Ob}{ar cL:Int}{a:Tm}(h:PM l ar cL a):a.V.length<=l.length:=wT h.nd h.rg
theorem PM.uN{l:List Ob}{ar cL:Int}{a:Tm}(h:PM l ar cL a){n:Nat}(hn:a.d=n)(hm:n∈a.V):Ux l ar (l.length+1) cL=false:=by
 rw[<-h.eq,hn];refine wS a.V (λx hx=>?_) _ n hm
 obtain⟨h1,h2⟩:=h.cl x hx;refine⟨h1,?_⟩;rcases h2 with h2|h2
 .exact⟨n,hm,h2.trans hn⟩
 .exact h2
def c132:LF:= ⟨32,[.tmp 2],(.seq (.ai [qu 2 (.aK (qb false))]) (.seq (.seq (.bR [qm 3 0,qu 4 (.aP 3),qf 5 4 4,ql 6 5,qm 7 0,qu 8 (.aP 7),qf 9 1 8,ql 10 9,qu 11 (.aJ .eql 6 10),qm 12 11,qg 13 (.aK 0) 12 true,qg 14 (.aP 13) 12 true,qg 15 (.cj 2 14) 12 true,qg 16 (.load false 1 15) 12 true,qu 17 (.pick 12 16 (qb false))] [(.cons 0 none (.cons 1 none (.cons 2 none (.cons 3 none (.cons 4 none (.cons 5 none (.cons 6 none (.cons 7 none (.cons 8 none (.cons 9 none (.cons 10 none (.cons 11 none (.cons 12 none (.cons 13 none (.cons 14 none .nil)))))))))))))))]) (.cond 17 (.seq (.ai [qu 2 (.aK (qb false))]) .ret) .skip)) (.seq (.bR [qm 18 0,qm 19 0,qu 20 (.aP 19),qf 21 0 20,ql 22 21,qm 23 0,qu 24 (.aP 23),qf 25 4 24,ql 26 25,qu 27 (.cw 9 22 26),qf 28 8 27,ql 29 28,qu 30 (.aP 18),qf 31 4 30,qw (.store 1 31 29)] [(.cons 0 none (.cons 1 none (.cons 2 none (.cons 3 none (.cons 4 none (.cons 5 none (.cons 6 none (.cons 7 none (.cons 8 none (.cons 9 none (.cons 10 none (.cons 11 none (.cons 12 none (.cons 13 none (.cons 14 (some []) .nil)))))))))))))))]) (.seq (.ai [qu 2 (.aK (qb true))]) .ret))))⟩
def c133:LF:= ⟨48,[.tmp 4],(.seq (.ai [qu 4 (.aK (qi 0))]) (.seq (.seq (.ai [qm 8 0,qu 9 (.aP 8),qf 10 3 9,ql 11 10,qu 12 (.aJ .eql 11 (qi 6))]) (.cond 12 (.seq (.ai [qu 4 (.aK (qi 13))]) .ret) .skip)) (.seq (.ai [qm 13 0,qu 14 (.aP 13),qf 15 3 14,ql 16 15,qu 17 (.aJ .add 16 (qi 1)),qu 18 (.aP 13),qf 19 3 18,qw (.store 1 19 17)]) (.seq (.ai [qm 21 1,qu 22 (qc 66 [21]),qm 20 22,qu 23 (.ext 20 0),qu 24 (.ext 20 1),qu 25 (.ext 20 2),qm 5 23,qm 6 24,qm 7 25]) (.seq (.seq (.ai [qm 26 7,qu 27 (.aJ .neq 26 (qi 0))]) (.cond 27 (.seq (.ai [qm 28 7,qm 4 28]) .ret) .skip)) (.seq (.seq (.ai [qm 29 6]) (.cond 29 (.seq (.seq (.ai [qm 30 0,qu 31 (.aP 30),qf 32 2 31,ql 33 32]) (.cond 33 (.seq (.ai [qu 4 (.aK (qi 14))]) .ret) .skip)) (.ai [qm 34 0,qu 35 (.aP 34),qf 36 4 35,qw (.store 1 36 (qi 0))])) .skip)) (.seq (.bR [qm 37 0,qu 38 (.nC 1 [(.aa (.val (.string ⟨#[]⟩)))] 0 []),qm 39 5,qu 40 (.oZ 1 16 38 39),qm 41 0,qu 42 (.aP 41),qf 43 5 42,ql 44 43,qu 45 (.oZ 1 16 40 44),qu 46 (.aP 37),qf 47 5 46,qw (.store 1 47 45)] [(.cons 0 none (.cons 2 none (.cons 4 none (.cons 5 none (.cons 6 none (.cons 7 none (.cons 1 (some [7]) (.cons 3 (some [7]) (.cons 8 (some []) (.cons 9 none (.cons 10 none (.cons 11 (some []) .nil))))))))))))]) (.seq (.ai [qu 4 (.aK (qi 0))]) .ret))))))))⟩
theorem l132:bu prog f132=some c132:=by kernel_rfl
theorem l133:bu prog f133=some c133:=by kernel_rfl
def tJ(l:List Ob)(ar:Nat)(ax:Bool)(h a:Nat)(t:List bK.dI):Bk:= .var [.aa (Ps l),.aa (.val (.int .i64 (ar:Nat))),.aa (.val (.bool ax)),.aa (.val (.int .i64 (h:Nat))),.aa (.val (.int .i64 (a:Nat))),.aa (bK.Yb t)]
theorem wU(l:List Ob)(ar:Nat)(ax:Bool)(h a:Nat)(t:List bK.dI):tJ l ar ax h a t≠.aS:=by intro x;cases x
theorem MX{f:Nat}{args:List CV}(ha:∀Y,args.map (CV.aU Y)=args){l:List Ob}{ar:Nat}{ax:Bool}{h a:Nat}{t:List bK.dI}{Q:CV->Nat->Nat->List bK.dI->Prop}(hr:∀r h a t,Q r h a t->∀Y,r.aU Y=r)(hc:aq prog f (.rv (.one (.ptr 0 0))::args) [tJ l ar ax h a t] (λr m=>∃h' a' t',m=[tJ l ar ax h' a' t']/\Q r h' a' t')){m:Mem}(id:Nat)(hb:cD m id=some (tJ l ar ax h a t)){K:CV->Mem->Prop}(hK:∀r h' a' t',Q r h' a' t'->K r (aW m id (tJ l ar ax h' a' t'))):aq prog f (.rv (.one (.ptr id 0))::args) m K:=by
 have hid:id<m.length:=by rw[aT]at hb;exact(I4.1 hb).1
 refine bq [id] m.length rfl rfl rfl (by simp[eG,hid]) (args0:= .rv (.one (.ptr 0 0))::args) (by rw[aa9,ha];rfl) (λi b' hi=>?_) hc (λr1 m1 rC=>?_)
 .cases i with
  |zero=>
   simp at hi;subst hi;refine .inr ⟨λh=>h,_,?_,.eq rfl (wU _ _ _ _ _ _)⟩
   rw[aT]at hb;exact hb
  |succ i=>simp at hi
 .obtain⟨h',a',t',rfl,hq⟩:=rC;refine⟨Ts _,?_⟩;rw[hr _ _ _ _ hq];show K r1 (cV m [id] [tJ l ar ax h' a' t']);rw[Cx];exact hK _ _ _ _ hq
theorem Ja{r:CV}{l:List Ob}{ar:Nat}{ax:Bool}{h a:Nat}{t:List bK.dI}{X:Mem}(hr:∀Y,r.aU Y=r):View 1 ⟨[r],tJ l ar ax h a t::X⟩ ⟨[r],[tJ l ar ax h a t]⟩:=
 View.of (X.length+1) [0] [] rfl rfl rfl rfl rfl (by simp[eG,Nat.blt]) (.eq (hr _) .nil) (.pt rfl rfl (.eq rfl (wU _ _ _ _ _ _)) (.nil _))
def upR(l:List Ob)(ar:Nat)(ax:Bool)(h a:Nat)(t:List bK.dI)(r:CV)(h' a':Nat)(t':List bK.dI):Prop:=
 h'=h/\t'=t/\((ax=true/\a=ar)/\r=aE false/\a'=a\/¬(ax=true/\a=ar)/\r=aE true/\a'=AY l a)
theorem PN(l:List Ob)(ok:nw l)(ar:Nat)(ax:Bool)(h a:Nat)(ha:a<l.length)(t:List bK.dI):body prog c132 [.rv (.one (.ptr 0 0))] [tJ l ar ax h a t] (λr m=>∃h' a' t',m=[tJ l ar ax h' a' t']/\upR l ar ax h a t r h' a' t'):=by
 have hg:=mT ha;have hu:=ok.MP ha;refine bp (λh1=>?_) (λh1=>?_)
 .cases ax with
  |true=>exact⟨_,_,_,rfl,rfl,rfl,.inl ⟨⟨rfl,om⟩,rfl,rfl⟩⟩
  |false=>
   refine ag hg ?_;refine⟨trivial,?_⟩;rw[hu];exact⟨_,_,_,rfl,rfl,rfl,.inr ⟨aC,rfl,rfl⟩⟩
 .refine ag hg ?_;refine⟨trivial,?_⟩;rw[hu];exact⟨_,_,_,rfl,rfl,rfl,.inr ⟨λh=>h1 (by rw[h.2]),rfl,rfl⟩⟩
theorem Ww(l:List Ob)(ok:nw l)(ar:Nat)(ax:Bool)(h a:Nat)(ha:a<l.length)(t:List bK.dI){m:Mem}(id:Nat)(hb:cD m id=some (tJ l ar ax h a t)){K:CV->Mem->Prop}(SH:(ax=true/\a=ar)->K (aE false) (aW m id (tJ l ar ax h a t)))(hK2:¬(ax=true/\a=ar)->K (aE true) (aW m id (tJ l ar ax h (AY l a) t))):aq prog 132 [.rv (.one (.ptr id 0))] m K:=by
 refine MX (args:=[]) (λ_=>rfl) (Q:=upR l ar ax h a t) (λr h a t hq Y=>?_) (aY func132 l132 (PN l ok ar ax h a ha t)) id hb (λr h' a' t' hq=>?_)
 .rcases hq.2.2 with⟨_,rfl,_⟩|⟨_,rfl,_⟩<;>rfl
 .obtain⟨rfl,rfl,hq⟩:=hq;rcases hq with⟨h1,rfl,rfl⟩|⟨h1,rfl,rfl⟩
  .exact SH h1
  .exact hK2 h1
theorem qA(t:bK.dI):(bK.cM t).1.length<=61:=by
 unfold bK.cM;split
 .simp
 .split
  .simp
  .split
   .show(bK.AX t).length<=61;have h1:=acf bK.rY (bK.gN 47 t);have h2:=bK.wK 47 t;unfold bK.AX;omega
   .simp
inductive OI(p:List bK.dI×Bool×Int)(ax:Bool)(h a:Nat)(t:List bK.dI):CV->Nat->Nat->List bK.dI->Prop
 |loop (h' a':Nat) (t':List bK.dI) (h6:h=6):OI p ax h a t (an .i64 13) h' a' t'
 |fC (h' a':Nat) (t':List bK.dI) (h6:h≠6) (he:p.2.2≠0):OI p ax h a t (an .i64 p.2.2) h' a' t'
 |out (h' a':Nat) (t':List bK.dI) (h6:h≠6) (he:p.2.2=0) (hr:p.2.1=true) (hf:ax=true):OI p ax h a t (an .i64 14) h' a' t'
 |ok (h6:h≠6) (he:p.2.2=0) (hr:¬(p.2.1=true/\ax=true)):OI p ax h a t (an .i64 0) (h+1) (if p.2.1=true then 0 else a) (p.1++t)
theorem OI.data{p:List bK.dI×Bool×Int}{ax:Bool}{h a:Nat}{t:List bK.dI}{r:CV}{h' a':Nat}{t':List bK.dI}(x:OI p ax h a t r h' a' t')(Y:Nat->Nat):r.aU Y=r:=by cases x<;>rfl
def TV1(Q:CV->Mem->Prop)(r:CV)(m:Mem):Prop:=∃r' m',View 1 ⟨[r],m⟩ ⟨[r'],m'⟩/\Q r' m'
theorem PQ(a b:List bK.dI):af (a.map bK.tD)++af (b.map bK.tD)=af ((a++b).map bK.tD):=by rw[abw,bK.dj]
theorem Wx{m:Mem}{Z:Nat->Prop}{id:Nat}{p:Option Nat}{X:List (List CC)}{ds:List (List Dt)}(hz:Z id)(hm:m[id]? =some (.row 1 X))(hX:X=af ds):dO m Z p (.row id 1 0 none) (.sl 1 ds):=by
 subst hX;refine dO.row id 1 0 none (af ds) ds hz hm (by simp[af]) (λi cs es h1 h2=>?_) (λi cs es j c d h1 h2 h3 h4=>?_)
 .simp only[af,RA,h2,aaz,aam]at h1;subst h1;simp
 .simp only[af,RA,h2,aaz,aam]at h1;subst h1;rw[RA,h4]at h3;cases h3;exact .aa _
theorem Wy{l:List Ob}{ar:Nat}{ax:Bool}{h a:Nat}{t parts:List bK.dI}{m:Mem}{Y:Nat->Nat}(hm:m[3]? =some (.row 1 ((([]:List (List CC))++af (parts.map bK.tD))++af (t.map bK.tD)))):
  l9 Y m (λk=>bw [3] k=true) 0 (.var [.aa (Ps l),.aa (.val (.int .i64 (ar:Nat))),.aa (.val (.bool ax)),.aa (.val (.int .i64 (h:Nat))),.aa (.val (.int .i64 (a:Nat))),.row 3 1 0 none]) (tJ l ar ax h a (parts++t)):=
 fa.var (.cons (.aU (.aa _)) (.cons (.aU (.aa _)) (.cons (.aU (.aa _)) (.cons (.aU (.aa _)) (.cons (.aU (.aa _)) (.cons (.fy (Wx rfl hm (by rw[adm];exact PQ parts t))) .nil))))))
theorem Jb(l:List Ob)(ar:Nat)(ax:Bool)(h a:Nat)(hh:h<=6)(t:List bK.dI)(ht:t.length<=1000)(s:bK.dI):
  body prog c133 [.rv (.one (.ptr 0 0)),bK.vT s] [tJ l ar ax h a t] (TV1 λr m=>∃h' a' t',m=[tJ l ar ax h' a' t']/\OI (bK.cM s) ax h a t r h' a' t'):=by
 refine bp (λh1=>?_) (λh1=>?_)
 .exact⟨_,_,Ja (X:=[]) (λ_=>rfl),_,_,_,rfl,.loop _ _ _ om⟩
 have h6:h≠6:=λe=>h1 (by rw[e];rfl)
 refine bK.wN s ?_;have hp:=qA s;generalize bK.cM s=p at hp|-;obtain⟨parts,al,er⟩:=p;have hp:parts.length<=61:=hp;have e1:IntKind.i64.wrap ((h:Int)+1)=((h+1:Nat):Int):=by
  rw[show(h:Int)+1=((h+1:Nat):Int) by omega,nI om]
 rw[e1];refine bs (λh2=>?_) (λh2=>?_)
 .exact⟨_,_,Ja (h:=h+1) (X:=[]) (λ_=>rfl),_,_,_,rfl,.fC _ _ _ h6 h2⟩
 have h2:er=0:=by simpa using h2
 subst h2;cases al with
 |true=>
  cases ax with
  |true=>exact⟨_,_,Ja (h:=h+1) (X:=[]) (λ_=>rfl),_,_,_,rfl,.out _ _ _ h6 rfl rfl rfl⟩
  |false=>
   refine⟨⟨rfl,trivial⟩,?_⟩;refine⟨?_,?_⟩
   .show(0+(af (parts.map bK.tD)).length)*16<=_;rw[bK.be,ML];omega
   refine⟨⟨rfl,trivial⟩,?_⟩;refine⟨?_,?_⟩
   .show((([]:List (List CC))++af (parts.map bK.tD)).length+(af (t.map bK.tD)).length)*16<=_;rw[aba,bK.be,bK.be,ML,ML];show(0+parts.length+t.length)*16<=_;omega
   refine⟨trivial,?_⟩;refine⟨trivial,?_⟩;exact⟨_,_,View.o 4 [0] [3] (.eq rfl .nil) (.pt rfl rfl (Wy (t:=t) (parts:=parts) rfl) (.nil _)),_,_,_,rfl,.ok h6 rfl aC⟩
 |false=>
  refine⟨⟨rfl,trivial⟩,?_⟩;refine⟨?_,?_⟩
  .show(0+(af (parts.map bK.tD)).length)*16<=_;rw[bK.be,ML];omega
  refine⟨⟨rfl,trivial⟩,?_⟩;refine⟨?_,?_⟩
  .show((([]:List (List CC))++af (parts.map bK.tD)).length+(af (t.map bK.tD)).length)*16<=_;rw[aba,bK.be,bK.be,ML,ML];show(0+parts.length+t.length)*16<=_;omega
  refine⟨trivial,?_⟩;refine⟨trivial,?_⟩;exact⟨_,_,View.o 4 [0] [3] (.eq rfl .nil) (.pt rfl rfl (Wy (t:=t) (parts:=parts) rfl) (.nil _)),_,_,_,rfl,.ok h6 rfl aC⟩
theorem Hr(l:List Ob)(ar:Nat)(ax:Bool)(h a:Nat)(hh:h<=6)(t:List bK.dI)(ht:t.length<=1000)(s:bK.dI){m:Mem}(id:Nat)(hb:cD m id=some (tJ l ar ax h a t)){K:CV->Mem->Prop}(hK:∀r h' a' t',OI (bK.cM s) ax h a t r h' a' t'->K r (aW m id (tJ l ar ax h' a' t'))):aq prog 133 [.rv (.one (.ptr id 0)),bK.vT s] m K:=
 MX (args:=[bK.vT s]) (λ_=>rfl) (Q:=OI (bK.cM s) ax h a t) (λr h a t hq Y=>hq.data Y)
  (bG (aY func133 l133 (Jb l ar ax h a hh t ht s)) λr m1⟨r',m',hv,hq⟩=>⟨r',m',hv,hq⟩) id hb hK
def c107:LF:= ⟨118,[.cell true 3 4,.tmp 5,.tmp 6],(.seq (.ai [qu 4 (.alloc [qd 0,qd 0,(.aa (.val (.string ⟨#[]⟩)))]),qu 5 (.aK (qb false)),qu 6 (.aK (qi 0))]) (.seq (.ai [qm 10 0,qu 11 (.aP 10),qf 12 5 11,ql 13 12,qu 14 (.cw 1 13 (qi 0)),ql 15 14,qm 7 15]) (.seq (.ai [qm 16 0,qm 17 0,qu 18 (.aP 17),qf 19 5 18,ql 20 19,qu 21 (.nR 1 20 (some (qi 1)) none none),qu 22 (.aP 16),qf 23 5 22,qw (.store 1 23 21)]) (.seq (.seq (.bR [qm 24 0,qu 25 (.aP 24),qf 26 0 25,ql 27 26,qm 28 0,qu 29 (.aP 28),qf 30 4 29,ql 31 30,qu 32 (.cw 9 27 31),qf 33 0 32,ql 34 33,qu 35 (.aJ .neq 34 (qi 2))] [(.cons 0 none (.cons 1 none (.cons 2 none (.cons 3 none (.cons 4 none (.cons 5 none (.cons 6 none (.cons 7 none (.cons 8 none (.cons 9 none (.cons 10 none (.cons 11 none .nil))))))))))))]) (.cond 35 (.seq (.ai [qu 36 (.build [qd 0,qd 0,(.aa (.val (.string ⟨#[]⟩)))] []),qw (.store 3 4 36),qu 5 (.aK (qb false)),qu 6 (.aK (qi 11))]) .ret) .skip)) (.seq (.seq (.ai [qm 37 7,qu 38 (.aJ .eql 37 (.c (.rv (.one (.aa (.val (.string ⟨#[46,46]⟩)))))))]) (.cond 38 (.seq (.seq (.ai [qm 39 0,qu 40 (qc 132 [39]),qu 41 (.un .not 40)]) (.cond 41 (.seq (.ai [qu 42 (.build [qd 0,qd 0,(.aa (.val (.string ⟨#[]⟩)))] []),qw (.store 3 4 42),qu 5 (.aK (qb false)),qu 6 (.aK (qi 14))]) .ret) .skip)) (.seq (.ai [qu 43 (.build [qd 0,qd 0,(.aa (.val (.string ⟨#[]⟩)))] []),qw (.store 3 4 43),qu 5 (.aK (qb false)),qu 6 (.aK (qi 0))]) .ret)) .skip)) (.seq (.bR [qm 44 0,qu 45 (.aP 44),qf 46 0 45,ql 47 46,qm 48 0,qu 49 (.aP 48),qf 50 4 49,ql 51 50,qm 52 7,qu 53 (qc 108 [47,51,52]),qm 8 53] [(.cons 0 none (.cons 1 none (.cons 2 none (.cons 3 none (.cons 4 none (.cons 5 none (.cons 6 none (.cons 7 none (.cons 8 none (.cons 9 (some []) (.cons 10 none .nil)))))))))))]) (.seq (.ai [qm 54 0,qu 55 (.aP 54),qf 56 5 55,ql 57 56,qu 58 (.len 1 57),qu 59 (.aJ .eql 58 (qi 0)),qm 9 59]) (.seq (.block 0 (.seq (.ai [qm 61 8,qu 62 (.aJ .lss 61 (qi 0)),qm 63 62,qg 64 (.aK 9) 63 true,qu 65 (.pick 63 64 (qb false)),qm 60 65]) (.cond 60 (.seq (.ai [qm 66 0,qu 67 (.aP 66),qf 68 4 67,ql 69 68,qm 70 7,qu 71 (.build [qd 0,qd 0,(.aa (.val (.string ⟨#[]⟩)))] [(0,1,(qi (-1))),(1,1,69),(2,1,70)]),qw (.store 3 4 71),qu 5 (.aK (qb true)),qu 6 (.aK (qi 0))]) .ret) (.seq (.ai [qm 73 8,qu 74 (.aJ .lss 73 (qi 0)),qm 72 74]) (.cond 72 (.seq (.ai [qu 75 (.build [qd 0,qd 0,(.aa (.val (.string ⟨#[]⟩)))] []),qw (.store 3 4 75),qu 5 (.aK (qb false)),qu 6 (.aK (qi 6))]) .ret) (.seq (.ai [qm 77 0,qu 78 (.aP 77),qf 79 0 78,ql 80 79,qm 81 8,qu 82 (.cw 9 80 81),qf 83 0 82,ql 84 83,qu 85 (.aJ .eql 84 (qi 3)),qm 86 85,qg 87 (.aK 9) 86 true,qg 88 (.un .not 87) 86 true,qg 89 (.aK 88) 86 true,qg 90 (.aK 1) 89 false,qg 91 (.pick 89 (qb true) 90) 86 true,qu 92 (.pick 86 91 (qb false)),qm 76 92]) (.cond 76 (.seq (.ai [qu 93 (.build [qd 0,qd 0,(.aa (.val (.string ⟨#[]⟩)))] []),qm 94 0,qm 95 0,qu 96 (.aP 95),qf 97 0 96,ql 98 97,qm 99 8,qu 100 (.cw 9 98 99),qf 101 3 100,ql 102 101,qu 103 (qc 133 [94,102]),qw (.store 3 4 93),qu 5 (.aK (qb false)),qm 6 103]) .ret) (.seq (.ai [qm 105 9,qm 104 105]) (.cond 104 (.seq (.ai [qm 106 8,qm 107 0,qu 108 (.aP 107),qf 109 4 108,ql 110 109,qm 111 7,qu 112 (.build [qd 0,qd 0,(.aa (.val (.string ⟨#[]⟩)))] [(0,1,106),(1,1,110),(2,1,111)]),qw (.store 3 4 112),qu 5 (.aK (qb true)),qu 6 (.aK (qi 0))]) .ret) .skip))))))))) (.seq (.ai [qm 113 0,qm 114 8,qu 115 (.aP 113),qf 116 4 115,qw (.store 1 116 114)]) (.seq (.ai [qu 117 (.build [qd 0,qd 0,(.aa (.val (.string ⟨#[]⟩)))] []),qw (.store 3 4 117),qu 5 (.aK (qb false)),qu 6 (.aK (qi 0))]) .ret))))))))))⟩
theorem l107:bu prog f107=some c107:=by kernel_rfl
def MY(l:List Ob)(ar:Nat)(ax follow:Bool):Nat->Nat->List bK.dI->Nat->R4
 |0=>λ_ _ _=>R4.no 13
 |n+1=>PK l ax (BL l ar ax follow n)
theorem Tn(l:List Ob)(ar:Nat)(ax follow:Bool)(n:Nat):BL l ar ax follow n=Hp l ar ax follow (MY l ar ax follow n):=by
 cases n<;>rfl
def Uy(r:R4):List Dt:=[.val (.int .i64 r.bn),.val (.int .i64 r.cL),.val (.string (bK.cF r.name))]
def stV(r:R4)(ok:Bool):CV:= .bz [.agg ((Uy r).map .aa),.one (.aa (.val (.bool ok))),.one (.aa (.val (.int .i64 r.fC)))]
inductive RB(l:List Ob)(ar:Nat)(ax follow:Bool)(h a:Nat)(s:bK.dI)(t:List bK.dI):CV->Nat->Nat->List bK.dI->Prop
 |done (r:R4) (ok:Bool) (h' a':Nat) (t':List bK.dI) (hd:ok=true\/r.fC≠0) (he:BL l ar ax follow (6-h) (s::t) a=r):RB l ar ax follow h a s t (stV r ok) h' a' t'
 |go (h' a':Nat) (t':List bK.dI) (he:BL l ar ax follow (6-h) (s::t) a=BL l ar ax follow (6-h') t' a') (ha:a'<l.length) (hm:h'=h/\t'=t\/h'=h+1/\h<6/\t'.length<=61+t.length):RB l ar ax follow h a s t (stV (R4.no 0) false) h' a' t'
theorem RB.data{l:List Ob}{ar:Nat}{ax follow:Bool}{h a:Nat}{s:bK.dI}{t:List bK.dI}{r:CV}{h' a':Nat}{t':List bK.dI}(x:RB l ar ax follow h a s t r h' a' t')(Y:Nat->Nat):r.aU Y=r:=by cases x<;>rfl
theorem Jc(t:List bK.dI):((t.map bK.tD).length:Int)=t.length:=by rw[ML]
theorem tK(l:List Ob)(ok:nw l)(ar:Nat)(ax follow:Bool)(h a:Nat)(hh:h<=6)(ha:a<l.length)(s:bK.dI)(t:List bK.dI)(ht:t.length<=1000):
  body prog c107 [.rv (.one (.ptr 0 0)),aE follow] [tJ l ar ax h a (s::t)] (TV1 λr m=>∃h' a' t',m=[tJ l ar ax h' a' t']/\RB l ar ax follow h a s t r h' a' t'):=by
 have hg:=mT ha;have hw:=Tn l ar ax follow (6-h);have hS:∀r,Hp l ar ax follow (MY l ar ax follow (6-h)) (s::t) a=r->BL l ar ax follow (6-h) (s::t) a=r:=λr e=>by rw[hw];exact e
 refine cA (by rw[aab,abn,abn,ML,aah];exact⟨Nat.succ_le_succ (aaj _),Ts _⟩) ?_
 rw[show List.drop 1 (List.take (List.map bK.tD (s::t)).length (List.map bK.tD (s::t)))=t.map bK.tD by rw[abe];rfl]
 refine ag hg ?_;refine bs (λh1=>?_) (λh1=>?_)
 .exact⟨_,_,Ja (λ_=>rfl),_,_,_,rfl,.done (R4.no 11) false _ _ _ (.inr (by simp[R4.no])) (hS _ (by rw[Hp,if_pos (by rw[tI ha];exact h1)]))⟩
 have h1:l[a].ah=2:=by simpa using h1
 have oo:¬(lC l a).ah≠2:=by rw[tI ha,h1];simp
 refine bK.k6 (b:=[46,46]) (λh2=>?_) (λh2=>?_)
 .subst h2;refine Ww l ok ar ax h a ha t 0 rfl (λh3=>?_) (λh3=>?_)
  .exact⟨_,_,Ja (λ_=>rfl),_,_,_,rfl,.done (R4.no 14) false _ _ _ (.inr (by simp[R4.no])) (hS _ (by rw[Hp,if_neg oo,if_pos rfl,if_pos h3]))⟩
  .exact⟨_,_,Ja (λ_=>rfl),_,_,_,rfl,.go h (AY l a) t (hS _ (by rw[Hp,if_neg oo,if_pos rfl,if_neg h3,hw])) (ok.Tg a) (.inl ⟨rfl,rfl⟩)⟩
 refine MW l ok a ha h1 s ?_;refine⟨trivial,?_⟩;have hf:=ok.Th a s;have Wr:mg l a s<0->mg l a s= -1:=λh=>by
  rcases iH (iL (lC l a)) (bK.cF s)with⟨e,he,_,h3⟩|⟨h3,_⟩
  .have:=(ok.dG a).2.1 e he;rw[mg,h3]at h;omega
  .exact h3
 have hW:∀r,(if mg l a s<0 then(if t≠[]then R4.no 6 else⟨-1,a,s,0⟩)else if(lC l (mg l a s).toNat).ah=3/\(follow=true\/t≠[])then MY l ar ax follow (6-h) a t (mg l a s).toNat
  else if t=[]then⟨mg l a s,a,s,0⟩else Hp l ar ax follow (MY l ar ax follow (6-h)) t (mg l a s).toNat)=r->BL l ar ax follow (6-h) (s::t) a=r:=λr e=>hS r (by rw[Hp,if_neg oo,if_neg h2];exact e)
 refine aL (λh3=>?_) (λh3=>?_)
 .refine bp (λh4=>?_) (λh4=>?_)
  .rw[Jc]at h4;have h4:t=[]:=aag om;exact⟨_,_,Ja (λ_=>rfl),_,_,_,rfl,.done ⟨-1,a,s,0⟩ true _ _ _ (.inl rfl) (hW _ (by rw[if_pos h3,if_neg (by simp[h4])]))⟩
  .rw[Jc]at h4;have h4:t≠[]:=λe=>h4 (by rw[e];rfl)
   refine cA (decide_eq_true h3) ?_;exact⟨_,_,Ja (λ_=>rfl),_,_,_,rfl,.done (R4.no 6) false _ _ _ (.inr (by simp[R4.no])) (hW _ (by rw[if_pos h3,if_pos h4]))⟩
 obtain⟨k,VU,hk⟩:=hf h3;rw[if_neg h3]at hW;refine pL (decide_eq_false h3) ?_;rw[VU,aac,tI hk]at hW;have To:=mT hk;have htg:l[k].target=bK.cF (MN l k):=by obtain⟨tg,e⟩:=bK.AV l[k].target;rw[MN,tI hk,e];rfl
 rw[htg]at To;rw[VU];have Wz:¬(l[k].ah=3/\(follow=true\/t≠[]))->∀r,(if t=[]then⟨(k:Int),a,s,0⟩else Hp l ar ax follow (MY l ar ax follow (6-h)) t k)=r->BL l ar ax follow (6-h) (s::t) a=r:=λhn r e=>hW r (by rw[if_neg hn];exact e)
 refine ag To ?_;refine bp (λh6=>?_) (λh6=>?_)
 .have h6:l[k].ah=3:=h6;have WA:(follow=true\/t≠[])->∀r h' a' t',OI (bK.cM (MN l k)) ax h a t r h' a' t'->∃e,r=an .i64 e/\RB l ar ax follow h a s t (stV (R4.no e) false) h' a' t':=by
   intro U4;rw[if_pos ⟨h6,U4⟩]at hW;intro r h' a' t' hq;cases hq with
   |loop _ _ _ e6=>exact⟨13,rfl,.done (R4.no 13) false _ _ _ (.inr (by simp[R4.no])) (hW _ (by rw[e6];rfl))⟩
   |fC _ _ _ e6 he=>exact⟨_,rfl,.done (R4.no _) false _ _ _ (.inr he) (hW _ (by rw[show 6-h=(5-h)+1 by omega];show PK _ _ _ _ _ _=_;rw[PK,if_pos he]))⟩
   |out _ _ _ e6 he hr hf'=>exact⟨14,rfl,.done (R4.no 14) false _ _ _ (.inr (by simp[R4.no])) (hW _ (by rw[show 6-h=(5-h)+1 by omega];show PK _ _ _ _ _ _=_;rw[PK,if_neg (by simp[he]),if_pos ⟨hr,hf'⟩]))⟩
   |ok e6 he hr=>exact⟨0,rfl,.go _ _ _ (hW _ (by rw[show 6-h=(5-h)+1 by omega];show PK _ _ _ _ _ _=_;rw[PK,if_neg (by simp[he]),if_neg hr,show 6-(h+1)=5-h by omega])) (by split;exact ok.pos;exact ha) (.inr ⟨rfl,om,by rw[aba];have:=qA (MN l k);omega⟩)⟩
  refine aM (λh5=>?_) (λh5=>?_)
  .have h5:t≠[]:=λe=>by subst e;cases h5
   refine ag To ?_;refine Hr l ar ax h a hh t ht (MN l k) 0 rfl λr h' a' t' hq=>?_
   obtain⟨e,rfl,OG⟩:=WA (.inr h5) _ _ _ _ hq;exact⟨_,_,Ja (λ_=>rfl),_,_,_,rfl,OG⟩
  .have h5:t=[]:=by
    cases t with
    |nil=>rfl
    |cons x r=>cases h5
   cases follow with
   |true=>
    refine ag To ?_;refine Hr l ar ax h a hh t ht (MN l k) 0 rfl λr h' a' t' hq=>?_
    obtain⟨e,rfl,OG⟩:=WA (.inl rfl) _ _ _ _ hq;exact⟨_,_,Ja (λ_=>rfl),_,_,_,rfl,OG⟩
   |false=>
    have iy:=Wz (by rw[h5];simp)
    rw[if_pos h5]at iy;subst h5;exact⟨_,_,Ja (λ_=>rfl),_,_,_,rfl,.done ⟨(k:Nat),a,s,0⟩ true _ _ _ (.inl rfl) (iy _ rfl)⟩
 .have h6:l[k].ah≠3:=h6;have iy:=Wz (λh=>h6 h.1)
  refine bp (λh7=>?_) (λh7=>?_)
  .rw[Jc]at h7;have h7:t=[]:=aag om;rw[if_pos h7]at iy;exact⟨_,_,Ja (λ_=>rfl),_,_,_,rfl,.done ⟨(k:Nat),a,s,0⟩ true _ _ _ (.inl rfl) (iy _ rfl)⟩
  .rw[Jc]at h7;have h7:t≠[]:=λe=>h7 (by rw[e];rfl)
   rw[if_neg h7,<-hw]at iy;exact⟨_,_,Ja (λ_=>rfl),_,_,_,rfl,.go h k t (iy _ rfl) hk (.inl ⟨rfl,rfl⟩)⟩
theorem A6(l:List Ob)(ok:nw l)(ar:Nat)(ax follow:Bool)(h a:Nat)(hh:h<=6)(ha:a<l.length)(s:bK.dI)(t:List bK.dI)(ht:t.length<=1000){m:Mem}(id:Nat)(hb:cD m id=some (tJ l ar ax h a (s::t))){K:CV->Mem->Prop}(hK:∀r h' a' t',RB l ar ax follow h a s t r h' a' t'->K r (aW m id (tJ l ar ax h' a' t'))):aq prog 107 [.rv (.one (.ptr id 0)),aE follow] m K:=
 MX (args:=[aE follow]) (λ_=>rfl) (Q:=RB l ar ax follow h a s t) (λr h a t hq Y=>hq.data Y)
  (bG (aY func107 l107 (tK l ok ar ax follow h a hh ha s t ht)) λr m1⟨r',m',hv,hq⟩=>⟨r',m',hv,hq⟩) id hb hK
def c67:LF:= ⟨102,[.cell true 3 10,.tmp 11],(.seq (.ai [qu 10 (.alloc [qd 0,qd 0,(.aa (.val (.string ⟨#[]⟩)))]),qu 11 (.aK (qi 0))]) (.seq (.seq (.ai [qm 19 1,qu 20 (.aJ .lss 19 (qi 0)),qm 21 20,qg 22 (.aK 1) 21 false,qg 23 (.aK 0) 21 false,qg 24 (.len 1 23) 21 false,qg 25 (.aJ .geq 22 24) 21 false,qu 26 (.pick 21 (qb true) 25),qm 27 26,qg 28 (.aK 0) 27 false,qg 29 (.aK 1) 27 false,qg 30 (.cw 9 28 29) 27 false,qg 31 (.cj 0 30) 27 false,qg 32 (.load false 1 31) 27 false,qg 33 (.aJ .eql 32 (qi 0)) 27 false,qu 34 (.pick 27 (qb true) 33)]) (.cond 34 (.seq (.ai [qu 35 (.build [qd 0,qd 0,(.aa (.val (.string ⟨#[]⟩)))] []),qw (.store 3 10 35),qu 11 (.aK (qi 6))]) .ret) .skip)) (.seq (.seq (.ai [qm 36 0,qm 37 1,qu 38 (.cw 9 36 37),qf 39 0 38,ql 40 39,qu 41 (.aJ .neq 40 (qi 2))]) (.cond 41 (.seq (.ai [qu 42 (.build [qd 0,qd 0,(.aa (.val (.string ⟨#[]⟩)))] []),qw (.store 3 10 42),qu 11 (.aK (qi 11))]) .ret) .skip)) (.seq (.ai [qm 44 2,qu 45 (qc 66 [44]),qm 43 45,qu 46 (.ext 43 0),qu 47 (.ext 43 1),qu 48 (.ext 43 2),qm 12 46,qm 13 47,qm 14 48]) (.seq (.seq (.ai [qm 49 14,qu 50 (.aJ .neq 49 (qi 0))]) (.cond 50 (.seq (.ai [qu 51 (.build [qd 0,qd 0,(.aa (.val (.string ⟨#[]⟩)))] []),qm 52 14,qw (.store 3 10 51),qm 11 52]) .ret) .skip)) (.seq (.ai [qm 53 0,qm 54 1,qm 55 3,qm 56 1,qm 57 12,qu 58 (.build [.aO,qd 0,(.aa (.val (.bool false))),qd 0,qd 0,.aO] [(0,1,53),(1,1,54),(2,1,55),(4,1,56),(5,1,57)]),qu 59 (.box 58),qm 15 59]) (.seq (.seq (.ai [qm 60 13]) (.cond 60 (.seq (.seq (.ai [qm 61 3]) (.cond 61 (.seq (.ai [qu 62 (.build [qd 0,qd 0,(.aa (.val (.string ⟨#[]⟩)))] []),qw (.store 3 10 62),qu 11 (.aK (qi 14))]) .ret) .skip)) (.ai [qm 63 15,qu 64 (.aP 63),qf 65 4 64,qw (.store 1 65 (qi 0))])) .skip)) (.cS (.seq (.block 0 (.loop (.seq (.seq (.ai [qm 66 15,qu 67 (.aP 66),qf 68 5 67,ql 69 68,qu 70 (.len 1 69),qu 71 (.aJ .gtr 70 (qi 0))]) (.cond 71 .skip (.exit 0))) (.block 1 (.seq (.ai [qm 73 15,qm 74 4,qu 75 (qc 107 [73,74]),qm 72 75,qu 76 (.ext 72 0),qu 77 (.ext 72 1),qu 78 (.ext 72 2),qu 16 (.alloc [qd 0,qd 0,(.aa (.val (.string ⟨#[]⟩)))]),qw (.store 3 16 76),qm 17 77,qm 18 78]) (.seq (.ai [qm 79 17,qm 80 79,qg 81 (.aK 18) 80 false,qg 82 (.aJ .neq 81 (qi 0)) 80 false,qu 83 (.pick 80 (qb true) 82)]) (.cond 83 (.seq (.ai [qL 84 3 16,qm 85 18,qw (.store 3 10 84),qm 11 85]) .ret) .skip))))))) (.seq (.bR [qm 86 15,qu 87 (.aP 86),qf 88 4 87,ql 89 88,qm 90 15,qu 91 (.aP 90),qf 92 0 91,ql 93 92,qm 94 15,qu 95 (.aP 94),qf 96 4 95,ql 97 96,qu 98 (.cw 9 93 97),qf 99 8 98,ql 100 99,qu 101 (.build [qd 0,qd 0,(.aa (.val (.string ⟨#[]⟩)))] [(0,1,89),(1,1,100)]),qw (.store 3 10 101),qu 11 (.aK (qi 0))] [(.cons 0 none (.cons 1 none (.cons 2 none (.cons 3 none (.cons 4 none (.cons 5 none (.cons 6 none (.cons 7 none (.cons 8 none (.cons 9 none (.cons 10 none (.cons 11 none (.cons 12 none (.cons 13 none (.cons 14 none (.cons 15 none (.cons 16 (some []) (.cons 17 none .nil))))))))))))))))))]) .ret))))))))))⟩
theorem l67:bu prog f67=some c67.er:=by kernel_rfl
def Uz(r:R4):CV:= .bz [.agg ((Uy r).map .aa),.one (.aa (.val (.int .i64 r.fC)))]
theorem WB(r:R4):(Uz r).Co=true:=rfl
structure StP where
 h:Nat
 a:Nat
 t:List bK.dI
theorem PR(l:List Ob)(ar:Nat)(ax follow:Bool)(n a:Nat):BL l ar ax follow n [] a=⟨a,AY l a,[],0⟩:=by
 cases n<;>rfl
def G9:LC:=qt (bL (bL (bL (bL (bL (bL (bL c67.code)))))))
def WC:Bk:= .var ((Uy (R4.no 0)).map .aa)
theorem C1(l:List Ob)(ok:nw l)(b:Nat)(ax follow:Bool)(a0:Nat)(UA:a0<l.length)(parts:List bK.dI)(hp:parts.length<=61):
  aw prog 0 G9 (oc prog c67.lK (λr m=>r=Uz (BL l b ax follow 6 parts a0))) ⟨km 102 [(0,AE l),(4,aE follow),(10,.rv (.one (.ptr 0 0))),(15,.rv (.one (.ptr 1 0)))],[WC,tJ l b ax 0 a0 parts]⟩:=by
 refine bb (λa:StP=>a.h<=6/\a.a<l.length/\a.t.length<=61*(a.h+1)/\BL l b ax follow (6-a.h) a.t a.a=BL l b ax follow 6 parts a0) [0,4,10,15] (λ_=>[]) (λa=>[WC,tJ l b ax a.h a.a a.t]) (λa=>(6-a.h)*1000+a.t.length) ⟨0,a0,parts⟩ ⟨aaj _,UA,by simpa using hp,rfl⟩ ?_ (λa ha=>?_)
 .refine View.o 2 [0,1] [] ?_ (.pt rfl rfl (.eq rfl (by intro x;cases x)) (.pt rfl rfl (.eq rfl (wU _ _ _ _ _ _)) (.nil _)))
  repeat(first|exact .nil|refine .ap ?_|refine .eq rfl ?_)
 obtain⟨h,a,t⟩:=a;obtain⟨hh,ha,ht,he⟩:=ha;have hh:h<=6:=hh;have ha:a<l.length:=ha;have ht:t.length<=61*(h+1):=ht;have he:BL l b ax follow (6-h) t a=BL l b ax follow 6 parts a0:=he;refine aL (λh1=>?_) (λh1=>?_)
 .have h1:((t.map bK.tD).length:Int)>0:=h1;rw[Jc]at h1;obtain⟨s,t',rfl⟩:∃s t',t=s::t':=by
   cases t with
   |nil=>simp at h1
   |cons s t'=>exact⟨s,t',rfl⟩
  have ht:t'.length+1<=61*(h+1):=by simpa using ht
  refine A6 l ok b ax follow h a hh ha s t' om 1 rfl λr h' a' WD hq=>?_
  cases hq with
  |done r okk h' a' WD hd hr=>
   rw[<-he,hr];cases okk with
   |true=>exact rfl
   |false=>
    have hd:r.fC≠0:=by simpa using hd
    refine bs (λh2=>?_) (λh2=>?_)
    .exact rfl
    .exact absurd h2 hd
  |go h' a' WD hr RC hm=>
   refine⟨⟨h',a',WD⟩,⟨?_,RC,?_,hr.symm.trans he⟩,?_,View.o 3 [0,1] [] ?_ (.pt rfl rfl (.eq rfl (by intro x;cases x)) (.pt rfl rfl (.eq rfl (wU _ _ _ _ _ _)) (.nil _)))⟩
   .show h'<=6;omega
   .show WD.length<=61*(h'+1);rcases hm with⟨rfl,rfl⟩|⟨rfl,h6,hl⟩
    .omega
    .omega
   .show(6-h')*1000+WD.length<(6-h)*1000+(s::t').length;rw[aah];rcases hm with⟨rfl,rfl⟩|⟨rfl,h6,hl⟩
    .omega
    .omega
   .repeat(first|exact .nil|refine .ap ?_|refine .eq rfl ?_)
 .have h1:¬((t.map bK.tD).length:Int)>0:=h1;rw[Jc]at h1;have h1:t=[]:=aag om;subst h1;rw[PR]at he;refine ag (mT ha) ?_;refine⟨trivial,?_⟩;rw[<-he,ok.MP ha];exact rfl
theorem Jd(l:List Ob)(ok:nw l)(ar:Int)(s:bK.dI)(ax follow:Bool):body prog c67 [AE l,an .i64 ar,bK.vT s,aE ax,aE follow] [] (λr m=>r=Uz (pQ l ar s ax follow)):=by
 have jS:oz l ar 0=false->pQ l ar s ax follow=R4.no 6:=λh=>by rw[pQ,h];rfl
 refine aL (λh1=>?_) (λh1=>?_)
 .rw[jS (by rw[oz,decide_eq_false om];rfl)];rfl
 obtain⟨b,rfl⟩:∃b:Nat,ar=b:=⟨ar.toNat,om⟩;refine aL (λh2=>?_) (λh2=>?_)
 .have h2:(b:Int)>=((l.map Ob.enc).length:Int):=h2;rw[ML]at h2;rw[jS (by rw[oz,decide_eq_false (p:=(b:Int)<l.length) om];simp)];rfl
 have h2:¬(b:Int)>=((l.map Ob.enc).length:Int):=h2;rw[ML]at h2;have hb:b<l.length:=om;have hg:=mT hb;refine ag hg ?_;refine bp (λh3=>?_) (λh3=>?_)
 .have h3:l[b].ah=0:=h3;rw[jS (by unfold oz;rw[aac,uX hb];simp[h3])];rfl
 have h3:l[b].ah≠0:=h3;have hI:oz l b 0=true:=by unfold oz;rw[aac,uX hb];simp[h3,hb]
 have hL:∀r,(if l[b].ah≠2 then R4.no 11 else if(bK.cM s).2.2≠0 then R4.no (bK.cM s).2.2 else if(bK.cM s).2.1=true/\ax=true then R4.no 14
  else BL l b ax follow 6 (bK.cM s).1 (if(bK.cM s).2.1=true then 0 else b))=r->pQ l b s ax follow=r:=λr e=>by
  rw[pQ,if_pos hI,aac,tI hb];exact e
 refine ag hg ?_;refine bs (λh4=>?_) (λh4=>?_)
 .rw[hL _ (if_pos h4)];rfl
 have h4:l[b].ah=2:=by simpa using h4
 rw[if_neg (by rw[h4];simp)]at hL
 refine bK.wN s ?_;have hp:=qA s;generalize bK.cM s=p at hp hL|-;obtain⟨parts,al,er⟩:=p;have hp:parts.length<=61:=hp;refine bs (λh5=>?_) (λh5=>?_)
 .rw[hL _ (if_pos h5)];rfl
 have h5:er=0:=by simpa using h5
 rw[if_neg (by simp[h5])]at hL
 have view:∀a0:Nat,∀e,iF (sg [0,1] 2) [WC,tJ l b ax 0 a0 parts] (λk=>bw [] k=true) e (km 102 [(0,AE l),(4,aE follow),(10,.rv (.one (.ptr 0 0))),(15,.rv (.one (.ptr 1 0)))])->
   View 0 ⟨e,[WC,tJ l b ax 0 a0 parts]⟩ ⟨km 102 [(0,AE l),(4,aE follow),(10,.rv (.one (.ptr 0 0))),(15,.rv (.one (.ptr 1 0)))],[WC,tJ l b ax 0 a0 parts]⟩:=λa0 e he=>
  View.o 2 [0,1] [] he (.pt rfl rfl (.eq rfl (by intro x;cases x)) (.pt rfl rfl (.eq rfl (wU _ _ _ _ _ _)) (.nil _)))
 cases al with
 |true=>
  cases ax with
  |true=>
   rw[hL _ (if_pos ⟨rfl,rfl⟩)];rfl
  |false=>
   rw[hL _ (by rw[if_neg aC,if_pos rfl])]
   refine⟨_,view 0 _ ?_,C1 l ok b false follow 0 ok.pos parts hp⟩;repeat(first|exact .nil|refine .ap ?_|refine .eq rfl ?_)
 |false=>
  rw[hL _ (by rw[if_neg aC,if_neg aC])]
  refine⟨_,view b _ ?_,C1 l ok b ax follow b hb parts hp⟩;repeat(first|exact .nil|refine .ap ?_|refine .eq rfl ?_)
theorem PS(l:List Ob)(ok:nw l)(ar:Int)(s:bK.dI)(ax follow:Bool){m:Mem}{K:CV->Mem->Prop}(h:K (Uz (pQ l ar s ax follow)) m):aq prog 67 [AE l,an .i64 ar,bK.vT s,aE ax,aE follow] m K:=by
 refine bg (K0:=λr _=>r=Uz (pQ l ar s ax follow)) (b8 func67 l67 (Jd l ok ar s ax follow)) (by simp[AE,an,aE,bK.vT,eL,CV.du,CC.du]) λr m1 hr=>?_
 subst hr;exact⟨_,cQ.self (WB _),h⟩
end Go.Proofs.YtodckkkbiidffaaGreatDoor
namespace Go.Proofs.YtodckkkbiidffaaGreatDoor
open Go.AM Go.ChangeShapes Go.WideShapes Go.ChangeAt Go.RowKit
theorem Tp{es:List NE}(hs:ER es){s:ByteArray}(hf:AS es s=false)(n:Int):iG (s,n) es=es.take (qy es s)++(s,n)::es.drop (qy es s):=by
 obtain⟨h0,h1,h2⟩:=oK hs s es.length 0 es.length om om om (λk e hk=>absurd hk (abi k)) (λk e hk he=>by have:=(I4.1 he).1;omega)
 have hI:I1 es s es.length 0 es.length=qy es s:=rfl;rw[hI]at h0 h1 h2;have e1:∀e,e∈es.take (qy es s)->ES e.1 s=false:=λe he=>by obtain⟨k,hk⟩:=Xt he;have f8:=(I4.1 hk).1;rw[aan]at f8;rw[aa8,if_pos om]at hk;have h3:=h1 k e om hk;unfold ES;unfold AB at h3;rw[h3];rfl
 have:=Cy (x:=(s,n)) (a:=es.take (qy es s)) (b:=es.drop (qy es s)) e1;rw[ace]at this;rw[this];congr 1;cases hd:es.drop (qy es s)with
 |nil=>rfl
 |cons e r=>
  have lD:es[qy es s]? =some e:=by
   have:(es.drop (qy es s))[0]? =some e:=by rw[hd];rfl
   rw[abp]at this;simpa using this
  refine Pq ?_;have h3:=h2 (qy es s) e (Ts _) lD;unfold AS at hf;rw[lD]at hf;have dt:¬kZ e.1 s=0:=by simpa using hf
  have dt:e.1.toList≠s.toList:=λh=>dt (wO.2 h)
  show ES e.1 s=true;unfold ES;unfold AB at h3;have h3:Op.bytesLess e.1.toList s.toList=false:=by simpa using h3
  rw[h3];simp[dt]
theorem zl{es:List NE}(hs:ER es)(s:ByteArray):(if AS es s=true then(match es[qy es s]? with|some e=>e.2|none=>0)else -1)=fB es s:=uD hs (Hq hs s) (iH es s)
end Go.Proofs.YtodckkkbiidffaaGreatDoor
namespace Go.Proofs.YtodckkkbiidffaaGreatDoor
open Proofs.Tryz
open Go.AM Go.ChangeShapes Go.WideShapes Go.ChangeAt Go.RowKit
def c65:LF:= ⟨20,[.tmp 2],(.seq (.ai [qu 1 (.box 0),qu 2 (.aK qe)]) (.seq (.ai [qu 3 (.aK qe)]) (.seq (.seq (.ai [qf 6 2 1,ql 7 6,qu 8 (.len 1 7),qu 9 (.aK (qi 0))]) (.block 0 (.loop (.seq (.ai [qu 10 (.aJ .lss 9 8)]) (.seq (.cond 10 .skip (.exit 0)) (.seq (.block 1 (.seq (.ai [qu 11 (.cw 2 7 9),qL 12 2 11,qu 5 (.alloc [(.aa (.val (.string ⟨#[]⟩))),qd 0]),qw (.store 2 5 12)]) (.ai [qm 13 3,qf 14 0 5,ql 15 14,qu 16 (.nC 1 [(.aa (.val (.string ⟨#[]⟩)))] 1 [(0,15)]),qu 17 (.oZ 1 16 13 16),qm 3 17]))) (.ai [qu 18 (.aJ .add 9 (qi 1)),qm 9 18]))))))) (.seq (.ai [qm 19 3,qm 2 19]) .ret))))⟩
def c112:LF:= ⟨128,[.tmp 8,.tmp 9],(.seq (.ai [qu 8 (.aK qe),qu 9 (.aK (qi 0))]) (.seq (.block 0 (.seq (.ai [qm 14 1,qu 15 (.aJ .lss 14 (qi 0)),qm 16 15,qg 17 (.aK 1) 16 false,qg 18 (.aK 0) 16 false,qg 19 (.len 1 18) 16 false,qg 20 (.aJ .geq 17 19) 16 false,qu 21 (.pick 16 (qb true) 20),qm 22 21,qg 23 (.aK 0) 22 false,qg 24 (.aK 1) 22 false,qg 25 (.cw 9 23 24) 22 false,qg 26 (.cj 0 25) 22 false,qg 27 (.load false 1 26) 22 false,qg 28 (.aJ .eql 27 (qi 0)) 22 false,qu 29 (.pick 22 (qb true) 28),qm 30 29,qg 31 (.aK 3) 30 false,qg 32 (.aJ .lss 31 (qi 0)) 30 false,qu 33 (.pick 30 (qb true) 32),qm 34 33,qg 35 (.aK 3) 34 false,qg 36 (.aK 0) 34 false,qg 37 (.len 1 36) 34 false,qg 38 (.aJ .geq 35 37) 34 false,qu 39 (.pick 34 (qb true) 38),qm 40 39,qg 41 (.aK 0) 40 false,qg 42 (.aK 3) 40 false,qg 43 (.cw 9 41 42) 40 false,qg 44 (.cj 0 43) 40 false,qg 45 (.load false 1 44) 40 false,qg 46 (.aJ .eql 45 (qi 0)) 40 false,qu 47 (.pick 40 (qb true) 46),qm 13 47]) (.cond 13 (.seq (.ai [qu 8 (.aK qe),qu 9 (.aK (qi 6))]) .ret) (.seq (.ai [qm 49 0,qm 50 1,qu 51 (.cw 9 49 50),qf 52 0 51,ql 53 52,qu 54 (.aJ .neq 53 (qi 2)),qm 48 54]) (.cond 48 (.seq (.ai [qu 8 (.aK qe),qu 9 (.aK (qi 11))]) .ret) (.seq (.ai [qm 56 0,qm 57 1,qu 58 (.cw 9 56 57),qf 59 7 58,ql 60 59,qu 61 (.aJ .eql 60 (qi 0)),qm 55 61]) (.cond 55 (.seq (.ai [qu 8 (.aK qe),qu 9 (.aK (qi 6))]) .ret) (.seq (.ai [qm 63 2,qu 64 (qc 106 [63]),qu 65 (.un .not 64),qm 66 65,qg 67 (.aK 0) 66 false,qg 68 (.aK 1) 66 false,qg 69 (.aK 2) 66 false,qg 70 (qc 108 [67,68,69]) 66 false,qg 71 (.aJ .geq 70 (qi 0)) 66 false,qu 72 (.pick 66 (qb true) 71),qm 62 72]) (.cond 62 (.seq (.ai [qu 8 (.aK qe),qu 9 (.aK (qi 7))]) .ret) (.seq (.ai [qm 74 0,qm 75 1,qu 76 (.cw 9 74 75),qf 77 2 76,ql 78 77,qu 79 (.len 1 78),qu 80 (.aJ .geq 79 (qi 8)),qm 73 80]) (.cond 73 (.seq (.ai [qu 8 (.aK qe),qu 9 (.aK (qi 15))]) .ret) .skip))))))))))) (.seq (.ai [qm 81 0,qu 82 (qc 98 [81]),qm 10 82]) (.seq (.ai [qm 84 10,qm 85 1,qu 86 (.cw 9 84 85),qf 87 2 86,ql 88 87,qm 89 2,qu 90 (qc 134 [88,89,(.c (.rv (.one (.fn 139 []))))]),qm 83 90,qu 91 (.ext 83 0),qu 92 (.ext 83 1),qm 11 91,qm 12 92]) (.seq (.ai [qm 93 10,qm 94 1,qm 95 10,qm 96 1,qu 97 (.cw 9 95 96),qf 98 2 97,ql 99 98,qm 100 11,qm 101 2,qm 102 3,qu 103 (.build [(.aa (.val (.string ⟨#[]⟩))),qd 0] [(0,1,101),(1,1,102)]),qu 104 (.nC 2 [(.aa (.val (.string ⟨#[]⟩))),qd 0] 1 [(0,103)]),qu 105 (qc 140 [99,100,104]),qu 106 (.cw 9 93 94),qf 107 2 106,qw (.store 1 107 105)]) (.seq (.ai [qm 108 10,qm 109 3,qu 110 (.cw 9 108 109),qf 111 7 110,ql 112 111,qu 113 (.aJ .add 112 (qi 1)),qu 114 (.cw 9 108 109),qf 115 7 114,qw (.store 1 115 113)]) (.seq (.seq (.ai [qm 116 10,qm 117 3,qu 118 (.cw 9 116 117),qf 119 0 118,ql 120 119,qu 121 (.aJ .eql 120 (qi 2))]) (.cond 121 (.ai [qm 122 10,qm 123 3,qm 124 1,qu 125 (.cw 9 122 123),qf 126 8 125,qw (.store 1 126 124)]) .skip)) (.cS (.seq (.ai [qm 127 10,qm 8 127,qu 9 (.aK (qi 0))]) .ret)))))))))⟩
def c140:LF:= ⟨95,[.tmp 6],(.seq (.ai [qu 6 (.aK qe)]) (.seq (.ai [qm 10 0,qm 11 1,qu 12 (.nR 2 10 (some 11) none none)]) (.seq (.ai [qm 13 2,qu 14 (.len 1 13),qm 7 14]) (.seq (.seq (.ai [qm 15 7,qu 16 (.aJ .eql 15 (qi 0))]) (.cond 16 (.seq (.ai [qm 17 0,qm 6 17]) .ret) .skip)) (.seq (.ai [qm 18 0,qu 19 (.len 1 18),qm 8 19]) (.seq (.seq (.ai [qm 20 1,qm 21 8,qu 22 (.aJ .eql 20 21)]) (.cond 22 (.seq (.ai [qm 23 0,qm 24 2,qu 25 (.oZ 2 24 23 24),qm 6 25]) .ret) .skip)) (.seq (.seq (.ai [qm 26 8,qm 27 7,qu 28 (.aJ .add 26 27),qm 29 0,qu 30 (.jO true []),qu 31 (.aJ .gtr 28 30)]) (.cond 31 (.seq (.ai [qm 32 0,qm 33 1,qu 34 (.nR 2 32 none (some 33) none),qm 35 8,qm 36 7,qu 37 (.aJ .add 35 36),qm 38 1,qu 39 (.aJ .sub 37 38),qu 40 (.jO true []),qm 9 40]) (.seq (.ai [qm 41 9,qm 42 1,qu 43 (.nR 2 41 (some 42) none none),qm 44 2,qu 45 (.copy 2 43 44)]) (.seq (.bR [qm 46 9,qm 47 1,qm 48 7,qu 49 (.aJ .add 47 48),qu 50 (.nR 2 46 (some 49) none none),qm 51 0,qm 52 1,qu 53 (.nR 2 51 (some 52) none none),qu 54 (.copy 2 50 53)] [(.cons 0 none (.cons 1 none (.cons 2 none (.cons 3 none (.cons 4 none (.cons 5 none (.cons 6 none (.cons 7 none (.cons 8 (some []) .nil)))))))))]) (.seq (.ai [qm 55 9,qm 6 55]) .ret)))) .skip)) (.seq (.ai [qm 56 0,qm 57 8,qm 58 7,qu 59 (.aJ .add 57 58),qu 60 (.nR 2 56 none (some 59) none),qm 0 60]) (.seq (.seq (.ai [qm 61 2,qm 62 0,qm 63 1,qm 64 7,qu 65 (.aJ .add 63 64),qu 66 (.nR 2 62 (some 65) none none),qu 67 (qc 151 [61,66]),qu 68 (.un .not 67)]) (.cond 68 (.seq (.bR [qm 69 0,qm 70 1,qm 71 7,qu 72 (.aJ .add 70 71),qu 73 (.nR 2 69 (some 72) none none),qm 74 0,qm 75 1,qu 76 (.nR 2 74 (some 75) none none),qu 77 (.copy 2 73 76)] [(.cons 0 none (.cons 1 none (.cons 2 none (.cons 3 none (.cons 4 none (.cons 5 none (.cons 6 none (.cons 7 none (.cons 8 (some []) .nil)))))))))]) (.seq (.ai [qm 78 0,qm 79 1,qu 80 (.nR 2 78 (some 79) none none),qm 81 2,qu 82 (.copy 2 80 81)]) (.seq (.ai [qm 83 0,qm 6 83]) .ret))) .skip)) (.seq (.ai [qm 84 0,qm 85 8,qu 86 (.nR 2 84 (some 85) none none),qm 87 2,qu 88 (.copy 2 86 87)]) (.seq (.ai [qm 89 0,qm 90 1,qu 91 (.nR 2 89 (some 90) none none),qm 92 7,qu 93 (qc 152 [91,92])]) (.seq (.ai [qm 94 0,qm 6 94]) .ret))))))))))))⟩
theorem l65:bu prog f65=some c65:=by kernel_rfl
theorem l140:bu prog f140=some c140:=by kernel_rfl
theorem l112:bu prog f112=some c112.er:=by kernel_rfl
def Yc(e:ByteArray×Int):List Dt:=[.val (.string e.1)]
theorem Fw(o:Obj)(es:List (ByteArray×Int))(he:o.ak=es.map cX)(hl:es.length<=4194304):body prog c65 [o.cv] [] (λr m=>cQ m r (rI 1 (es.map Yc))):=by
 obtain⟨ah,data,ak,target,aG,aj,aA,am,up⟩:=o;have he:ak=es.map cX:=he;subst he;refine bb (λk=>k<=es.length) [7,8] (λk=>[(9,an .i64 (k:Nat)),(3,.rv (.one (.row 0 1 0 none)))]) (λk=>[.row 1 (af ((es.take k).map Yc))]) (λk=>es.length-k) 0 (aaj _) ?_ (λk hk=>?_)
 .refine View.trans (View.aO 3 1 1 rfl rfl rfl) (View.o1 2 [1] [] ?_)
  .exact .pn rfl rfl rfl
 have hk:k<=es.length:=hk;refine aL (λh=>?_) (λh=>?_)
 .have aD:k<es.length:=by have h:(k:Int)<((es.map cX).length:Int):=h;rw[ML]at h;omega
  refine ag (oJ aD) ?_;refine⟨by simp[bV,af];omega,?_⟩
  refine⟨k+1,aD,(show es.length-(k+1)<es.length-k by omega),View.o 4 [3] [] ?_ ?_⟩
  .repeat(first|exact .nil|refine .ap ?_|refine .put (.aU (aN om).symm) ?_|refine .eq rfl ?_)
  .refine .pt rfl rfl (.bI ?_) (.nil _);rw[rL (uX aD),abw,dj];rfl
 .have AF:k=es.length:=by have h:¬(k:Int)<((es.map cX).length:Int):=h;rw[ML]at h;omega
  subst AF;rw[abe];exact .rv (.one (eT.eU rfl 0 none))
theorem MZ(o:Obj)(es:List (ByteArray×Int))(he:o.ak=es.map cX)(hl:es.length<=4194304){m:Mem}{K:CV->Mem->Prop}(h:K (rI 1 (es.map Yc)) m):aq prog 65 [o.cv] m K:=
 bg (aY func65 l65 (Fw o es he hl)) (by simp[Obj.cv,Obj.enc,CV.du,CC.du,RV.du]) λr m1 hf=>⟨_,hf,h⟩
theorem M0(S:List (List Dt))(e:List Dt)(hl:S.length<=4194304):body prog c140 [.rv (.one (.row 0 2 0 none)),an .i64 (S.length:Nat),.rv (.one (.row 1 2 0 none))] [.row 2 (af S),.row 2 (af [e])]
  (λr m=>r= .rv (.one (.row 2 2 0 none))/\m=[.aS,.aS,.row 2 (af (S++ [e]))]):=by
 have hlen:lenOf (af S).length 0 none=S.length:=dK S;refine cA (by show(Nat.ble S.length (lenOf (af S).length 0 none)&&Nat.ble (lenOf (af S).length 0 none) ((af S).length-0))=true;rw[hlen,dK];simp[abn]) ?_
 refine bp (λh=>?_) (λh=>?_)
 .refine⟨by simp[bV,af];omega,rfl,?_⟩
  show [Bk.aS,.aS,.row 2 (bV (af S) 0 none++bV (af [e]) 0 none)]=_;simp[bV,af]
 .exfalso;apply h;show((S.length:Nat):Int)=((lenOf (af S).length 0 none:Nat):Int);rw[hlen]
theorem Tq(S:List (List Dt))(e:List Dt)(hl:S.length<=4194304){m:Mem}{K:CV->Mem->Prop}(a b:Nat)(DV:fJ [a,b]=true)(aD:eG m.length [a,b]=true)(ha:cD m a=some (.row 2 (af S)))(hb:cD m b=some (.row 2 (af [e])))(h:K (.rv (.one (.row m.length 2 0 none))) (cV m [a,b] [.aS,.aS,.row 2 (af (S++ [e]))])):aq prog 140 [.rv (.one (.row a 2 0 none)),an .i64 (S.length:Nat),.rv (.one (.row b 2 0 none))] m K:=by
 refine bq [a,b] m.length rfl rfl DV aD (args0:=[.rv (.one (.row 0 2 0 none)),an .i64 (S.length:Nat),.rv (.one (.row 1 2 0 none))]) rfl (m0:=[.row 2 (af S),.row 2 (af [e])]) (λi b' hi=>?_) (aY func140 l140 (M0 S e hl)) (λr1 m1 hr=>?_)
 .match i,hi with
  |0,hi=>cases hi;exact .inr ⟨λh=>h,_,by rw[aT]at ha;exact ha,.bI rfl⟩
  |1,hi=>cases hi;exact .inr ⟨λh=>h,_,by rw[aT]at hb;exact hb,.bI rfl⟩
  |n+2,hi=>simp at hi
 .obtain⟨rfl,rfl⟩:=hr;refine⟨aC,?_⟩;show K (.rv (.one (.row (m.length+(2-2)) 2 0 none))) (cV m [a,b] [.aS,.aS,.row 2 ((af (S++ [e])).map (λcs=>cs.map (CC.aU (sg [a,b] m.length))))])
  rw[hB];exact h
def aaf:LC:=unW (mW (mW (mW (mW (mW (mW (mW c112.code)))))))
end Go.Proofs.YtodckkkbiidffaaGreatDoor
namespace Go.Proofs.YtodckkkbiidffaaGreatDoor
open Proofs.Tryz
open Go.AM Go.ChangeShapes Go.WideShapes Go.ChangeAt Go.RowKit
open Go.Shelf Go.Lib
theorem kD{P:Program}(w:World)(dT sT ty elem:TypeId)(b o dLen dCap:Nat)(a:Addr)(sLen sCap:Nat)(cs:List Value)(hu:P.underlying dT=some (.slice elem))(hs:(P.info? elem).map (·.size)=some 2)(hn:Nat.min sLen dLen*2=cs.length)(hsrc:∀j v,cs[j]? =some v->w.cell? (a.add j)=some v)(hc:∀j,j<cs.length->(w.cell? ⟨b,o+j,none⟩).isSome=true)(hf:∀j,j<cs.length->w.frozen? ⟨b,o+j,none⟩=false)(h1:∀v∈cs,v.oneCell'=true):
  (Builtin.copy_ #[dT,sT] ty #[.slice (some ⟨b,o,none⟩) dLen dCap,.slice (some a) sLen sCap]).run P w= .ok (goInt (Nat.min sLen dLen)) (w.setCells b o cs):=by
 have hl:=run_loadCells_list (P:=P) w a cs hsrc;have hst:=run_storeCells_cells (P:=P) b o cs 0 w (by simpa using hc) (by simpa using hf) h1
 cases hq:P.info? elem with
 |none=>simp[hq]at hs
 |some i=>
  have hi:i.size=2:=by simpa[hq]using hs
  simp[Builtin.copy_,run_underlying hu,Builtin.lenOf,Builtin.firstCells,sizeOf,typeInfo,hq,hi,hn,hl,hst]
open Go.Shelf Go.Lib in
theorem A7(b off n c i vb voff vc:Nat)(cs vs:List Value)(w:World)(hi:i<n)(hroom:n+1<=c)(hc63:c<=9223372036854775807)(hvb:vb≠b)(hcl:cs.length=n*2)(hvl:vs.length=2)(hcs:∀j v,cs[j]? =some v->w.cell? ⟨b,off+j,none⟩=some v)(hsp:∀j,j<(n+1)*2->(w.cell? ⟨b,off+j,none⟩).isSome=true)(hfz:∀j,j<(n+1)*2->w.frozen? ⟨b,off+j,none⟩=false)(hvs:∀j v,vs[j]? =some v->w.cell? ⟨vb,voff+j,none⟩=some v)(h1c:∀v∈cs,v.oneCell'=true)(h1v:∀v∈vs,v.oneCell'=true)(tA tB:TypeId)(kA kB:Nat)(hsa:w.shape? vb=some (tA,kA))(hsb:w.shape? b=some (tB,kB))(hkB:kB≠0)(hfa:w.frozen? ⟨vb,voff,none⟩=false)(hfe:w.frozen? ⟨vb,kA,none⟩=false):
  Calls prog 140 #[.slice (some ⟨b,off,none⟩) n c,.int .i64 i,.slice (some ⟨vb,voff,none⟩) 1 vc] w λe w'=>
   e= .returned (.slice (some ⟨b,off,none⟩) (n+1) c)/\w'=(w.drew.setCells b (off+(i+1)*2) (cs.drop (i*2))).setCells b (off+i*2) vs:=by
 have hz2:¬((i:Int)=(n:Int)):=om;have hov:∀lb cb,(callFunc 151 #[.slice (some ⟨vb,voff,none⟩) 1 vc,.slice (some ⟨b,off+(i+1)*2,none⟩) lb cb]).run prog w= .ok (.value (.bool false)) w:=λlb cb=>by
  rw[run_callFunc_extern func151 (by kernel_rfl) (by kernel_rfl) (by kernel_rfl) (e:=Extern.SlicesOverlaps.overlaps #[84,84] #[4]) (by kernel_rfl),
   Lib.run_overlaps_apart w 84 4 206 underlying84 2 (λw=>by kernel_rfl) ⟨vb,voff,none⟩ ⟨b,off+(i+1)*2,none⟩ 1 vc lb cb hvb tA tB kA kB hsa hsb hkB hfa hfe]
  rfl
 have hsz:(prog.info? 206).map (·.size)=some 2:=by kernel_rfl
 have hdl:(cs.drop (i*2)).length=(n-i)*2:=by rw[abz,hcl,adn]
 have hw1:IntKind.i64.wrap ((i:Int)+1)=(i:Int)+1:=by rw[IntKind.wrap_i64];omega
 have hw2:IntKind.i64.wrap ((n:Int)+1)=(n:Int)+1:=by rw[IntKind.wrap_i64];omega
 have hb1:(0:Int)<=(i:Int)+1:=om;have hin:i<=n:=om;have htn:((i:Int)+1).toNat=i+1:=om;have htn2:((n:Int)+1).toNat=n+1:=om;have hb2:¬(c=i+1):=om;have hb3:(i:Int)<=(n:Int)+1:=om;have hb4:¬(c=i):=om;have hcp1:∀ty dc sc,(Builtin.copy_ #[84,84] ty #[.slice (some ⟨b,off+(i+1)*2,none⟩) (n-i) dc,.slice (some ⟨b,off+i*2,none⟩) (n+1-i) sc]).run prog w.drew= .ok (goInt ((n-i:Nat):Int)) (w.drew.setCells b (off+(i+1)*2) (cs.drop (i*2))):=λty dc sc=>by
  have hm:Nat.min (n+1-i) (n-i)=n-i:=by simp only[adr];split<;>omega
  have:=kD (P:=prog) w.drew 84 84 ty 206 b (off+(i+1)*2) (n-i) dc ⟨b,off+i*2,none⟩ (n+1-i) sc (cs.drop (i*2)) underlying84 hsz (by rw[hm,hdl])
   (λj v hj=>by rw[Addr.add_lit,abo];exact hcs (i*2+j) v (by rwa [abp]at hj))
   (λj hj=>by rw[abo];exact hsp _ (by rw[hdl]at hj;omega)) (λj hj=>by rw[abo];exact hfz _ (by rw[hdl]at hj;omega)) (λv hv=>h1c v (ab3 hv))
  rwa [hm]at this
 obtain⟨W1,hW1⟩:∃W1,W1=w.drew.setCells b (off+(i+1)*2) (cs.drop (i*2)):=⟨_,rfl⟩;have hsp1:∀k,k<(n+1)*2->(W1.cell? ⟨b,off+k,none⟩).isSome=true:=λk hk=>by rw[hW1];exact isSome_setCells b _ _ _ (λj hj=>by rw[abo];exact hsp _ (by rw[hdl]at hj;omega)) _ (hsp k hk)
 have hcp2:∀(W:World),(∀x,W.cell? x=W1.cell? x)->(∀x,W.frozen? x=W1.frozen? x)->∀ty dc,(Builtin.copy_ #[84,84] ty #[.slice (some ⟨b,off+i*2,none⟩) (n+1-i) dc,.slice (some ⟨vb,voff,none⟩) 1 vc]).run prog W= .ok (goInt 1) (W.setCells b (off+i*2) vs):=λW hWc hWf ty dc=>by
  have hm:Nat.min 1 (n+1-i)=1:=by simp only[adr];split<;>omega
  have:=kD (P:=prog) W 84 84 ty 206 b (off+i*2) (n+1-i) dc ⟨vb,voff,none⟩ 1 vc vs underlying84 hsz (by rw[hm,hvl])
   (λj v hj=>by
    rw[Addr.add_lit,hWc,hW1,World.cell?_setCells_out b _ _ _ _ (λh _=>absurd h hvb)]
    exact hvs j v hj)
   (λj hj=>by rw[hWc,abo];exact hsp1 _ om) (λj hj=>by rw[hWf,hW1,World.frozen?_setCells,abo];exact hfz _ om) h1v
  rwa [hm]at this
 subst hW1
 go_enter func140,ntmps140
 go_wp2_with (simp only[hov])
 have mixed:prog.follows .mixedOrders=true:=by kernel_rfl
 go_region_law_o (refine step_copy_runI rfl _ _ 84 84 rfl _ _ (by simp[Act.eval,Act.put]) (by simp[Act.eval,Act.put]) (hcp1 _ _ _) ?_)
 go_wp2_with (at_builtin;refine wpList_copy_runI _ rfl _ _ 84 84 rfl _ _ rfl rfl (hcp2 _ (λ_=>rfl) (λ_=>rfl) _ _) ?_)
 go_ret
 exact⟨rfl,rfl⟩
def uY:Value:= .agg #[.string ⟨#[]⟩,.int .i64 0]
open Go.Shelf Go.Lib in
theorem C2(b off n c i vb voff vc:Nat)(cs vs:List Value)(w:World)(hi:i<n)(hnc:n<=c)(hroom:c<n+1)(hbig:(n+1)*24<=140737488355328)(hcl:cs.length=n*2)(hvl:vs.length=2)(hcs:∀j v,cs[j]? =some v->w.cell? ⟨b,off+j,none⟩=some v)(hvs:∀j v,vs[j]? =some v->w.cell? ⟨vb,voff+j,none⟩=some v)(h1c:∀v∈cs,v.oneCell'=true)(h1v:∀v∈vs,v.oneCell'=true):
  Calls prog 140 #[.slice (some ⟨b,off,none⟩) n c,.int .i64 i,.slice (some ⟨vb,voff,none⟩) 1 vc] w λe w'=>
   e= .returned (.slice (some ⟨w.heap.size,0,none⟩) (n+1) (grownCap w (n+1) c 206))/\
   w'=(((w.alloc (.cells ((cs.take (i*2)).toArray++Builtin.zeroCells uY.cells (n+1-i)++Builtin.zeroCells uY.cells (grownCap w (n+1) c 206-(n+1))) 206)).drew.setCells w.heap.size (i*2) vs).drew).setCells w.heap.size ((i+1)*2) (cs.drop (i*2)):=by
 obtain⟨i0,hi0,hz0,hzs,hzb⟩:∃i0,prog.info? 206=some i0/\i0.zero=some uY/\i0.size=2/\i0.bytes=24:=by
  have h9:(prog.info? 206).map (λi=>(i.zero,i.size,i.bytes))=some (some uY,2,24):=by kernel_rfl
  cases hi0:prog.info? 206 with
  |none=>rw[hi0]at h9;cases h9
  |some i0=>
   rw[hi0]at h9;simp only[aaz,aam,acz]at h9;exact⟨i0,rfl,h9.1,h9.2.1,h9.2.2⟩
 have hz2:¬((i:Int)=(n:Int)):=om;have hz3:(c:Int)<(n:Int)+1:=om;have hsz:(prog.info? 206).map (·.size)=some 2:=by rw[hi0];simp[hzs]
 have hbw:b<w.heap.size:=block_lt_of_cell (hcs 0 _ (uX om));have hvw:vb<w.heap.size:=block_lt_of_cell (hvs 0 _ (uX om));have hwn:IntKind.i64.wrap ((n:Int)+1)=(n:Int)+1:=by rw[IntKind.wrap_i64];omega
 have hwm:IntKind.i64.wrap ((n:Int)+1-(i:Int))=(n:Int)+1-(i:Int):=by rw[IntKind.wrap_i64];omega
 have hkk:(n:Int)+1-(i:Int)=((n+1-i:Nat):Int):=om;have hik:i+(n+1-i)=n+1:=om;have hold:(Builtin.firstCells i0.size i (.slice (some ⟨b,off,none⟩) i c)).run prog w.drew= .ok (cs.take (i*2)).toArray w.drew:=by
  rw[hzs];exact run_firstCells_some w.drew 2 i ⟨b,off,none⟩ i c (cs.take (i*2)) (by rw[aan];omega) (λj v hj=>by
   rw[Addr.add_lit];rw[aa8]at hj;split at hj
   .exact hcs j v hj
   .cases hj)
 have hrz:∀ty,(Builtin.append_ #[84,3] ty #[.slice (some ⟨b,off,none⟩) i c,.int .i64 ((n:Int)+1-(i:Int))]).run prog w=
   .ok (.slice (some ⟨w.heap.size,0,none⟩) (n+1) (grownCap w (n+1) c 206)) (w.drew.alloc (.cells ((cs.take (i*2)).toArray++Builtin.zeroCells uY.cells (n+1-i)++Builtin.zeroCells uY.cells (grownCap w (n+1) c 206-(n+1))) 206)):=λty=>by
  have h:=Lib.run_append_grow_zeros (P:=prog) w 84 3 ty 206 i0 _ .i64 .i64 underlying84 underlying3 hi0 hz0 (some ⟨b,off,none⟩) i c (cs.take (i*2)) hold (n+1-i) om om om om (by rw[hzb];omega) (by rw[hzb,hik];exact growslice_fits hroom hbig)
  rw[hik]at h;rw[hkk];exact h
 obtain⟨G,hG⟩:∃G,G=grownCap w (n+1) c 206:=⟨_,rfl⟩;obtain⟨ROW,hROW⟩:∃ROW:Array Value,ROW=(cs.take (i*2)).toArray++Builtin.zeroCells uY.cells (n+1-i)++Builtin.zeroCells uY.cells (G-(n+1)):=⟨_,rfl⟩;rw[<-hG]at hrz|-;rw[<-hROW]at hrz|-;have hRl:(n+1)*2<=ROW.size:=by rw[hROW];simp[Builtin.zeroCells,Value.cells,uY];omega
 obtain⟨W1,hW1⟩:∃W1,W1=w.drew.alloc (.cells ROW 206):=⟨_,rfl⟩;rw[<-hW1]at hrz;have hN:∀j,j<(n+1)*2->(W1.cell? ⟨w.heap.size,j,none⟩).isSome=true:=λj hj=>by rw[hW1,World.cell?_alloc_at (w:=w.drew) ROW _ w.heap.size j rfl,abK om];rfl
 have hNf:∀j,W1.frozen? ⟨w.heap.size,j,none⟩=false:=λj=>by rw[hW1];exact World.frozen?_alloc_at (w:=w.drew) ROW _ w.heap.size j rfl
 have hOb:∀j v,w.cell? ⟨b,j,none⟩=some v->W1.cell? ⟨b,j,none⟩=some v:=λj v h=>by rw[hW1,World.cell?_alloc_past (w:=w.drew) _ b j hbw];exact h
 have hOv:∀j v,w.cell? ⟨vb,j,none⟩=some v->W1.cell? ⟨vb,j,none⟩=some v:=λj v h=>by rw[hW1,World.cell?_alloc_past (w:=w.drew) _ vb j hvw];exact h
 have hcpA:∀(W:World),(∀x,W.cell? x=W1.cell? x)->(∀x,W.frozen? x=W1.frozen? x)->∀ty dc,(Builtin.copy_ #[84,84] ty #[.slice (some ⟨w.heap.size,i*2,none⟩) (n+1-i) dc,.slice (some ⟨vb,voff,none⟩) 1 vc]).run prog W= .ok (goInt 1) (W.setCells w.heap.size (i*2) vs):=λW hWc hWf ty dc=>by
  have hm:Nat.min 1 (n+1-i)=1:=by simp only[adr];split<;>omega
  have:=kD (P:=prog) W 84 84 ty 206 w.heap.size (i*2) (n+1-i) dc ⟨vb,voff,none⟩ 1 vc vs underlying84 hsz (by rw[hm,hvl])
   (λj v hj=>by rw[Addr.add_lit,hWc];exact hOv _ v (hvs j v hj))
   (λj hj=>by rw[hWc];exact hN _ om) (λj hj=>by rw[hWf];exact hNf _) h1v
  rwa [hm]at this
 have hGn:n+1<=G:=by rw[hG];exact grownCap_ge w _ _ _
 have hG63:G<=9223372036854775807:=by
  have:=grownCap_le_maxLen w (n+1) c 206 (by unfold maxLen;omega)
  rw[<-hG]at this;unfold maxLen at this;omega
 have hGi:¬(G=i):=om;have hGim:¬(G=i+1):=om;have hci:¬(c=i):=om;have hbN:b≠w.heap.size:=om;have hdl:(cs.drop (i*2)).length=(n-i)*2:=by rw[abz,hcl,adn]
 have hcpB:∀(W:World),(∀x,W.cell? x=(W1.setCells w.heap.size (i*2) vs).cell? x)->(∀x,W.frozen? x=(W1.setCells w.heap.size (i*2) vs).frozen? x)->∀ty dc sc,(Builtin.copy_ #[84,84] ty #[.slice (some ⟨w.heap.size,(i+1)*2,none⟩) (n-i) dc,.slice (some ⟨b,off+i*2,none⟩) (n-i) sc]).run prog W= .ok (goInt ((n-i:Nat):Int)) (W.setCells w.heap.size ((i+1)*2) (cs.drop (i*2))):=λW hWc hWf ty dc sc=>by
  have hm:Nat.min (n-i) (n-i)=n-i:=by simp[adr]
  have:=kD (P:=prog) W 84 84 ty 206 w.heap.size ((i+1)*2) (n-i) dc ⟨b,off+i*2,none⟩ (n-i) sc (cs.drop (i*2)) underlying84 hsz (by rw[hm,hdl])
   (λj v hj=>by
    rw[Addr.add_lit,hWc,World.cell?_setCells_out _ _ _ _ _ (λh _=>absurd h hbN),abo]
    exact hOb _ v (hcs (i*2+j) v (by rwa [abp]at hj)))
   (λj hj=>by rw[hWc];exact isSome_setCells _ _ _ _ (λt ht=>hN _ om) _ (hN _ om))
   (λj hj=>by rw[hWf,World.frozen?_setCells];exact hNf _) (λv hv=>h1c v (ab3 hv))
  rwa [hm]at this
 subst hW1;have hE1:∀x,((w.alloc (.cells ROW 206)).drew).cell? x=(w.drew.alloc (.cells ROW 206)).cell? x:=λx=>rfl
 have hE2:∀x,((w.alloc (.cells ROW 206)).drew).frozen? x=(w.drew.alloc (.cells ROW 206)).frozen? x:=λx=>rfl
 have hF1:∀x,(((w.alloc (.cells ROW 206)).drew.setCells w.heap.size (i*2) vs).drew).cell? x=((w.drew.alloc (.cells ROW 206)).setCells w.heap.size (i*2) vs).cell? x:=λx=>rfl
 have hF2:∀x,(((w.alloc (.cells ROW 206)).drew.setCells w.heap.size (i*2) vs).drew).frozen? x=((w.drew.alloc (.cells ROW 206)).setCells w.heap.size (i*2) vs).frozen? x:=λx=>rfl
 have hw1:IntKind.i64.wrap ((i:Int)+1)=(i:Int)+1:=by rw[IntKind.wrap_i64];omega
 have hb1:(0:Int)<=(i:Int)+1:=om;have hin:i<=n:=om;have htn:((i:Int)+1).toNat=i+1:=om;have hb3:(i:Int)<=(n:Int):=om;have hnn:n+1-(i+1)=n-i:=om;clear hkk hik hold hROW hG hRl;have mixed:prog.follows .mixedOrders=true:=by kernel_rfl
 go_enter func140,ntmps140
 go_wp2_with (first
  |(at_builtin;refine Lib.wpList_append_run _ rfl _ _ _ _ rfl _ _ rfl rfl _ _ (hrz _) ?_)
  |(at_builtin;refine wpList_copy_runI _ rfl _ _ 84 84 rfl _ _ rfl rfl (hcpA _ hE1 hE2 _ _) ?_)
  |(at_builtin;refine wpList_copy_runI _ rfl _ _ 84 84 rfl _ _ rfl rfl (hcpB _ (λ_=>rfl) (λ_=>rfl) _ _ _) ?_))
 go_region_law_o (refine step_copy_runI rfl _ _ 84 84 rfl (.slice (some ⟨w.heap.size,(i+1)*2,none⟩) (n-i) (G-(i+1))) (.slice (some ⟨b,off+i*2,none⟩) (n-i) (c-i)) (by simp[Act.eval,Act.put]) (by simp[Act.eval,Act.put]) (hcpB _ hF1 hF2 3 (G-(i+1)) (c-i)) ?_)
 go_wp2
 go_ret
 exact⟨rfl,rfl⟩
end Go.Proofs.YtodckkkbiidffaaGreatDoor
