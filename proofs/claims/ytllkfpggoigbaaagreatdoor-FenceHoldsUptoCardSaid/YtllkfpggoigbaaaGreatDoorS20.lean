/- Part 20 of 35. -/
import Derived.Test.YtllkfpggoigbaaaGreatDoorS15
import Derived.Test.YtllkfpggoigbaaaGreatDoorS19
set_option linter.unusedVariables false
set_option linter.unusedSimpArgs false
set_option linter.unnecessarySimpa false
set_option maxRecDepth 100000
set_option maxHeartbeats 0
namespace Go.Proofs.YtllkfpggoigbaaaGreatDoor
open Proofs.Tryz
open Go.AM Go.ChangeShapes Go.WideShapes Go.ChangeAt Go.RowKit
namespace Kn
structure GQ(k d:Kr):Prop where
 ex:∃a c,gT k a/\cL a.l a.ops a.ps c.l c.ops c.ps false/\gU c d
theorem jZ{α:Type}{l L:List α}{f:Nat->α->α}(h:Pt l L f):L=l.mapIdx f:=by
 refine ab4 λi=>?_
 rw[ab1];cases hx:l[i]? with
 |none=>exact acq.2 (by rw[h.1];exact acq.1 hx)
 |some x=>rw[h.2 i x hx];rfl
theorem Cb{α:Type}(l:List α)(f:Nat->α->α):Pt l (l.mapIdx f) f:=
 ⟨acd,λt o ho=>by rw[ab1,ho];rfl⟩
theorem OM{A B:List Bool}(hl:A.length=B.length)(h:∀i,dv A i↔dv B i):A=B:=by
 refine List.ext_getElem hl λi h1 h2=>?_
 have R6:=h i;unfold dv at R6;rw[wy h1,wy h2]at R6;simp only[abe]at R6;cases ha:A[i]<;>cases hb:B[i]<;>simp[ha,hb]at R6|-
theorem Ll{l:List Obj}{ops:List aT}{ps:List aL}{b b':Mk}(h:gm l ops ps b)(h':gm l ops ps b'):b=b':=by
 have h1:=h.iC _ _ h'.cl h'.nR;have h2:=h'.iC _ _ h.cl h.nR;obtain⟨O,P⟩:=b;obtain⟨O',P'⟩:=b';have e1:O=O':=OM (h.len.1.trans h'.len.1.symm) λi=>⟨h1.1 i,h2.1 i⟩
 have e2:P=P':=OM (h.len.2.trans h'.len.2.symm) λi=>⟨h1.2 i,h2.2 i⟩
 rw[e1,e2]
theorem uG{k c c':Kr}{e e':Bool}(h:cL k.l k.ops k.ps c.l c.ops c.ps e)(h':cL k.l k.ops k.ps c'.l c'.ops c'.ps e'):c=c'/\e=e':=by
 obtain⟨b,hb,h1,h2⟩:=h.ex;obtain⟨b',uj,R6,UH⟩:=h'.ex;have:=Ll hb uj;subst this;have e1:c.l=c'.l:=(jZ h1).trans (jZ R6).symm;have e2:c.ops=c'.ops:=(jZ h2).trans (jZ UH).symm;have p:=h.pr;rw[e1]at p;have e3:c.ps=c'.ps:=(jZ p).trans (jZ h'.pr).symm;refine⟨?_,?_⟩
 .obtain⟨x,y,z⟩:=c;obtain⟨x',y',z'⟩:=c';simp only at e1 e2 e3;rw[e1,e2,e3]
 .rw[h.en,h'.en,e1]
theorem Cc{k a:Kr}(h:gT k a):a=k\/∃x,cL k.l k.ops k.ps x.l x.ops x.ps true/\gT x a:=by
 induction h with
 |refl=>exact .inl rfl
 | @step a b h s ih=>
  rcases ih with rfl|⟨x,hx,So⟩
  .exact .inr ⟨b,s,.refl⟩
  .exact .inr ⟨x,hx,.step So s⟩
theorem Sp{k a b:Kr}(h1:gT k a)(h2:gT k b):gT a b\/gT b a:=by
 induction h2 with
 |refl=>exact .inr h1
 | @step b c h s ih=>
  rcases ih with h|h
  .exact .inl (.step h s)
  .rcases Cc h with rfl|⟨x,hx,So⟩
   .exact .inl (.step .refl s)
   .have:=(uG hx s).1;subst this;exact .inr So
theorem Sq{k a b c d:Kr}(h1:gT k a)(h2:gT k b)(o1:cL a.l a.ops a.ps c.l c.ops c.ps false)(o2:cL b.l b.ops b.ps d.l d.ops d.ps false):a=b:=by
 have key:∀{a b c:Kr},gT a b->cL a.l a.ops a.ps c.l c.ops c.ps false->b=a:=λh o=>by
  rcases Cc h with h|⟨x,hx,_⟩
  .exact h
  .have:=(uG hx o).2;cases this
 rcases Sp h1 h2 with h|h
 .exact(key h o1).symm
 .exact key h o2
theorem yg{α:Type}{q:Nat->α->Bool}{mn:Nat}{L:List α}{a b:Nat}(ha:jG q mn L a)(hb:jG q mn L b):a=b:=by
 have key:∀{a b:Nat},jG q mn L a->jG q mn L b->¬a<b:=λ{a b}ha hb ax=>by
  have h1:=ha.t.mn;have h2:=hb.t.le;rcases hb.e with h3|⟨o,ho,hq⟩
  .omega
  .have:=ha.t.dr (b-1) o om ho;rw[hq]at this;cases this
 have h1:=key ha hb;have h2:=key hb ha;omega
theorem ON{c d d':Kr}(h:gU c d)(h':gU c d'):d=d':=by obtain⟨n1,n2,n3,P,a1,a2,a3,a4,rfl⟩:=h.ex;obtain⟨m1,m2,m3,P',b1,b2,b3,b4,rfl⟩:=h'.ex;have:=yg a1 b1;subst this;have:=yg a2 b2;subst this;have:=(jZ a3).trans (jZ b3).symm;subst this;have:=yg a4 b4;subst this;rfl
theorem GQ.zK{k d d':Kr}(h:GQ k d)(h':GQ k d'):d=d':=by obtain⟨a,c,h1,h2,h3⟩:=h.ex;obtain⟨a',c',R6,UH,h3'⟩:=h'.ex;have:=Sq h1 R6 h2 UH;subst this;have:=(uG h2 UH).1;subst this;exact ON h3 h3'
def nzB(l:List Obj)(i:Nat):Bool:=match l[i]? with|some o=>o.ah !=0|none=>false
def toB(l:List Obj)(O:List Bool)(i:Nat):Bool:=(l.zip O).any λy=>y.2&&y.1.ag.any λe=>(kO e).2==(i:Int)
def opB(ops:List aT)(P:List Bool)(i:Nat):Bool:=(ops.zip P).any λy=>y.2&&y.1.obj==(i:Int)
def quB(l:List Obj)(O:List Bool)(c:Nat):Bool:=(l.zip O).any λy=>y.2&&y.1.aj.any λq=>q.has&&q.b8==(c:Int)
def Fw(l:List Obj)(ops:List aT)(b:Mk):Mk:=
 ⟨b.O.mapIdx λi x=>x||(nzB l i&&(toB l b.O i||opB ops b.P i)),b.P.mapIdx λc x=>x||quB l b.O c⟩
def Lm(l:List Obj)(ops:List aT)(ps:List aL):Mk:=
 ⟨l.mapIdx λi o=>decide (i=0)&&o.ah !=0,ops.mapIdx λc _=>ps.any λp=>p.aF&&p.an.any λs=>s.has&&s.b8==(c:Int)⟩
def Wk{α:Type}(f:α->α):Nat->α->α
 |0,a=>a
 |n+1,a=>Wk f n (f a)
def pM(l:List Obj)(ops:List aT)(ps:List aL):Mk:=Wk (Fw l ops) (l.length+ops.length) (Lm l ops ps)
theorem uH:∀(a b:List Bool),b.length=a.length->(∀i,dv a i->dv b i)->a≠b->eB b<eB a
 | [],[],_,_,h=>absurd rfl h
 | [],_::_,h,_,_=>by simp at h
 |_::_,[],h,_,_=>by simp at h
 |x::a,y::b,h,hm,fG=>by
  have hl:b.length=a.length:=by simpa using h
  have RL:∀i,dv a i->dv b i:=λi hi=>by have:=hm (i+1);unfold dv at this hi|-;simp only[acr]at this;exact this hi
  have h0:x=true->y=true:=λhx=>by have:=hm 0;unfold dv at this;simp only[List.getElem?_cons_zero,abe]at this;exact this hx
  have hle:=lK a b hl RL;by_cases Fx:a=b
  .subst Fx;cases x<;>cases y
   .exact absurd rfl fG
   .simp[eB]
   .exact absurd (h0 rfl) aD
   .exact absurd rfl fG
  .have ih:=uH a b hl RL Fx;cases x<;>cases y
   .simp only[eB]at ih|-;simpa using ih
   .simp only[eB]at ih|-;simp;omega
   .exact absurd (h0 rfl) aD
   .simp only[eB]at ih|-;simpa using ih
theorem yh:∀a:List Bool,eB a<=a.length:=λa=>by unfold eB;exact acn _ _
theorem uI{A:List Bool}{f:Nat->Bool->Bool}{i:Nat}:dv (A.mapIdx f) i↔∃x,A[i]? =some x/\f i x=true:=by
 unfold dv;rw[ab1];cases A[i]? <;>simp
theorem uJ{l:List Obj}{ops:List aT}(b:Mk):(∀i,dv b.O i->dv (Fw l ops b).O i)/\∀c,dv b.P c->dv (Fw l ops b).P c:=
 ⟨λi h=>uI.2 ⟨true,h,aD⟩,λc h=>uI.2 ⟨true,h,aD⟩⟩
theorem oM{l:List Obj}{ops:List aT}(b:Mk):(Fw l ops b).O.length=b.O.length/\(Fw l ops b).P.length=b.P.length:=
 ⟨acd,acd⟩
theorem OO{l:List Obj}{ops:List aT}(b:Mk):Fw l ops b=b\/(Fw l ops b).mu<b.mu:=by
 have h1:=lK b.O _ (oM b).1 (uJ (l:=l) (ops:=ops) b).1;have h2:=lK b.P _ (oM b).2 (uJ (l:=l) (ops:=ops) b).2;by_cases e1:b.O=(Fw l ops b).O
 .by_cases e2:b.P=(Fw l ops b).P
  .refine .inl ?_;cases hb:b with
   |mk O P=>
    rw[hb]at e1 e2;generalize hm:Fw l ops ⟨O,P⟩=m at e1 e2;cases m;simp only at e1 e2;rw[e1,e2]
  .have:=uH b.P _ (oM b).2 (uJ (l:=l) (ops:=ops) b).2 e2;unfold Mk.mu;omega
 .have:=uH b.O _ (oM b).1 (uJ (l:=l) (ops:=ops) b).1 e1;unfold Mk.mu;omega
theorem Ji{l:List Obj}{ops:List aT}:∀(n:Nat)(b:Mk),b.mu<=n->Fw l ops (Wk (Fw l ops) n b)=Wk (Fw l ops) n b
 |0,b,h=>by
  rcases OO (l:=l) (ops:=ops) b with h1|h1
  .exact h1
  .omega
 |n+1,b,h=>by
  rcases OO (l:=l) (ops:=ops) b with h1|h1
  .have:∀n,Wk (Fw l ops) n b=b:=λn=>by
    induction n with
    |zero=>rfl
    |succ n ih=>show Wk _ n (Fw l ops b)=b;rw[h1,ih]
   rw[this,h1]
  .exact Ji n _ om
theorem wN{α:Type}{f:α->α}{Q:α->Prop}(hf:∀a,Q a->Q (f a)):∀(n:Nat)(a:α),Q a->Q (Wk f n a)
 |0,_,h=>h
 |n+1,a,h=>wN hf n (f a) (hf a h)
theorem Cd{α:Type}{l:List α}{O:List Bool}{g:α->Bool}:(l.zip O).any (λy=>y.2&&g y.1)=true↔∃(i:Nat)(o:α),l[i]? =some o/\dv O i/\g o=true:=by
 rw[abP];constructor
 .rintro⟨⟨o,x⟩,hm,h⟩;obtain⟨i,hi⟩:=aak hm;rw[List.getElem?_zip_eq_some]at hi;simp only[aaL]at h;exact⟨i,o,hi.1,by unfold dv;rw[hi.2,h.1],h.2⟩
 .rintro⟨i,o,h1,h2,h3⟩;refine⟨(o,true),Vm (i:=i) (List.getElem?_zip_eq_some.2 ⟨h1,h2⟩),by simp[h3]⟩
theorem Jj{l:List Obj}{O:List Bool}{n:Nat}:toB l O n=true↔∃(i:Nat)(o:Obj),l[i]? =some o/\dv O i/\(o.ag.any λe=>(kO e).2==(n:Int))=true:=Cd (g:=λo:Obj=>o.ag.any λe=>(kO e).2==(n:Int))
theorem Jk{ops:List aT}{P:List Bool}{n:Nat}:opB ops P n=true↔∃(i:Nat)(o:aT),ops[i]? =some o/\dv P i/\(o.obj==(n:Int))=true:=Cd (g:=λo:aT=>o.obj==(n:Int))
theorem Jl{l:List Obj}{O:List Bool}{n:Nat}:quB l O n=true↔∃(i:Nat)(o:Obj),l[i]? =some o/\dv O i/\(o.aj.any λq=>q.has&&q.b8==(n:Int))=true:=Cd (g:=λo:Obj=>o.aj.any λq=>q.has&&q.b8==(n:Int))
theorem Jm{l:List Obj}{i:Nat}:nzB l i=true↔∃o,l[i]? =some o/\o.ah≠0:=by
 unfold nzB;cases l[i]? <;>simp
theorem GR{l:List Obj}{ops:List aT}{ps:List aL}(ht:∀o,o∈l->o.M1){RO RP:Nat->Prop}(hc:Cl l ops RO RP)(hr:x7 l ops ps RO RP):OC RO RP (pM l ops ps):=by
 refine(wN (Q:=λb=>OC RO RP b/\b.P.length=ops.length) (λb⟨h,RX⟩=>⟨⟨λi hi=>?_,λc hi=>?_⟩,(oM b).2.trans RX⟩) _ _ ⟨⟨λi hi=>?_,λc hi=>?_⟩,acd⟩).1
 .obtain⟨x,h1,h2⟩:=uI.1 hi;cases x with
  |true=>exact h.1 i h1
  |false=>
   rw[acz,aaL,acp]at h2;have hn:=Jm.1 h2.1;rcases h2.2 with h2|h2
   .obtain⟨j,o,hj,ho,hg⟩:=Jj.1 h2;obtain⟨e,he,hei⟩:=abP.1 hg;obtain⟨es,oh⟩:=(ht o (Vm hj)).2.1;rw[oh]at he;obtain⟨⟨nm,z⟩,hx,rfl⟩:=abl.1 he;have hz:z=(i:Int):=by simpa[bP,kO]using hei
    refine hc.e j o (h.1 j ho) hj z i ⟨nm,?_⟩ ⟨hz,hn⟩;rw[oh];exact abl.2 ⟨_,hx,rfl⟩
   .obtain⟨c,o,hj,ho,hg⟩:=Jk.1 h2;exact hc.p c o (h.2 c ho) hj i ⟨by simpa using hg,hn⟩
 .obtain⟨x,h1,h2⟩:=uI.1 hi;cases x with
  |true=>exact h.2 c h1
  |false=>
   rw[acz]at h2;obtain⟨j,o,hj,ho,hg⟩:=Jl.1 h2;obtain⟨q,hq,zM⟩:=abP.1 hg;rw[aaL]at zM;exact hc.q j o (h.1 j ho) hj q.b8 c ⟨q,hq,zM.1,rfl⟩ ⟨by simpa using zM.2,RX▸(Lw.1 h1).1⟩
 .unfold dv Lm at hi;simp only[ab1]at hi;cases ho:l[i]? with
  |none=>rw[ho]at hi;cases hi
  |some o=>
   rw[ho]at hi;simp only[aa3,abe,aaL,decide_eq_true_eq]at hi;obtain⟨rfl,hk⟩:=hi;exact hr.1 0 ⟨rfl,o,ho,by simpa using hk⟩
 .unfold dv Lm at hi;simp only[ab1]at hi;cases ho:ops[c]? with
  |none=>rw[ho]at hi;cases hi
  |some o=>
   rw[ho]at hi;simp only[aa3,abe]at hi;obtain⟨pr,hp,hi⟩:=abP.1 hi;rw[aaL]at hi;obtain⟨s,hs,eR⟩:=abP.1 hi.2;rw[aaL]at eR;obtain⟨p,hp⟩:=aak hp;exact hr.2 p pr hp hi.1 s hs eR.1 c ⟨by simpa using eR.2,(Lw.1 ho).1⟩
theorem Sr(l:List Obj)(ops:List aT)(ps:List aL)(ht:∀o,o∈l->o.M1):gm l ops ps (pM l ops ps):=by
 have hl:zS l ops (pM l ops ps):=wN (Q:=zS l ops) (λb h=>⟨(oM b).1.trans h.1,(oM b).2.trans h.2⟩) _ _ ⟨acd,acd⟩
 have Wl:Fw l ops (pM l ops ps)=pM l ops ps:=by refine Ji _ _ ?_;unfold Mk.mu;have h1:=yh (Lm l ops ps).O;have h2:=yh (Lm l ops ps).P;have h3:(Lm l ops ps).O.length=l.length:=acd;have h4:(Lm l ops ps).P.length=ops.length:=acd;omega
 have hle:= @GR l ops ps ht;have qW:(∀i,dv (Lm l ops ps).O i->dv (pM l ops ps).O i)/\∀c,dv (Lm l ops ps).P c->dv (pM l ops ps).P c:=
  wN (Q:=λb=>(∀i,dv (Lm l ops ps).O i->dv b.O i)/\∀c,dv (Lm l ops ps).P c->dv b.P c) (λb h=>⟨λi hi=>(uJ b).1 i (h.1 i hi),λc hc=>(uJ b).2 c (h.2 c hc)⟩) _ _ ⟨λ_ h=>h,λ_ h=>h⟩
 generalize pM l ops ps=b at hl Wl hle qW|-;have hO:∀n:Nat,(∃o,l[n]? =some o/\o.ah≠0)->(toB l b.O n=true\/opB ops b.P n=true)->dv b.O n:=λn hn hx=>by
  rw[<-Wl];have:n<b.O.length:=by obtain⟨o,ho,_⟩:=hn;rw[hl.1];exact(Lw.1 ho).1
  refine uI.2 ⟨b.O[n],wy this,?_⟩;rw[Jm.2 hn];rcases hx with hx|hx<;>rw[hx]<;>simp
 have gF:Cl l ops (dv b.O) (dv b.P):=by
  refine⟨λi o hi ho z n hs hv=>?_,λi o hi ho z c hs hv=>?_,λc o hc ho n hv=>?_⟩
  .obtain⟨rfl,hn⟩:=hv;obtain⟨nm,hs⟩:=hs;refine hO n hn (.inl (Jj.2 ⟨i,o,ho,hi,abP.2 ⟨_,hs,?_⟩⟩));show((kO (bP (nm,(n:Int)))).2==(n:Int))=true;simp[bP,kO]
  .obtain⟨rfl,hn⟩:=hv;obtain⟨q,hq,h1,h2⟩:=hs;rw[<-Wl];refine uI.2 ⟨b.P[c]'(by rw[hl.2];exact hn),wy _,?_⟩
   have:quB l b.O c=true:=Jl.2 ⟨i,o,ho,hi,abP.2 ⟨q,hq,by simp[h1,h2]⟩⟩
   rw[this];simp
  .obtain⟨h1,hn⟩:=hv;exact hO n hn (.inr (Jk.2 ⟨c,o,ho,hc,by simp[h1]⟩))
 refine⟨hl,⟨λn hv=>qW.1 n ?_,λp pr hp bO s hs hh c hv=>qW.2 c ?_⟩,gF,λRO RP hc hr=>?_⟩
 .obtain⟨h0,o,ho,hk⟩:=hv;have h0:n=0:=om;subst h0;unfold Lm dv;simp only[ab1,ho,aa3,abe];simp[hk]
 .obtain⟨h0,hn⟩:=hv;unfold Lm dv;simp only[ab1,wy hn,aa3,abe];exact abP.2 ⟨pr,Vm hp,by rw[bO,acG];exact abP.2 ⟨s,hs,by simp[hh,h0]⟩⟩
 .exact hle hc hr
def o5(k:Kr):Kr:=
 ⟨k.l.mapIdx (cF (pM k.l k.ops k.ps) k.l k.l.length),k.ops.mapIdx (zT (pM k.l k.ops k.ps) k.ops.length),k.ps.mapIdx (wM (k.l.mapIdx (cF (pM k.l k.ops k.ps) k.l k.l.length)) k.ps.length)⟩
theorem OP(k:Kr)(ht:∀o,o∈k.l->o.M1):cL k.l k.ops k.ps (o5 k).l (o5 k).ops (o5 k).ps (iT (o5 k).l k.ps k.ps.length):=
 ⟨⟨_,Sr k.l k.ops k.ps ht,Cb _ _,Cb _ _⟩,Cb _ _,rfl⟩
def Ee:Nat->Kr->Kr
 |0,k=>o5 k
 |n+1,k=>bif iT (o5 k).l k.ps k.ps.length then Ee n (o5 k)else o5 k
theorem OQ:∀(n:Nat)(k:Kr),dV k.l k.ops k.ps->ma k.ps<=n->∃a,gT k a/\cL a.l a.ops a.ps (Ee n k).l (Ee n k).ops (Ee n k).ps false
 |n,k,hk,hn=>by
  have h:=OP k λo ho=>(hk.sm o ho).t
  cases he:iT (o5 k).l k.ps k.ps.length with
  |false=>
   rw[he]at h;refine⟨k,.refl,?_⟩;have:Ee n k=o5 k:=by
    cases n with
    |zero=>rfl
    |succ n=>show(bif _ then _ else _)=_;rw[he];rfl
   rw[this];exact h
  |true=>
   rw[he]at h;have ax:=h.ma;cases n with
   |zero=>omega
   |succ n=>
    obtain⟨a,h1,h2⟩:=OQ n (o5 k) (h.kr hk) om;have e:Ee (n+1) k=Ee n (o5 k):=by show(bif _ then _ else _)=_;rw[he];rfl
    rw[e];refine⟨a,?_,h2⟩;have:∀{x y:Kr},gT x y->cL k.l k.ops k.ps x.l x.ops x.ps true->gT k y:=λh3 h4=>by
     induction h3 with
     |refl=>exact .step .refl h4
     |step _ s ih=>exact .step ih s
    exact this h1 h
def nh{α:Type}(q:Nat->α->Bool):List α->Nat->Nat->Nat
 | [],_,b=>b
 |x::r,i,b=>nh q r (i+1) (bif q i x then b else i+1)
def Ef{α:Type}(q:Nat->α->Bool)(mn:Nat)(L:List α):Nat:=min L.length (max mn (nh q L 0 0))
theorem Ce{α:Type}(q:Nat->α->Bool):∀(L:List α)(i b:Nat),b<=i->(nh q L i b=b/\(∀(t:Nat)o,L[t]? =some o->q (i+t) o=true))\/
  (i<nh q L i b/\nh q L i b<=i+L.length/\(∃o,L[nh q L i b-1-i]? =some o/\q (nh q L i b-1) o=false)/\∀(t:Nat)o,nh q L i b<=i+t->L[t]? =some o->q (i+t) o=true)
 | [],i,b,h=>.inl ⟨rfl,λt o h=>by simp at h⟩
 |x::r,i,b,h=>by
  cases hq:q i x with
  |true=>
   have e:nh q (x::r) i b=nh q r (i+1) b:=by show nh q r (i+1) (bif q i x then b else i+1)=_;rw[hq];rfl
   rw[e];rcases Ce q r (i+1) b om with⟨h1,h2⟩|⟨h1,h2,⟨o,h3,h4⟩,h5⟩
   .refine .inl ⟨h1,λt o ho=>?_⟩
    cases t with
    |zero=>simp at ho;subst ho;exact hq
    |succ t=>have:=h2 t o (by simpa using ho);rwa [show i+(t+1)=i+1+t by omega]
   .refine .inr ⟨om,by simp;omega,⟨o,?_,h4⟩,λt o ht ho=>?_⟩
    .rw[show nh q r (i+1) b-1-i=(nh q r (i+1) b-1-(i+1))+1 by omega];simpa using h3
    .cases t with
     |zero=>simp at ho;subst ho;exact hq
     |succ t=>have:=h5 t o om (by simpa using ho);rwa [show i+(t+1)=i+1+t by omega]
  |false=>
   have e:nh q (x::r) i b=nh q r (i+1) (i+1):=by show nh q r (i+1) (bif q i x then b else i+1)=_;rw[hq];rfl
   rw[e];rcases Ce q r (i+1) (i+1) (aai _)with⟨h1,h2⟩|⟨h1,h2,⟨o,h3,h4⟩,h5⟩
   .refine .inr ⟨om,by simp;omega,⟨x,by rw[h1];simp,by rw[h1];simpa using hq⟩,λt o ht ho=>?_⟩
    cases t with
    |zero=>omega
    |succ t=>have:=h2 t o (by simpa using ho);rwa [show i+(t+1)=i+1+t by omega]
   .refine .inr ⟨om,by simp;omega,⟨o,?_,h4⟩,λt o ht ho=>?_⟩
    .rw[show nh q r (i+1) (i+1)-1-i=(nh q r (i+1) (i+1)-1-(i+1))+1 by omega];simpa using h3
    .cases t with
     |zero=>omega
     |succ t=>have:=h5 t o om (by simpa using ho);rwa [show i+(t+1)=i+1+t by omega]
theorem pN{α:Type}(q:Nat->α->Bool)(mn:Nat)(L:List α):jG q mn L (Ef q mn L):=by
 unfold Ef;rcases Ce q L 0 0 (aai _)with⟨h1,h2⟩|⟨h1,h2,⟨o,h3,h4⟩,h5⟩
 .refine⟨⟨Nat.min_le_left _ _,om,λt o _ ho=>by have:=h2 t o ho;rwa [abV]at this⟩,.inl om⟩
 .refine⟨⟨Nat.min_le_left _ _,om,λt o ht ho=>?_⟩,?_⟩
  .have ax:=(Lw.1 ho).1;have:=h5 t o om ho;rwa [abV]at this
  .rcases aax mn (nh q L 0 0)with hm|hm
   .refine .inr ⟨o,?_⟩;have e:min L.length (max mn (nh q L 0 0))=nh q L 0 0:=om;rw[e];exact⟨by simpa using h3,h4⟩
   .exact .inl om
def GS(c:Kr):Kr:=
 ⟨c.l.take (Ef qO 1 c.l),c.ops.take (Ef qP 0 c.ops),(c.ps.mapIdx (gd (c.l.take (Ef qO 1 c.l)) c.ps.length)).take (Ef (qR (c.l.take (Ef qO 1 c.l))) 1 (c.ps.mapIdx (gd (c.l.take (Ef qO 1 c.l)) c.ps.length)))⟩
theorem yi(c:Kr):gU c (GS c):=⟨⟨_,_,_,_,pN _ _ _,pN _ _ _,Cb _ _,pN _ _ _,rfl⟩⟩
def eC(k:Kr):Kr:=GS (Ee k.ps.length k)
theorem eP{k:Kr}(hk:dV k.l k.ops k.ps):GQ k (eC k):=by
 obtain⟨a,h1,h2⟩:=OQ k.ps.length k hk (by unfold ma;exact acn _ _)
 exact⟨a,_,h1,h2,yi _⟩
theorem Ln{k a c d:Kr}(hk:dV k.l k.ops k.ps)(h1:gT k a)(h2:cL a.l a.ops a.ps c.l c.ops c.ps false)(h3:gU c d):d=eC k:=
 GQ.zK ⟨a,c,h1,h2,h3⟩ (eP hk)
theorem Lo(k:Kr)(hk:dV k.l k.ops k.ps){m:Mem}{K:CV->Mem->Prop}(h:K (cA (eC k).l (eC k).ops (eC k).ps) m):ap prog 47 [cA k.l k.ops k.ps] m K:=
 OK k hk λa c d h1 h2 h3=>by rw[Ln hk h1 h2 h3];exact h
end Kn
theorem mZ{l:List aT}{k:Nat}(h:k<l.length):cm (l.map aT.enc) (k:Nat)=some [.val (.int .i64 l[k].obj),.val (.int .i64 l[k].di)]:=by rw[aU,Qu,wy h];rfl
inductive mb(m:Mem)(Z:Nat->Prop)(p:Option Nat):List CC->List Dt->Prop
 |nil:mb m Z p [] []
 |cons {c:CC} {d:Dt} {r:List CC} {r':List Dt} (h:cS m Z p c d) (hr:mb m Z p r r'):mb m Z p (c::r) (d::r')
theorem mb.len{m:Mem}{Z:Nat->Prop}{p:Option Nat}{a:List CC}{b:List Dt}(h:mb m Z p a b):a.length=b.length:=by induction h<;>simp[*]
theorem mb.get{m:Mem}{Z:Nat->Prop}{p:Option Nat}{a:List CC}{b:List Dt}(h:mb m Z p a b):∀(i:Nat)c d,a[i]? =some c->b[i]? =some d->cS m Z p c d:=by
 induction h with
 |nil=>intro i c d h;simp at h
 |cons h hr ih=>
  intro i c d h1 h2;cases i with
  |zero=>simp at h1 h2;subst h1 h2;exact h
  |succ i=>exact ih i c d (by simpa using h1) (by simpa using h2)
inductive jj(m:Mem)(Z:Nat->Prop)(p:Option Nat):List (List CC)->List (List Dt)->Prop
 |nil:jj m Z p [] []
 |cons {c:List CC} {d:List Dt} {r:List (List CC)} {r':List (List Dt)} (h:mb m Z p c d) (hr:jj m Z p r r'):jj m Z p (c::r) (d::r')
theorem jj.len{m:Mem}{Z:Nat->Prop}{p:Option Nat}{a:List (List CC)}{b:List (List Dt)}(h:jj m Z p a b):a.length=b.length:=by induction h<;>simp[*]
theorem jj.get{m:Mem}{Z:Nat->Prop}{p:Option Nat}{a:List (List CC)}{b:List (List Dt)}(h:jj m Z p a b):∀(i:Nat)c d,a[i]? =some c->b[i]? =some d->mb m Z p c d:=by
 induction h with
 |nil=>intro i c d h;simp at h
 |cons h hr ih=>
  intro i c d h1 h2;cases i with
  |zero=>simp at h1 h2;subst h1 h2;exact h
  |succ i=>exact ih i c d (by simpa using h1) (by simpa using h2)
theorem jj.dG{m:Mem}{Z:Nat->Prop}{p:Option Nat}{id esz:Nat}{elems:List (List CC)}{ds:List (List Dt)}(h:jj m Z (some id) elems ds)(hz:Z id)(hm:m[id]? =some (.row esz elems)):cS m Z p (.row id esz 0 none) (.sl esz ds):=
 cS.row id esz 0 none elems ds hz hm h.len (λi cs es h1 h2=>(h.get i cs es h1 h2).len) (λi cs es j c d h1 h2 h3 h4=>(h.get i cs es h1 h2).get j c d h3 h4)
def c63:LF:=Cq prog f63 [] []
def c70:LF:=Cq prog f70 [] []
def c82:LF:=Cq prog f82 [] []
def c85:LF:=Cq prog f85 [] []
def c126:LF:=Cq prog f126 [] []
def c127:LF:=Cq prog f127 [] []
namespace Tb
structure Cap where
 b8:Int
 rts:Int
 deriving DecidableEq
structure cC where
 has:Bool
 cap:Cap
 deriving DecidableEq
def cC.enc(s:cC):List Dt:=[.val (.bool s.has),.val (.int .i64 s.cap.b8),.val (.int .i64 s.cap.rts)]
def rQ(l:List cC):Dt:= .sl 3 (l.map cC.enc)
def e8(l:List cC):CV:= .rv (.one (.ai (rQ l)))
def Cap.rv(c:Cap):RV:= .agg [.ai (.val (.int .i64 c.b8)),.ai (.val (.int .i64 c.rts))]
def cK(n:Int):RV:= .one (.ai (.val (.int .i64 n)))
theorem l82:bs prog f82=some c82:=by kernel_rfl
def fj(l:List cC)(fd:Int):Cap×Int:=
 match (if 0<=fd then l[fd.toNat]? else none)with
 |some s=>if s.has then(s.cap,0)else(⟨0,0⟩,6)
 |none=>(⟨0,0⟩,6)
theorem OR(l:List cC)(fd:Int):body prog c82 [e8 l,al .i64 fd] [] (λr m=>r= .bG [(fj l fd).1.rv,cK (fj l fd).2]):=by
 refine aA (λh=>?_) (λh=>?_)
 .have h:fd<0:=of_decide_eq_true h;show CV.bG _=CV.bG _;rw[fj,if_neg om];rfl
 .have h:¬fd<0:=of_decide_eq_false h;refine aA (λh2=>?_) (λh2=>?_)
  .have h2:fd>=((l.map cC.enc).length:Int):=of_decide_eq_true h2;simp at h2;show CV.bG _=CV.bG _;rw[fj,if_pos om,abj om];rfl
  .have h2:¬fd>=((l.map cC.enc).length:Int):=of_decide_eq_false h2;simp at h2;have ax:fd.toNat<l.length:=om;have hg:cm (l.map cC.enc) fd=some (l[fd.toNat].enc):=by rw[IX,if_pos om,Qu,wy ax];rfl
   have hs:fj l fd=if l[fd.toNat].has then(l[fd.toNat].cap,0)else(⟨0,0⟩,6):=by rw[fj,if_pos om,wy ax]
   refine af hg ?_;refine aA (λh3=>?_) (λh3=>?_)
   .have h3:l[fd.toNat].has=false:=by simpa using h3
    show CV.bG _=CV.bG _;rw[hs,h3];rfl
   .have h3:l[fd.toNat].has=true:=by simpa using h3
    refine af hg ?_;show CV.bG _=CV.bG _;rw[hs,h3];rfl
theorem yj(l:List cC)(fd:Int){m:Mem}{K:CV->Mem->Prop}(h:K (.bG [(fj l fd).1.rv,cK (fj l fd).2]) m):ap prog 82 [e8 l,al .i64 fd] m K:=
 bu func82 l82 rfl (aav rfl) (OR l fd) rfl rfl h
theorem l110:bs prog f110=some c110:=by kernel_rfl
theorem l63:bs prog f63=some c63:=by kernel_rfl
theorem l126:bs prog f126=some c126:=by kernel_rfl
theorem l127:bs prog f127=some c127:=by kernel_rfl
def fm(n:Int):Bool:=decide (n>=0)&&decide (n<=4095)
theorem GU(n:Int):body prog c63 [al .i64 n] [] (λr m=>r=aq (fm n)):=by
 refine aA (λh=>?_) (λh=>?_)
 .show aq _=aq _;unfold fm;rw[h];rfl
 .show aq _=aq _;unfold fm;rw[h];rfl
theorem yk(n:Int){m:Mem}{K:CV->Mem->Prop}(h:K (aq (fm n)) m):ap prog 63 [al .i64 n] m K:=
 bu func63 l63 rfl (aav rfl) (GU n) rfl rfl h
def cC.cv(s:cC):CV:= .rv (.agg (s.enc.map .ai))
theorem uK(s:cC):body prog c127 [s.cv] [] (λr m=>r=aq (!s.has)):=by show aq _=aq _;rfl
theorem Cf(s:cC){m:Mem}{K:CV->Mem->Prop}(h:K (aq (!s.has)) m):ap prog 127 [s.cv] m K:=
 bu func127 l127 rfl (aav rfl) (uK s) rfl rfl h
def vU{α:Type}(p:α->Bool)(l:List α):Int:=match l.findIdx? p with|some i=>(i:Int)|none=>-1
theorem rR(l:List cC)(hb:l.length<=2097152)(f:Nat)(p:cC->Bool)(hf:∀(s:cC)(m:Mem)(K:CV->Mem->Prop),K (aq (p s)) m->ap prog f [s.cv] m K):
  body prog c126 [e8 l,.rv (.one (.fn f []))] [] (λr m=>r=al .i64 (vU p l)):=by
 refine N2 (λk=>k<=l.length/\∀(i:Nat)s,i<k->l[i]? =some s->p s=false) (λk=>[(8,al .i64 (k:Nat)),(5,.aH),(9,.aH),(10,.aH),(11,.aH),(12,.aH),(13,.aH),(14,.aH),(15,.aH),(16,.aH),(17,.aH),(18,.aH)])
  (λ_=>[]) (λk=>l.length-k) 0 ⟨WG _,λi s h=>absurd h (abE i)⟩ (DK (WG _) ?_) (λk hk=>?_)
 .repeat(first|exact .nil|refine .aH ?_|refine .ez ?_)
 .refine aA (λh=>?_) (λh=>?_)
  .have ax:k<l.length:=by have h:(k:Int)<((l.map cC.enc).length:Int):=of_decide_eq_true h;simp at h;omega
   have hg:cm (l.map cC.enc) (k:Nat)=some (l[k].enc):=by rw[aU,Qu,wy ax];rfl
   refine af hg ?_;refine hf l[k] _ _ ?_;refine aA (λh3=>?_) (λh3=>?_)
   .show al _ _=al _ _;have:l.findIdx? p=some k:=by
     rw[abN];refine⟨ax,h3,λj hj=>?_⟩
     have:=hk.2 j l[j] hj (wy om);simp[this]
    rw[vU,this]
   .refine⟨k+1,⟨ax,λi s hi hs=>?_⟩,?_,DK (WG _) ?_⟩
    .rcases aax i k with h5|h5
     .exact hk.2 i s h5 hs
     .have:i=k:=om;subst this;rw[wy ax]at hs;cases hs;exact h3
    .show l.length-(k+1)<l.length-k;omega
    .repeat(first|exact .nil|refine .aH ?_|refine .put (br om) ?_|refine .ez ?_)
  .have ef:¬(k:Int)<((l.map cC.enc).length:Int):=of_decide_eq_false h;simp at ef;show al _ _=al _ _;have:l.findIdx? p=none:=by rw[acv];intro s hs;obtain⟨i,hi⟩:=aak hs;have:=(Lw.1 hi).1;simpa using hk.2 i s om hi
   rw[vU,this]
theorem ym(l:List cC)(hb:l.length<=2097152)(f:Nat)(p:cC->Bool)(hf:∀(s:cC)(m:Mem)(K:CV->Mem->Prop),K (aq (p s)) m->ap prog f [s.cv] m K){m:Mem}{K:CV->Mem->Prop}(h:K (al .i64 (vU p l)) m):ap prog 126 [e8 l,.rv (.one (.fn f []))] m K:=
 bu func126 l126 rfl (aav rfl) (rR l hb f p hf) rfl rfl h
def ct(l:List cC):List (List CC):=(l.map cC.enc).map λds=>ds.map CC.ai
theorem Eg(l:List cC)(hb:l.length<=2097152):body prog c110 [e8 l] [] (λr m=>(l=[]/\r= .rv (.one .bt))\/(r= .rv (.one (.row 1 3 0 none))/\m[1]? =some (.row 3 ([]++ct l)))):=by
 have mU:((([]:List (List CC)).length+((l.map cC.enc).map λds=>ds.map CC.ai).length)*24)<=140737488355328:=by simp;omega
 refine aA (λh=>?_) (λh=>?_)
 .have hl:l=[]:=aaX (by simpa using aa1 h)
  exact⟨.inl ⟨hl,rfl⟩,mU,.inr ⟨rfl,rfl⟩⟩
 .exact⟨mU,.inr ⟨rfl,rfl⟩⟩
theorem qF(l:List cC)(hb:l.length<=2097152){m:Mem}{K:CV->Mem->Prop}(h1:l=[]->K (.rv (.one .bt)) m)(h2:K (.rv (.one (.row m.length 3 0 none))) (m++ [.row 3 (ct l)])):
  ap prog 110 [e8 l] m K:=by
 refine KU (aP func110 l110 (Eg l hb)) (by simp[e8,CV.cW,CC.cW]) λr m1 hr=>?_
 rcases hr with⟨hl,rfl⟩|⟨rfl,hm⟩
 .exact .inl ⟨rfl,h1 hl⟩
 .refine .inr ⟨1,3,ct l,rfl,by simpa using hm,λcs fA c hc=>?_,λi cs j d hi hj=>?_,h2⟩
  .simp only[ct,abl]at fA;obtain⟨ds,⟨s,_,rfl⟩,rfl⟩:=fA;obtain⟨d,_,rfl⟩:=abl.1 hc;exact⟨d,rfl⟩
  .have fA:=Vm hi;simp only[ct,abl]at fA;obtain⟨ds,⟨s,_,rfl⟩,rfl⟩:=fA;have hd:=Vm hj;simp only[cC.enc,ab2,aeg,abI,CC.ai.injEq,acm,or_false]at hd;rcases hd with rfl|rfl|rfl<;>exact⟨_,rfl⟩
theorem l85:bs prog f85=some c85:=by kernel_rfl
def jk(l:List cC)(c:Cap):List cC×Int×Int:=
 if fm c.rts=false\/c.b8<0 then([],0,3)else
 match l.findIdx? (λs=>!s.has)with
 |some k=>(l.set k ⟨true,c⟩,k,0)
 |none=>if l.length>=10 then([],0,15)else(l++ [⟨true,c⟩],l.length,0)
def j0(l:List cC):RV:= .one (.ai (rQ l))
theorem jV{m:Mem}{a b:RV}{x y:Int}(h:dE m a b):cH m (.bG [a,cK x,cK y]) (.bG [b,cK x,cK y]):=by
 refine .bG rfl λi r r' h1 h2=>?_
 match i,h1,h2 with
 |0,h1,h2=>cases h1;cases h2;exact h
 |1,h1,h2=>cases h1;cases h2;exact dE.self rfl
 |2,h1,h2=>cases h1;cases h2;exact dE.self rfl
theorem Jn{l:List cC}{c:Cap}{m:Mem}(h:fm c.rts=false\/c.b8<0):cH m (.bG [.one .bt,cK 0,cK 3]) (.bG [j0 (jk l c).1,cK (jk l c).2.1,cK (jk l c).2.2]):=by rw[jk,if_pos h];exact jV (.one (.bt 3))
theorem OS{l:List cC}{c:Cap}{m:Mem}(h:¬(fm c.rts=false\/c.b8<0))(hk:l.findIdx? (λs=>!s.has)=none)(hl:l.length>=10):
  cH m (.bG [.one .bt,cK 0,cK 15]) (.bG [j0 (jk l c).1,cK (jk l c).2.1,cK (jk l c).2.2]):=by
 rw[jk,if_neg h,hk];simp only;rw[if_pos hl];exact jV (.one (.bt 3))
theorem Jo{l:List cC}{c:Cap}{m:Mem}{id:Nat}(h:¬(fm c.rts=false\/c.b8<0))(hk:l.findIdx? (λs=>!s.has)=none)(hl:¬l.length>=10)(hm:m[id]? =some (.row 3 (ct (l++ [⟨true,c⟩])))):
  cH m (.bG [.one (.row id 3 0 none),cK ((l.map cC.enc).length:Nat),cK 0]) (.bG [j0 (jk l c).1,cK (jk l c).2.1,cK (jk l c).2.2]):=by
 rw[jk,if_neg h,hk,O9];simp only;rw[if_neg hl];exact jV (.one (d7.da hm 0 none))
theorem Ss{l:List cC}{c:Cap}{m:Mem}{id k:Nat}(h:¬(fm c.rts=false\/c.b8<0))(hk:l.findIdx? (λs=>!s.has)=some k)(hm:m[id]? =some (.row 3 (ct (l.set k ⟨true,c⟩)))):
  cH m (.bG [.one (.row id 3 0 none),cK k,cK 0]) (.bG [j0 (jk l c).1,cK (jk l c).2.1,cK (jk l c).2.2]):=by
 rw[jk,if_neg h,hk];exact jV (.one (d7.da hm 0 none))
theorem OT(l:List cC)(hb:l.length<=2097152)(c:Cap):body prog c85 [e8 l,.rv c.rv] [] (λr m=>cH m r (.bG [j0 (jk l c).1,cK (jk l c).2.1,cK (jk l c).2.2])):=by
 refine yk c.rts ?_;refine aA (λh=>?_) (λhr=>?_)
 .exact Jn (.inl (by simpa using h))
 .refine aA (λh=>?_) (λho=>?_)
  .exact Jn (.inr (of_decide_eq_true h))
  .have km:¬(fm c.rts=false\/c.b8<0):=by have:=of_decide_eq_false ho;simp at hr;simp[hr];omega
   refine ym l hb 127 (λs=>!s.has) (λs m K h=>Cf s h) ?_
   cases hk:l.findIdx? (λs=>!s.has)with
   |none=>
    have hi:vU (λs:cC=>!s.has) l= -1:=by rw[vU,hk]
    rw[hi];refine aA (λh=>?_) (λh=>?_)
    .have ef:l.length>=10:=by have h:=of_decide_eq_true h;simp at h;omega
     exact OS km hk ef
    .have ax:¬l.length>=10:=by have h:=of_decide_eq_false h;simp at h;omega
     refine qF l hb (λhl=>?_) ?_
     .subst hl;refine⟨by decide,?_⟩
      exact Jo km hk ax rfl
     .refine bV (by simp[ct,lenOf]) ?_
      refine⟨by simp[ct,bA];omega,?_⟩
      have hlen:(ct l).length=l.length:=by simp[ct]
      refine af (bJ (k:=(l.map cC.enc).length) (by simp[ct,lenOf,bA])) ?_
      refine af (x:=[CC.ai (.val (.bool false)),CC.ai (.val (.int .i64 0)),CC.ai (.val (.int .i64 0))]) (by simp[aW,ct,bA,fL]) ?_
      refine Jo (id:=3) km hk ax ?_;refine congrArg (λx=>some (Bk.row 3 x)) ?_
      show aX (ct l++ [[CC.ai (.val (.bool false)),CC.ai (.val (.int .i64 0)),CC.ai (.val (.int .i64 0))]]) (l.map cC.enc).length [CC.ai (.val (.bool true)),CC.ai (.val (.int .i64 c.b8)),CC.ai (.val (.int .i64 c.rts))]=_;rw[bh,O9,<-hlen,acN _ _ (aai _),adv];simp[ct,cC.enc]
   |some k=>
    have hi:vU (λs:cC=>!s.has) l=(k:Int):=by rw[vU,hk]
    have dK:k<l.length:=(abN.1 hk).1;rw[hi];refine qF l hb (λhl=>?_) ?_
    .subst hl;simp at dK
    .have hlen:(ct l).length=l.length:=by simp[ct]
     refine gG (by simp[hlen,lenOf];omega) ?_
     refine af (bJ (k:=k) (by simp[hlen,lenOf];omega)) ?_
     refine af (x:=(l[k].enc).map .ai) (by simp[aW,ct,fL,dK]) ?_
     refine Ss (id:=1) km hk ?_;refine congrArg (λx=>some (Bk.row 3 x)) ?_
     show aX (ct l) k [CC.ai (.val (.bool true)),CC.ai (.val (.int .i64 c.b8)),CC.ai (.val (.int .i64 c.rts))]=_;rw[bh];simp[ct,cC.enc]
theorem OU(l:List cC)(hb:l.length<=2097152)(c:Cap){m:Mem}{K:CV->Mem->Prop}(h:K (.bG [j0 (jk l c).1,cK (jk l c).2.1,cK (jk l c).2.2]) m):ap prog 85 [e8 l,.rv c.rv] m K:=
 aR (aP func85 l85 (OT l hb c)) (by simp[e8,Cap.rv,CV.cW,CC.cW]) λr m1 hf=>⟨_,hf,h⟩
theorem l70:bs prog f70=some c70:=by kernel_rfl
def ww(l:List cC)(fd:Int):List cC×Int×Int:=if(fj l fd).2=0 then jk l (fj l fd).1 else([],0,(fj l fd).2)
theorem OV(l:List cC)(hb:l.length<=2097152)(fd:Int):body prog c70 [e8 l,al .i64 fd] [] (λr m=>cH m r (.bG [j0 (ww l fd).1,cK (ww l fd).2.1,cK (ww l fd).2.2])):=by
 refine yj l fd ?_;refine aA (λh=>?_) (λh=>?_)
 .have h:¬(fj l fd).2=0:=by simpa using h
  rw[ww,if_neg h];exact jV (.one (.bt 3))
 .have h:(fj l fd).2=0:=by simpa using h
  rw[ww,if_pos h];refine OU l hb (fj l fd).1 ?_;exact cH.self rfl
theorem Wm(l:List cC)(hb:l.length<=2097152)(fd:Int){m:Mem}{K:CV->Mem->Prop}(h:K (.bG [j0 (ww l fd).1,cK (ww l fd).2.1,cK (ww l fd).2.2]) m):ap prog 70 [e8 l,al .i64 fd] m K:=
 aR (aP func70 l70 (OV l hb fd)) (by simp[e8,al,CV.cW,CC.cW]) λr m1 hf=>⟨_,hf,h⟩
end Tb
def c69:LF:=Cq prog f69 [] []
def c106:LF:=Cq prog f106 [] []
def c111:LF:=Cq prog f111 [] []
namespace Tb
theorem l111:bs prog f111=some c111:=by kernel_rfl
def iI(a b:Int):Bool:=(IntKind.i64.wrap ((BitVec.ofInt 64 a&&& ~~~ BitVec.ofInt 64 b).toNat:Int))==0
theorem AX(a b:Int){m:Mem}{K:CV->Mem->Prop}(h:K (aq (iI a b)) m):ap prog 111 [al .i64 a,al .i64 b] m K:=
 bu (r0:=aq (iI a b)) func111 l111 rfl (aav rfl) (show body prog c111 [al .i64 a,al .i64 b] [] (λr m=>r=aq (iI a b))from rfl) rfl rfl h
theorem l106:bs prog f106=some c106:=by kernel_rfl
def o6(l:List cC)(fd need:Int):Cap×Int:=
 if(fj l fd).2=0/\iI need (fj l fd).1.rts=false then(⟨0,0⟩,10)else fj l fd
theorem uL(l:List cC)(fd need:Int):body prog c106 [e8 l,al .i64 fd,al .i64 need] [] (λr m=>r= .bG [(o6 l fd need).1.rv,cK (o6 l fd need).2]):=by
 refine yj l fd ?_;refine aA (λh=>?_) (λh=>?_)
 .have h:(fj l fd).2=0:=by simpa using h
  refine AX _ _ ?_;refine aA (λh2=>?_) (λh2=>?_)
  .have h2:iI need (fj l fd).1.rts=false:=by simpa using h2
   show CV.bG _=CV.bG _;rw[o6,if_pos ⟨h,h2⟩];rfl
  .have h2:iI need (fj l fd).1.rts=true:=by simpa using h2
   show CV.bG _=CV.bG _;rw[o6,if_neg (by simp[h2])];rfl
 .have h:¬(fj l fd).2=0:=by simpa using h
  show CV.bG _=CV.bG _;rw[o6,if_neg (by simp[h])];rfl
theorem lC(l:List cC)(fd need:Int){m:Mem}{K:CV->Mem->Prop}(h:K (.bG [(o6 l fd need).1.rv,cK (o6 l fd need).2]) m):ap prog 106 [e8 l,al .i64 fd,al .i64 need] m K:=
 bu func106 l106 rfl (aav rfl) (uL l fd need) rfl rfl h
theorem l69:bs prog f69=some c69:=by kernel_rfl
def AY:Nat->Nat->List cC->Nat
 |_,b,[]=>b
 |k,b,s::r=>AY (k+1) (if s.has then k+1 else b) r
theorem GV(l:List cC)(k b i:Nat)(h:i<l.length):AY k b (l.take (i+1))=if l[i].has then k+i+1 else AY k b (l.take i):=by
 induction l generalizing k b i with
 |nil=>simp at h
 |cons s r ih=>
  cases i with
  |zero=>simp[AY]
  |succ i=>
   simp at h;have:=ih (k+1) (if s.has then k+1 else b) i h
   rw[show k+1+i=k+(i+1) by omega]at this
   simp only[List.take_succ_cons,AY,this,List.getElem_cons_succ]
def tq(l:List cC):Nat:=AY 0 0 l
theorem GW(l:List cC)(i:Nat)(h:i<l.length):tq (l.take (i+1))=if l[i].has then i+1 else tq (l.take i):=by rw[tq,GV l 0 0 i h];simp[tq]
def uM:cC:=⟨false,⟨0,0⟩⟩
def oN(l:List cC)(fd:Int):List cC×Int:=
 if(fj l fd).2=0 then((l.set fd.toNat uM).take (tq (l.set fd.toNat uM)),0)else([],(fj l fd).2)
theorem Jp{l:List cC}{fd:Int}(h:(fj l fd).2=0):∃k:Nat,fd=k/\∃hk:k<l.length,l[k].has=true/\(fj l fd).1=l[k].cap:=by
 unfold fj at h;split at h
 .rename_i s hs;split at hs
  .refine⟨fd.toNat,om,(Lw.1 hs).1,?_⟩;have e:=(Lw.1 hs).2;split at h
   .rename_i h0 hh;rw[e];refine⟨hh,?_⟩;rw[fj,if_pos h0,hs];simp[hh]
   .simp at h
  .cases hs
 .simp at h
theorem gC{m:Mem}{a b:RV}{x:Int}(h:dE m a b):cH m (.bG [a,cK x]) (.bG [b,cK x]):=by
 refine .bG rfl λi r r' h1 h2=>?_
 match i,h1,h2 with
 |0,h1,h2=>cases h1;cases h2;exact h
 |1,h1,h2=>cases h1;cases h2;exact dE.self rfl
theorem Eh{m:Mem}{id h:Nat}{l:List cC}(hm:m[id]? =some (.row 3 (aa (l.map cC.enc)))):d7 m (.row id 3 0 (some h)) (.ai (rQ (l.take h))):=by
 have h1:d7 m (.row id 3 0 (some h)) (.ai (.sl 3 (bA (l.map cC.enc) 0 (some h)))):=d7.da hm 0 (some h);have h2:bA (l.map cC.enc) 0 (some h)=(l.take h).map cC.enc:=by simp[bA,ac7]
 rw[h2]at h1;exact h1
theorem GX(l:List cC)(hb:l.length<=2097152)(fd:Int):body prog c69 [e8 l,al .i64 fd] [] (λr m=>cH m r (.bG [j0 (oN l fd).1,cK (oN l fd).2])):=by
 refine yj l fd ?_;refine aA (λh=>?_) (λh=>?_)
 .have h:¬(fj l fd).2=0:=by simpa using h
  rw[oN,if_neg h];exact gC (.one (.bt 3))
 .have h:(fj l fd).2=0:=by simpa using h
  rw[oN,if_pos h];obtain⟨k,rfl,hk,Z4,_⟩:=Jp h;refine qF l hb (λhl=>by subst hl;simp at hk) ?_
  refine af (bJ (k:=k) (by simp[ct,lenOf];omega)) ?_
  refine af (x:=(l[k].enc).map .ai) (by simp[aW,ct,fL,hk]) ?_
  have jE:aX (ct l) (fL 0 k) [CC.ai (.val (.bool false)),CC.ai (.val (.int .i64 0)),CC.ai (.val (.int .i64 0))]=aa ((l.set k uM).map cC.enc):=by rw[bh];simp[ct,cC.enc,aa,fL,uM]
  have hlen:(l.set k uM).length=l.length:=aD;rw[show((k:Nat):Int).toNat=k from rfl];generalize l.set k uM=l2 at jE hlen;refine xP (λh=>h<=l2.length/\tq (l2.take h)=tq l2) (λh=>[(8,.rv (.one (.row 1 3 0 (some h)))),(24,.aH),(25,.aH),(26,.aH),(27,.aH),(28,.aH),(29,.aH),(30,.aH),(31,.aH),(32,.aH),(33,.aH),(34,.aH),(35,.aH),(36,.aH),(37,.aH),(38,.aH),(39,.aH),(40,.aH),(41,.aH),(19,.aH),(20,.aH),(23,.aH)])
   (λh=>[.aE,.row 3 (aa (l2.map cC.enc))]) (λh=>h) l2.length ⟨aai _,by rw[abD]⟩ ?_ (λh hh=>?_)
  .refine View.o 2 [0,1] [] ?_ ?_
   .repeat(first|exact .nil|refine .aH ?_|refine .put (.hi rfl rfl ((congrArg List.length jE).trans (by simp[aa]))) ?_|refine .eq rfl ?_)
   .exact .aE (.put (by simp[bc]) rfl (.bn jE) (.nil _))
  .refine aA (λh2=>?_) (λh2=>?_)
   .have h2:0<h:=by have h2:((h:Nat):Int)>0:=of_decide_eq_true h2;omega
    obtain⟨j,rfl⟩:∃j,h=j+1:=⟨h-1,om⟩;have hj:j<l2.length:=om;have hi:(IntKind.i64.wrap (((j+1:Nat):Int)-1))=((j:Nat):Int):=by rw[<-lW (n:=j) om];congr 1;omega
    have oH:dL (IntKind.i64.wrap (((j+1:Nat):Int)-1)) (j+1)=some j:=by rw[hi];exact bJ om
    refine af oH ?_;refine af (x:=(l2[j].enc).map .ai) (by simp[aW,aa,fL,hj]) ?_
    have ht:=GW l2 j hj;refine aA (λh3=>?_) (λh3=>?_)
    .have h3:l2[j].has=false:=by simpa using h3
     refine af (x:=j) (by show px (.rv (.one (.ai (.val (.int .i64 (IntKind.i64.wrap (((j+1:Nat):Int)-1)))))))=_;rw[hi];rfl) ?_
     refine bV (by simp[lenOf,abR,aa];try omega) ?_
     refine⟨j,⟨om,by rw[h3]at ht;simp at ht;rw[<-ht];exact hh.2⟩,acI j,View.o1 2 [0,1] [] ?_⟩
     .exact .aE (.put (by simp[bc]) rfl (.bn rfl) (.nil _))
    .have h3:l2[j].has=true:=by simpa using h3
     have:tq l2=j+1:=by rw[<-hh.2,ht,if_pos h3]
     rw[this];exact gC (.one (Eh rfl))
   .have h2:h=0:=by have h2:¬((h:Nat):Int)>0:=of_decide_eq_false h2;omega
    subst h2;have:tq l2=0:=by rw[<-hh.2];rfl
    rw[this];exact gC (.one (Eh rfl))
theorem OW(l:List cC)(hb:l.length<=2097152)(fd:Int){m:Mem}{K:CV->Mem->Prop}(h:K (.bG [j0 (oN l fd).1,cK (oN l fd).2]) m):ap prog 69 [e8 l,al .i64 fd] m K:=
 aR (aP func69 l69 (GX l hb fd)) (by simp[e8,al,CV.cW,CC.cW]) λr m1 hf=>⟨_,hf,h⟩
end Tb
def c35:LF:=Cq prog f35 [] []
def c123:LF:=Cq prog f123 [] []
def c124:LF:=Cq prog f124 [] []
def c128:LF:=Cq prog f128 [] [[d9 7 0 .nil],[d9 13 0 .nil]]
def c151:LF:=Cq prog f151 [] []
theorem l35:bs prog f35=some c35:=by kernel_rfl
def fa(ps:List aL)(p:Int):Bool:=decide (p>=0)&&(decide (p<ps.length)&&match ps[p.toNat]? with|some x=>x.aF|none=>false)
theorem GY(l:List Obj)(ops:List aT)(ps:List aL)(p:Int):body prog c35 [cA l ops ps,al .i64 p] [] (λr m=>r=aq (fa ps p)):=by
 refine am (λh0=>?_) (λh0=>?_)
 .obtain⟨n,rfl⟩:∃n:Nat,p=n:=⟨p.toNat,om⟩;refine am (λh=>?_) (λh=>?_)
  .have ax:n<ps.length:=by have h:(n:Int)<((ps.map aL.enc).length:Int):=h;rw[O9]at h;omega
   refine af (eK ax) ?_;have hS:fa ps (n:Int)=ps[n].aF:=by simp[fa,ax]
   show aq _=aq _;rw[hS]
  .have ef:¬n<ps.length:=by have h:¬(n:Int)<((ps.map aL.enc).length:Int):=h;rw[O9]at h;omega
   have hS:fa ps (n:Int)=false:=by simp[fa,ef]
   show aq _=aq _;rw[hS]
 .have hS:fa ps p=false:=by have:decide (p>=0)=false:=decide_eq_false h0;simp[fa,this]
  show aq _=aq _;rw[hS]
theorem pO(l:List Obj)(ops:List aT)(ps:List aL)(p:Int){m:Mem}{K:CV->Mem->Prop}(h:K (aq (fa ps p)) m):ap prog 35 [cA l ops ps,al .i64 p] m K:=
 bu func35 l35 rfl (aav rfl) (GY l ops ps p) (by simp[cA,cT,de,dZ,al,CV.cW,CC.cW,RV.cW]) rfl h
theorem pP{ps:List aL}{p:Int}(h:fa ps p=true):∃n:Nat,p=n/\∃hn:n<ps.length,ps[n].aF=true:=by
 unfold fa at h;by_cases h0:p>=0
 .obtain⟨n,rfl⟩:∃n:Nat,p=n:=⟨p.toNat,om⟩;by_cases hn:n<ps.length
  .refine⟨n,rfl,hn,?_⟩;simpa[hn]using h
  .simp[hn]at h
 .simp[h0]at h
theorem Su{ps:List aL}{n:Nat}(hn:n<ps.length)(h:ps[n].aF=true):fa ps (n:Int)=true:=by simp[fa,hn,h]
theorem l128:bs prog f128=some c128:=by kernel_rfl
theorem l151:bs prog f151=some c151:=by kernel_rfl
theorem GZ(o:Obj)(p:Int):body prog c151 [o.cv,.rv (.one (.ptr 0 0))] [.var ([Dt.val (.int .i64 p)].map .ai)] (λr m=>r=aq (cN p o)/\∃ex,m= .var ([Dt.val (.int .i64 p)].map .ai)::ex):=by
 refine aA (λh=>?_) (λh=>?_)
 .refine⟨?_,_,rfl⟩;show aq _=aq _;rw[cN,h];rfl
 .refine⟨?_,_,rfl⟩;show aq _=aq _;rw[cN,h];rfl
theorem Z5(o:Obj)(p:Int)(K:CV->Mem->Prop)(h:K (aq (cN p o)) [.var ([Dt.val (.int .i64 p)].map .ai)]):ap prog 151 [o.cv,.rv (.one (.ptr 0 0))] [.var ([Dt.val (.int .i64 p)].map .ai)] K:=
 fB rfl (aP func151 l151 (GZ o p)) h
def tt(l:List Obj)(ps:List aL)(p:Nat):Bool:=match ps[p]? with
 |some x=>!x.aF&& !(l.any (cN (p:Nat)))
 |none=>false
def pQ(l:List Obj)(ps:List aL):Nat->Nat->Int
 |0,_=>-1
 |n+1,p=>if p=ps.length then(p:Nat)else if tt l ps p=true then(p:Nat)else pQ l ps n (p+1)
def ir(l:List Obj)(ps:List aL):Int:=pQ l ps 8 0
def kC(l:List Obj)(ops:List aT)(ps:List aL):List Dt:=[cT l,de ops,dZ ps]
theorem uK(l:List Obj)(hl:l.length<=4194304)(ops:List aT)(ps:List aL):body prog c128 [.rv (.one (.ptr 0 0))] [.var ((kC l ops ps).map .ai)] (λr m=>r=al .i64 (ir l ps)/\∃ex,m= .var ((kC l ops ps).map .ai)::ex):=by
 refine ar (λp=>p<=8/\p<=ps.length/\pQ l ps (8-p) p=ir l ps) [0] (λp=>[(5,al .i64 (p:Nat))]) (λ_=>[.var ((kC l ops ps).map .ai)]) (λp=>8-p) 0 ⟨om,WG _,rfl⟩ ?_ (λp hp=>?_)
 .refine View.o1 1 [0] [] ?_
  .exact .au
 obtain⟨hp8,eF,M4⟩:=hp;have hp8:p<=8:=hp8;have eF:p<=ps.length:=eF;have M4:pQ l ps (8-p) p=ir l ps:=M4;refine am (λh=>?_) (λh=>?_)
 .have ax:p<8:=by have h:(p:Int)<8:=h;omega
  rw[show 8-p=(8-(p+1))+1 by omega,pQ]at M4
  refine ba (λhe=>?_) (λhe=>?_)
  .have he:p=ps.length:=by have he:(p:Int)=((ps.map aL.enc).length:Int):=he;rw[O9]at he;omega
   rw[if_pos he]at M4;rw[<-M4];exact⟨rfl,_,rfl⟩
  .have fG:¬p=ps.length:=by intro hh;apply he;show(p:Int)=((ps.map aL.enc).length:Int);rw[O9];omega
   rw[if_neg fG]at M4;have DE:p<ps.length:=om;have RI:tt l ps p=(!ps[p].aF&& !(l.any (cN (p:Nat)))):=by rw[tt,wy DE]
   refine gk (args0:=[cJ l,.rv (.one (.fn 151 [0]))]) (cs:=[.val (.int .i64 (p:Nat))]) 1 rfl rfl (r0:=aq (l.any (cN (p:Int)))) rfl (λK hK=>uF l hl 151 _ _ (λs K hK=>Z5 s _ K hK) K hK) ?_
   refine af (eK DE) ?_;rw[RI]at M4;have go:(!ps[p].aF&& !(l.any (cN (p:Nat))))=false->pQ l ps (8-(p+1)) (p+1)=ir l ps:=λhh=>by
    rw[if_neg (by rw[hh];simp)]at M4;exact M4
   refine aA (λh1=>?_) (λh1=>?_)
   .refine aA (λh2=>?_) (λh2=>?_)
    .rw[if_pos (by rw[h1,h2];rfl)]at M4
     rw[<-M4];exact⟨rfl,_,rfl⟩
    .refine⟨p+1,⟨om,om,go (by rw[h2,Bool.and_false])⟩,(show 8-(p+1)<8-p by omega),View.o2 2 [0] [] ?_⟩
     .exact .au
   .refine⟨p+1,⟨om,om,go (by rw[h1,Bool.false_and])⟩,(show 8-(p+1)<8-p by omega),View.o2 2 [0] [] ?_⟩
    .exact .au
 .have hp:p=8:=by have h:¬(p:Int)<8:=h;omega
  subst hp;rw[show ir l ps= -1 from M4.symm];exact⟨rfl,_,rfl⟩
theorem Cf(l:List Obj)(hl:l.length<=4194304)(ops:List aT)(ps:List aL)(K:CV->Mem->Prop)(h:K (al .i64 (ir l ps)) [.var ((kC l ops ps).map .ai)]):ap prog 128 [.rv (.one (.ptr 0 0))] [.var ((kC l ops ps).map .ai)] K:=
 fB rfl (aP func128 l128 (uK l hl ops ps)) h
theorem l123:bs prog f123=some c123:=by kernel_rfl
theorem l124:bs prog f124=some c124:=by kernel_rfl
def aT.cv(o:aT):CV:= .rv (.agg (o.enc.map .ai))
theorem G0(o:aT):body prog c124 [o.cv] [] (λr m=>r=aq (decide (o.obj<0))):=by show aq _=aq _;rfl
theorem Z6(o:aT){m:Mem}{K:CV->Mem->Prop}(h:K (aq (decide (o.obj<0))) m):ap prog 124 [o.cv] m K:=
 bu func124 l124 rfl (aav rfl) (G0 o) rfl rfl h
def Fy(l:List aT):Option Nat:=l.findIdx? λo=>decide (o.obj<0)
def M7(l:List aT):Int:=match Fy l with|some i=>(i:Nat)|none=>-1
theorem Lp(l:List aT)(hb:l.length<=4194304):body prog c123 [.rv (.one (.ai (de l))),.rv (.one (.fn 124 []))] [] (λr m=>r=al .i64 (M7 l)):=by
 refine ar (λk=>k<=l.length/\∀(i:Nat)s,i<k->l[i]? =some s->¬s.obj<0) [0,1,7] (λk=>[(8,al .i64 (k:Nat))]) (λ_=>[]) (λk=>l.length-k) 0 ⟨WG _,λi s h=>absurd h (abE i)⟩ ?_ (λk hk=>?_)
 .refine View.o1 0 [] [] (.nil _)
 obtain⟨dK,AR⟩:=hk;have dK:k<=l.length:=dK;refine am (λh=>?_) (λh=>?_)
 .have ax:k<l.length:=by have h:(k:Int)<((l.map aT.enc).length:Int):=h;rw[O9]at h;omega
  refine af (mZ ax) ?_;refine Z6 l[k] ?_;refine am (λh3=>?_) (λh3=>?_)
  .show al _ _=al _ _;have:Fy l=some k:=by
    rw[Fy,abN];exact⟨ax,by simpa using h3,λj hj=>by simpa using AR j _ hj (wy om)⟩
   rw[M7,this]
  .refine⟨k+1,⟨ax,λi s hi hs=>?_⟩,(show l.length-(k+1)<l.length-k by omega),View.o 0 [] [] ?_ (.nil _)⟩
   .rcases aax i k with h5|h5
    .exact AR i s h5 hs
    .have:i=k:=om;subst this;rw[wy ax]at hs;cases hs;exact h3
   .repeat(first|exact .nil|refine .aH ?_|refine .put (.aN (br om).symm) ?_|refine .eq rfl ?_)
 .have ef:k=l.length:=by have h:¬(k:Int)<((l.map aT.enc).length:Int):=h;rw[O9]at h;omega
  show al _ _=al _ _;have:Fy l=none:=by rw[Fy,acv];intro s hs;obtain⟨i,hi⟩:=aak hs;have:=(Lw.1 hi).1;simpa using AR i s om hi
  rw[M7,this]
theorem Jq(l:List aT)(hb:l.length<=4194304){m:Mem}{K:CV->Mem->Prop}(h:K (al .i64 (M7 l)) m):ap prog 123 [.rv (.one (.ai (de l))),.rv (.one (.fn 124 []))] m K:=
 bu func123 l123 rfl (aav rfl) (Lp l hb) (by simp[de,CV.cW,CC.cW,RV.cW]) rfl h
def c87:LF:=Cq prog f87 [[5]] [[(d9 12 0 (.cons 12 (some []) .nil))]]
theorem l87:bs prog f87=some c87.er:=by kernel_rfl
def kK(k:Kr):RV:= .agg [.ai (cT k.l),.ai (de k.ops),.ai (dZ k.ps)]
def tu:Kr:=⟨[],[],[]⟩
def gg(k:Kr)(p code:Int):Kr×Int:=
 if fa k.ps p=false then(tu,6)else if code<0\/code>255 then(tu,3)
 else(⟨k.l,k.ops,k.ps.set p.toNat ⟨false,(match k.ps[p.toNat]? with|some x=>x.fenced|none=>false),code,[]⟩⟩,0)
theorem jl{m:Mem}:dE m (.agg [.bt,.bt,.bt]) (kK tu):=by
 refine .agg rfl λi c c' h1 h2=>?_
 match i,h1,h2 with
 |0,h1,h2=>cases h1;cases h2;exact .bt 9
 |1,h1,h2=>cases h1;cases h2;exact .bt 2
 |2,h1,h2=>cases h1;cases h2;exact .bt 4
 |n+3,h1,h2=>simp at h1
theorem Jr(k:Kr):(kK k).cW=true:=by simp[kK,cT,de,dZ,CV.cW,CC.cW,RV.cW]
theorem OX{m:Mem}{Z:Nat->Prop}{p:Option Nat}{id:Nat}{ps:List aL}{k:Nat}{c:List CC}{x:aL}(hc:mb m Z (some id) c x.enc)(hz:Z id)(hm:m[id]? =some (.row 4 (aX (aa (ps.map aL.enc)) k c))):
  cS m Z p (.row id 4 0 none) (dZ (ps.set k x)):=by
 rw[bh]at hm;refine cS.row id 4 0 none _ _ hz hm (by simp[aa]) (λi cs es h1 h2=>?_) (λi cs es j c' d h1 h2 h3 h4=>?_)
 .rw[abU]at h1;rw[Qu,abU]at h2;by_cases e:k=i
  .subst e;rw[if_pos rfl]at h1 h2;split at h1
   .cases h1;split at h2
    .cases h2;exact hc.len
    .cases h2
   .cases h1
  .rw[if_neg e]at h1 h2;rw[aa,Qu,Qu]at h1;cases hi:ps[i]? with
   |none=>rw[hi]at h1;cases h1
   |some y=>rw[hi]at h1 h2;cases h1;cases h2;simp
 .rw[abU]at h1;rw[Qu,abU]at h2;by_cases e:k=i
  .subst e;rw[if_pos rfl]at h1 h2;split at h1
   .cases h1;split at h2
    .cases h2;exact hc.get j _ _ h3 h4
    .cases h2
   .cases h1
  .rw[if_neg e]at h1 h2;rw[aa,Qu,Qu]at h1;cases hi:ps[i]? with
   |none=>rw[hi]at h1;cases h1
   |some y=>
    rw[hi]at h1 h2;cases h1;cases h2;have h4:y.enc[j]? =some d:=h4;rw[Qu,h4]at h3;cases h3;exact .ai d
def G15:LC:=l5 (bi (bi (bi (bi (bi c87.code)))))
theorem Lq(k:Kr)(hk:dV k.l k.ops k.ps)(p code:Int):body prog c87 [cA k.l k.ops k.ps,al .i64 p,al .i64 code] [] (λr m=>cH m r (.bG [kK (gg k p code).1,cK (gg k p code).2])):=by
 refine pO k.l k.ops k.ps p ?_;refine aA (λh1=>?_) (λh1=>?_)
 .have h1:fa k.ps p=false:=by simpa using h1
  rw[gg,if_pos h1];exact gC jl
 have h1:fa k.ps p=true:=by simpa using h1
 obtain⟨n,rfl,hn,bO⟩:=pP h1;rw[gg,if_neg (by rw[h1];simp)]
 refine am (λh2=>?_) (λh2=>?_)
 .rw[if_pos (.inl h2)];exact gC jl
 refine am (λh3=>?_) (λh3=>?_)
 .rw[if_pos (.inr h3)];exact gC jl
 rw[if_neg (λh=>h.elim h2 h3)]
 refine jh k.l k.ops k.ps ⟨hk.ll,λo ho=>(hk.sm o ho).oi⟩ hk.lo hk.lp hk.sl hk.ne ?_
 have hg:=eK hn;have hr:=bm aL.enc k.ps hn;have hx:(match k.ps[((n:Nat):Int).toNat]? with|some x=>x.fenced|none=>false)=k.ps[n].fenced:=by rw[show((n:Nat):Int).toNat=n from rfl,wy hn]
 rw[hx,show((n:Nat):Int).toNat=n from rfl];generalize k.ps[n]=y at hg hr;obtain⟨aF,fenced,cd,an⟩:=y;refine af hg ?_;refine af (ng hn) ?_;refine af hr ?_;have eE:aw prog 0 G15 (nu prog c87.lM (λr m=>cH m r (.bG [kK ⟨k.l,k.ops,k.ps.set n ⟨false,fenced,code,[]⟩⟩,cK 0]))) ⟨i5 36 [(6,.rv (.one (.ptr 1 0))),(8,.rv (.one (.ptr 2 0)))],[.var ((kC k.l k.ops k.ps).map .ai),.var [.bt,.bt,.bt],.var ((kC k.l k.ops (k.ps.set n ⟨false,fenced,code,[]⟩)).map .ai)]⟩:=by exact gC (dE.self (Jr _))
 refine⟨?_,_,View.o 6 [0,1,5] [2,3,4] ?_ ?_,eE⟩
 .exact trivial
 .repeat(first|exact .nil|refine .aH ?_|refine .eq rfl ?_)
 .refine .pt rfl rfl (.eq rfl (by simp[kC])) (.pe rfl rfl rfl (.pt rfl rfl (dy.var (.cons (.dG (cS.da (Z:=λk=>bc [2,3,4] k=true) rfl rfl 0 none)) (.cons (.dG (cS.da (Z:=λk=>bc [2,3,4] k=true) rfl rfl 0 none)) (.cons (.dG (OX (Z:=λk=>bc [2,3,4] k=true) ?_ rfl rfl)) .nil)))) (.nil _)))
  exact .cons (.ai _) (.cons (.ai _) (.cons (.ai _) (.cons (.bt 3) .nil)))
theorem Cg(k:Kr)(hk:dV k.l k.ops k.ps)(p code:Int){m:Mem}{K:CV->Mem->Prop}(h:K (.bG [kK (gg k p code).1,cK (gg k p code).2]) m):ap prog 87 [cA k.l k.ops k.ps,al .i64 p,al .i64 code] m K:=
 aR (cE func87 l87 (Lq k hk p code)) (by simp[cA,cT,de,dZ,al,CV.cW,CC.cW,RV.cW]) λr m1 hf=>⟨_,hf,h⟩
def c81:LF:=Cq prog f81 [[3],[3,4]] []
theorem l81:bs prog f81=some c81.er:=by kernel_rfl
def pR(s:dJ):Tb.cC:=⟨s.has,⟨s.b8,s.rts⟩⟩
def Sv(s:Tb.cC):dJ:=⟨s.has,s.cap.b8,s.cap.rts⟩
theorem Sw(l:List dJ):(l.map pR).map Tb.cC.enc=l.map dJ.enc:=by rw[acf];rfl
theorem Sx(l:List Tb.cC):(l.map Sv).map dJ.enc=l.map Tb.cC.enc:=by rw[acf];rfl
theorem AZ(l:List dJ):Tb.rQ (l.map pR)=gL l:=by rw[Tb.rQ,Sw];rfl
theorem qG(l:List Tb.cC):Tb.j0 l=B6 (l.map Sv):=by show RV.one (.ai (.sl 3 (l.map Tb.cC.enc)))= .one (.ai (.sl 3 ((l.map Sv).map dJ.enc)));rw[Sx]
def gx(l:List dJ)(b8 rts:Int):List dJ×Int×Int:=((Tb.jk (l.map pR) ⟨b8,rts⟩).1.map Sv,(Tb.jk (l.map pR) ⟨b8,rts⟩).2.1,(Tb.jk (l.map pR) ⟨b8,rts⟩).2.2)
theorem Ch(l:List dJ)(hb:l.length<=2097152)(b8 rts:Int){m:Mem}{K:CV->Mem->Prop}(h:K (.bG [B6 (gx l b8 rts).1,cK (gx l b8 rts).2.1,cK (gx l b8 rts).2.2]) m):
  ap prog 85 [lY l,.rv (.agg [.ai (.val (.int .i64 b8)),.ai (.val (.int .i64 rts))])] m K:=by
 have:=Tb.OU (l.map pR) (by simpa using hb) ⟨b8,rts⟩ (m:=m) (K:=K) (by rw[qG];exact h)
 have e:Tb.e8 (l.map pR)=lY l:=by show CV.rv (.one (.ai (Tb.rQ (l.map pR))))=_;rw[AZ];rfl
 rw[e]at this;exact this
def dm(ops:List aT):Nat:=(Fy ops).getD ops.length
def aO(ps:List aL)(n:Nat):List dJ:=match ps[n]? with|some x=>x.an|none=>[]
def jL(ops:List aT)(i:Nat)(o:aT):List aT:=if i=ops.length then ops++ [o]else ops.set i o
def dI(ps:List aL)(n:Nat)(l:List dJ):List aL:=match ps[n]? with|some x=>ps.set n {x with an:=l}|none=>ps
def aI(k:Kr)(n:Nat)(obj rts:Int):Kr×Int×Int:=
 if Fy k.ops=none/\k.ops.length>=60 then(tu,0,15)
 else if(gx (aO k.ps n) (dm k.ops) rts).2.2≠0 then(tu,0,(gx (aO k.ps n) (dm k.ops) rts).2.2)
 else(⟨k.l,jL k.ops (dm k.ops) ⟨obj,0⟩,dI k.ps n (gx (aO k.ps n) (dm k.ops) rts).1⟩,(gx (aO k.ps n) (dm k.ops) rts).2.1,0)
theorem Ci{ops:List aT}{i:Nat}(h:Fy ops=some i):i<ops.length:=(abN.1 h).1
def C30:LC:=bi (bi (bi c81.code))
def G30:LC:=l5 C30
def C60:LC:=bi (bi (bi (bi G30)))
def G60:LC:=l5 C60
def M60(l:List Obj)(O:List aT)(ps:List aL):Mem:=[.var [.bt,.bt,.bt],.row 9 (aa (l.map Obj.enc)),.row 2 (aa (O.map aT.enc)),.row 4 (aa (ps.map aL.enc)),.var [.row 1 9 0 none,.row 2 2 0 none,.row 3 4 0 none]]
theorem Z7{m:Mem}{a b c:Nat}{l:List Obj}{ops:List aT}{ps:List aL}(h1:m[a]? =some (.row 9 (aa (l.map Obj.enc))))(h2:m[b]? =some (.row 2 (aa (ops.map aT.enc))))(h3:m[c]? =some (.row 4 (aa (ps.map aL.enc)))):
  dE m (.agg [.row a 9 0 none,.row b 2 0 none,.row c 4 0 none]) (kK ⟨l,ops,ps⟩):=by
 refine .agg rfl λi c c' e1 e2=>?_
 match i,e1,e2 with
 |0,e1,e2=>cases e1;cases e2;exact d7.da h1 0 none
 |1,e1,e2=>cases e1;cases e2;exact d7.da h2 0 none
 |2,e1,e2=>cases e1;cases e2;exact d7.da h3 0 none
 |n+3,e1,e2=>simp at e1
theorem UX(l:List Obj)(O:List aT)(ps:List aL)(n i:Nat)(hn:n<ps.length)(hi:i<O.length)(obj fd:Int)(y:List dJ):
  aw prog 0 G60 (nu prog c81.lM (λr m=>cH m r (.bG [kK ⟨l,O.set i ⟨obj,0⟩,dI ps n y⟩,cK fd,cK 0])))
   ⟨i5 74 [(1,al .i64 (n:Nat)),(2,al .i64 obj),(8,.rv (.one (.ptr 0 0))),(11,al .i64 (i:Nat)),(12,lY y),(13,al .i64 fd),(15,.rv (.one (.ptr 4 0)))],M60 l O ps⟩:=by
 refine af (B9 hi) ?_;have ho:=bm aT.enc O hi;generalize O[i]=x at ho;obtain⟨xo,xa⟩:=x;refine af ho ?_;refine af (ng hn) ?_;have hp:=bm aL.enc ps hn;have i3:dI ps n y=ps.set n {ps[n]with an:=y}:=by rw[dI,wy hn]
 rw[i3];generalize ps[n]=z at hp;obtain⟨aF,fenced,cd,an⟩:=z;refine af hp ?_;refine jV (Z7 ?_ ?_ ?_) (dE.self rfl)
 .rfl
 .refine congrArg (λx=>some (Bk.row 2 x)) ?_
  show aX (aa (O.map aT.enc)) i ((aT.enc ⟨obj,0⟩).map .ai)=_;rw[bh,aa,aa,abW,abW]
 .refine congrArg (λx=>some (Bk.row 4 x)) ?_
  show aX (aa (ps.map aL.enc)) n ((aL.enc ⟨aF,fenced,cd,y⟩).map .ai)=_;rw[bh,aa,aa,abW,abW]
theorem UY(k:Kr)(hk:dV k.l k.ops k.ps)(n:Nat)(hn:n<k.ps.length)(obj rts:Int)(i:Nat)(hi:i=dm k.ops)(MW:i<=k.ops.length)(kj:¬(Fy k.ops=none/\k.ops.length>=60)):
  aw prog 0 G30 (nu prog c81.lM (λr m=>cH m r (.bG [kK (aI k n obj rts).1,cK (aI k n obj rts).2.1,cK (aI k n obj rts).2.2])))
   ⟨i5 74 [(1,al .i64 (n:Nat)),(2,al .i64 obj),(3,al .i64 rts),(4,.rv (.one (.ptr 0 0))),(8,.rv (.one (.ptr 1 0))),(11,al .i64 (i:Nat))],[.var ((kC k.l k.ops k.ps).map .ai),.var [.bt,.bt,.bt]]⟩:=by
 have Fz:aO k.ps n=k.ps[n].an:=by rw[aO,wy hn]
 have nf:=hk.sl _ (aaR hn);have Wn:k.ops.length<=4194304:=hk.lo;rw[aI,if_neg kj,Fz,<-hi];refine af (eK hn) ?_;generalize k.ps[n].an=S at nf;refine Ch S om (i:Nat) rts ?_;generalize gx S (i:Nat) rts=A;obtain⟨y,fd,e⟩:=A;refine bF (λhe=>?_) (λhe=>?_)
 .rw[if_pos he];exact jV jl (dE.self rfl)
 have he:e=0:=he;subst he;rw[if_neg aD];refine jh k.l k.ops k.ps ⟨hk.ll,λo ho=>(hk.sm o ho).oi⟩ hk.lo hk.lp hk.sl hk.ne ?_
 refine ba (λiw=>?_) (λiw=>?_)
 .have iw:i=k.ops.length:=by have iw:(i:Int)=((aa (k.ops.map aT.enc)).length:Int):=iw;rw[aJ,O9]at iw;omega
  have jE:jL k.ops i ⟨obj,0⟩=(k.ops++ [aT.mk 0 0]).set i ⟨obj,0⟩:=by rw[jL,if_pos iw,iw];simp
  rw[jE];refine⟨by simp only[bA,aJ,O9,aa2,abO];omega,?_⟩
  refine⟨_,View.o1 8 [1,2,7,4,5] [] ?_,UX k.l (k.ops++ [aT.mk 0 0]) k.ps n i hn (by simp;omega) obj fd y⟩
  .exact .pe rfl rfl rfl (.pr rfl rfl rfl (.pt rfl rfl (.bn (by simp[bA,aa,aT.enc])) (.pr rfl rfl rfl (.pm rfl rfl rfl))))
 .have ax:i<k.ops.length:=by have iw:¬(i:Int)=((aa (k.ops.map aT.enc)).length:Int):=iw;rw[aJ,O9]at iw;omega
  have jE:jL k.ops i ⟨obj,0⟩=k.ops.set i ⟨obj,0⟩:=by rw[jL,if_neg om]
  rw[jE];refine⟨_,View.o1 6 [1,2,3,4,5] [] ?_,UX k.l k.ops k.ps n i hn ax obj fd y⟩
  .exact .au
theorem Ei(k:Kr)(hk:dV k.l k.ops k.ps)(n:Nat)(hn:n<k.ps.length)(obj rts:Int):body prog c81 [cA k.l k.ops k.ps,al .i64 (n:Nat),al .i64 obj,al .i64 rts] []
  (λr m=>cH m r (.bG [kK (aI k n obj rts).1,cK (aI k n obj rts).2.1,cK (aI k n obj rts).2.2])):=by
 refine Jq k.ops hk.lo ?_;have Wn:k.ops.length<=4194304:=hk.lo;cases ho:Fy k.ops with
 |none=>
  have Wo:M7 k.ops= -1:=by rw[M7,ho]
  have OY:dm k.ops=k.ops.length:=by rw[dm,ho];rfl
  rw[Wo];refine am (λwx=>?_) (λwx=>?_)
  .have wx:k.ops.length>=60:=by have wx:((k.ops.map aT.enc).length:Int)>=60:=wx;rw[O9]at wx;omega
   rw[aI,if_pos ⟨ho,wx⟩];exact jV jl (dE.self rfl)
  .have wx:¬k.ops.length>=60:=by have wx:¬((k.ops.map aT.enc).length:Int)>=60:=wx;rw[O9]at wx;omega
   refine⟨_,View.o 2 [0,1] [] ?_ ?_,UY k hk n hn obj rts k.ops.length OY.symm (aai _) (λh=>wx h.2)⟩
   .have hlen:al .i64 (((k.ops.map aT.enc).length:Nat):Int)=al .i64 ((k.ops.length:Nat):Int):=by rw[O9]
    repeat(first|exact .nil|refine .aH ?_|refine .eq rfl ?_)
    refine .eq hlen.symm ?_;repeat(first|exact .nil|refine .aH ?_|refine .eq rfl ?_)
   .exact .au
 |some i=>
  have Wo:M7 k.ops=(i:Nat):=by rw[M7,ho]
  have OY:dm k.ops=i:=by rw[dm,ho];rfl
  have MW:=Ci ho;rw[Wo];refine⟨_,View.o1 2 [0,1] [] ?_,UY k hk n hn obj rts i OY.symm om (λh=>by rw[ho]at h;cases h.1)⟩
  .exact .au
theorem uN(k:Kr)(hk:dV k.l k.ops k.ps)(n:Nat)(hn:n<k.ps.length)(obj rts:Int){m:Mem}{K:CV->Mem->Prop}(h:K (.bG [kK (aI k n obj rts).1,cK (aI k n obj rts).2.1,cK (aI k n obj rts).2.2]) m):ap prog 81 [cA k.l k.ops k.ps,al .i64 (n:Nat),al .i64 obj,al .i64 rts] m K:=
 aR (cE func81 l81 (Ei k hk n hn obj rts)) (by simp[cA,cT,de,dZ,al,CV.cW,CC.cW,RV.cW]) λr m1 hf=>⟨_,hf,h⟩
end Go.Proofs.YtllkfpggoigbaaaGreatDoor
