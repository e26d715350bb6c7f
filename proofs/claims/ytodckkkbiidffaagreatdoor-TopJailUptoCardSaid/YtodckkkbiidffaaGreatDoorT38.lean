/- Part 38 of 39: what the law stands on. -/
import Derived.Test.YtodckkkbiidffaaGreatDoorT16
import Derived.Test.YtodckkkbiidffaaGreatDoorT17
import Derived.Test.YtodckkkbiidffaaGreatDoorT37
import Derived.Shelf.SlSortCmp.WholeK
import Derived.Shelf.SlicesG.Cmp
import Derived.WalkKit
import Derived.OwnWalkIn
set_option linter.unusedVariables false
set_option linter.unusedSimpArgs false
set_option linter.unnecessarySimpa false
set_option maxRecDepth 100000
set_option maxHeartbeats 64000000
namespace Go.Proofs.YtodckkkbiidffaaGreatDoor
open Go.AM Go.ChangeShapes Go.WideShapes Go.ChangeAt Go.RowKit
def ni:List lB->List dS
 | []=>[⟨6,0,0,1⟩,⟨6,0,0,0⟩]
 |m::r=>⟨1,0,0,m.w⟩:: ⟨4,((2*r.length+1:Nat):Int),0,m.bits⟩::ni r
def fa(p:cY):List dS:=⟨2,0,((2*p.bn.length+1:Nat):Int),p.call⟩::ni p.bn
def MM(l:List cY):Int:=match l[l.length/2]? with|some p=>p.call|none=>0
def fX:Nat->List cY->List dS
 |0,_=>[⟨6,0,0,0⟩]
 |_+1,[]=>[⟨6,0,0,0⟩]
 |_+1,[p]=>fa p
 |n+1,p::q::r=>⟨3,0,1,MM (p::q::r)⟩:: ⟨5,0,0,(fX n ((p::q::r).take ((p::q::r).length/2))).length⟩::
   (fX n ((p::q::r).take ((p::q::r).length/2))++fX n ((p::q::r).drop ((p::q::r).length/2)))
theorem wU{n:Nat}{l:List cY}(h:2<=l.length):fX (n+1) l=⟨3,0,1,MM l⟩:: ⟨5,0,0,(fX n (l.take (l.length/2))).length⟩::(fX n (l.take (l.length/2))++fX n (l.drop (l.length/2))):=by
 match l,h with
 |p::q::r,_=>rfl
theorem rl:∀ms:List lB,(ni ms).length=2*ms.length+2
 | []=>rfl
 |m::r=>by simp[ni,rl r];omega
theorem uQ:∀ms:List lB,(ni ms)[2*ms.length+1]? =some ⟨6,0,0,0⟩
 | []=>rfl
 |m::r=>by
  have:=uQ r;rw[Wo,show 2*(r.length+1)+1=2*r.length+1+1+1 by omega]
  simpa[ni]using this
def At(P:List dS)(a:Nat)(c:List dS):Prop:=∀(j:Nat)i,c[j]? =some i->P[a+j]? =some i
theorem At.head{P:List dS}{a:Nat}{x:dS}{c:List dS}(h:At P a (x::c)):P[a]? =some x:=h 0 x rfl
theorem At.tail{P:List dS}{a:Nat}{x:dS}{c:List dS}(h:At P a (x::c)):At P (a+1) c:=fun j i hi=>by
 have:=h (j+1) i (by simpa using hi)
 rwa [show a+(j+1)=a+1+j by omega]at this
theorem At.left{P:List dS}{a:Nat}{c d:List dS}(h:At P a (c++d)):At P a c:=fun j i hi=>h j i (by rw[Tz (Gf.1 hi).1];exact hi)
theorem At.right{P:List dS}{a:Nat}{c d:List dS}(h:At P a (c++d)):At P (a+c.length) d:=fun j i hi=>by
 have:=h (c.length+j) i (by rw[SF om];simpa using hi)
 rwa [show a+(c.length+j)=a+c.length+j by omega]at this
def nj(l:List cY):Prop:=l.Pairwise fun a b=>a.call<b.call
theorem nj.lo{l:List cY}(h:nj l){k:Nat}{q:cY}(hk:l[k]? =some q):∀p,p∈l.take k->p.call<q.call:=by
 intro p hp;obtain⟨i,hi⟩:=Un hp;rw[aaj]at hi;split at hi
 .rename_i SE;obtain⟨h1,rfl⟩:=Gf.1 hi;obtain⟨h2,rfl⟩:=Gf.1 hk;exact aa1.1 h i k h1 h2 SE
 .cases hi
def PY(c:List dS)(a:Nat)(s:Int):Prop:=∀(j:Nat)i,c[j]? =some i->gw i ((a+j:Nat):Int) s=0
theorem PY.cons{x:dS}{c:List dS}{a:Nat}{s:Int}(hx:gw x (a:Int) s=0)(h:PY c (a+1) s):PY (x::c) a s:=fun j i hi=>by
 cases j with
 |zero=>simp at hi;subst hi;exact hx
 |succ j=>
  have:=h j i (by simpa using hi)
  rwa [show a+1+j=a+(j+1) by omega]at this
def Ty(m:lB):Prop:=1<=m.w/\m.w<6/\1<=m.bits/\m.bits<2147483648
def N6(p:cY):Prop:=0<=p.call/\p.call<2147483648/\p.bn.length<=3/\∀m,m∈p.bn->Ty m
theorem rm:∀(n:Nat)(l:List cY),(∀p,p∈l->p.bn.length<=3)->l.length<=n->(l=[]->(fX n l).length=1)/\(l≠[]->(fX n l).length+2<=11*l.length)
 |0,l,_,hl=>by have:l=[]:=Wg om;subst this;simp[fX]
 |n+1,l,h,hl=>by
  rcases Wj l.length 2 with h2|h2
  .match l,h2 with
   | [],_=>simp[fX]
   | [p],_=>
    have:=h p aI;simp[fX,fa,rl];omega
  .refine⟨fun e=>by subst e;simp at h2,fun _=>?_⟩
   have i1:=(rm n (l.take (l.length/2)) (fun p hp=>h p (aaw hp)) (by rw[Z3];omega)).2 (fun e=>by have:=congrArg List.length e;rw[Z3,aaq]at this;omega)
   have i2:=(rm n (l.drop (l.length/2)) (fun p hp=>h p (abb hp)) (by rw[aaC];omega)).2 (fun e=>by have:=congrArg List.length e;rw[aaC,aaq]at this;omega)
   rw[wU h2];simp only[Wo,aaH];rw[Z3]at i1;rw[aaC]at i2;omega
def iU(l:List cY):List dS:=⟨1,0,0,0⟩::fX l.length l
def nk(l:List cY):Prop:=l.Pairwise fun a b=>a.call≠b.call
theorem vy{l l':List cY}(h:l'.Perm l)(hd:nk l):nk l':=(h.pairwise_iff (fun h=>Ne.symm h)).2 hd
theorem AS{l:List cY}(h:(cX l).1=0):l.length<=30/\(∀p,p∈l->N6 p)/\nk l:=by
 unfold cX at h;split at h
 .simp at h
 .rename_i h0;have fm:∀j,j<l.length->gK l j=0:=by
   intro j
   induction j using Nat.strongRecOn with
   |_ j ih=>
    intro hj;by_cases hw:gK l j=0
    .exact hw
    .rw[oM l.length 0 j om om (fun i _ hi=>ih i hi om) hw]at h
     exact absurd h hw
  have fact:∀(j:Nat)p,l[j]? =some p->N6 p/\∀q,q∈l.take j->q.call≠p.call:=by
   intro j p hj;have hw:=fm j (Gf.1 hj).1;rw[gK,hj]at hw;simp only[jN]at hw;split at hw
   .simp at hw
   .rename_i c1;split at hw
    .simp at hw
    .rename_i c2;split at hw
     .simp at hw
     .rename_i c3;split at hw
      .simp at hw
      .rename_i c4;refine⟨⟨om,om,om,fun m hm=>?_⟩,fun q hq e=>?_⟩
       .have c4:p.bn.any ri=false:=by simpa using c4
        rw[List.any_eq_false]at c4;have hb:ri m=false:=by simpa using c4 m hm
        simp only[ri,Bool.or_eq_false_iff,decide_eq_false_iff_not]at hb;refine⟨om,om,om,om⟩
       .refine c2 (aaB.2 ⟨q,hq,by simp[e]⟩)
  refine⟨om,fun p hp=>?_,?_⟩
  .obtain⟨j,hj⟩:=Un hp;exact(fact j p hj).1
  .rw[nk,aa1];intro i j hi hj o8;refine(fact j l[j] (sA hj)).2 l[i] ?_;exact NQ (i:=i) (by rw[aaj,if_pos o8,sA hi])
theorem G7{l:List cY}(h:l.Pairwise fun a b=>¬b.call<a.call)(hd:nk l):nj l:=by have:=List.Pairwise.and h hd;exact this.imp fun⟨a,b⟩=>om
def c27:LF:= ⟨45,[.tmp 2],(.seq (.ai [qu 2 (.aF qe)]) (.seq (.seq (.ai [qm 7 0,qu 8 (.len 1 7)]) (.block 0 (.seq (.ai [qu 10 (.aH .eql 8 (qi 0)),qm 9 10]) (.cond 9 (.seq (.ai [qu 11 (.build [(qd 0),(qd 0),(qd 0),(qd 0)] [(0,1,(qi 6)),(3,1,(qi 0))]),qu 12 (.l5 4 [(qd 0),(qd 0),(qd 0),(qd 0)] 1 [(0,11)]),qm 2 12]) .ret) (.seq (.ai [qu 14 (.aH .eql 8 (qi 1)),qm 13 14]) (.cond 13 (.seq (.ai [qm 15 0,qu 16 (.cr 2 15 (qi 0)),qL 17 2 16,qu 18 (qc 52 [17]),qm 2 18]) .ret) .skip)))))) (.seq (.ai [qm 19 0,qu 20 (.len 1 19),qu 21 (.aH .quo 20 (qi 2)),qm 3 21]) (.cI (.seq (.bU [qm 22 0,qm 23 3,qu 24 (.mD 2 22 none (some 23) none),qu 25 (qc 27 [24]),qm 26 0,qm 27 3,qu 28 (.mD 2 26 (some 27) none none),qu 29 (qc 27 [28]),qm 4 25,qm 5 29] [(.cons 0 none (.cons 1 none (.cons 2 none (.cons 4 none (.cons 5 none (.cons 6 none (.cons 3 (some [6]) (.cons 7 (some []) (.cons 8 none (.cons 9 none .nil))))))))))]) (.seq (.ai [qm 30 0,qm 31 3,qu 32 (.cr 2 30 31),qf 33 0 32,ql 34 33,qu 35 (.build [(qd 0),(qd 0),(qd 0),(qd 0)] [(0,1,(qi 3)),(1,1,(qi 0)),(2,1,(qi 1)),(3,1,34)]),qm 36 4,qu 37 (.len 1 36),qu 38 (.build [(qd 0),(qd 0),(qd 0),(qd 0)] [(0,1,(qi 5)),(3,1,37)]),qu 39 (.l5 4 [(qd 0),(qd 0),(qd 0),(qd 0)] 2 [(0,35),(1,38)]),qm 6 39]) (.seq (.ai [qm 40 6,qm 41 4,qu 42 (.mE 4 32 40 41),qm 43 5,qu 44 (.mE 4 32 42 43),qm 2 44]) .ret)))))))⟩
def c52:LF:= ⟨50,[.tmp 2],(.seq (.ai [qu 1 (.box 0),qu 2 (.aF qe)]) (.seq (.ai [qf 8 1 1,ql 9 8,qu 10 (.len 1 9),qu 11 (.aH .mul (qi 2) 10),qu 12 (.aH .add 11 (qi 1)),qm 3 12]) (.seq (.ai [qm 13 3,qf 14 0 1,ql 15 14,qu 16 (.build [(qd 0),(qd 0),(qd 0),(qd 0)] [(0,1,(qi 2)),(1,1,(qi 0)),(2,1,13),(3,1,15)]),qu 17 (.l5 4 [(qd 0),(qd 0),(qd 0),(qd 0)] 1 [(0,16)]),qm 4 17]) (.seq (.seq (.ai [qf 18 1 1,ql 19 18,qu 20 (.len 1 19),qu 21 (.aF (qi 0))]) (.block 0 (.loop (.seq (.ai [qu 22 (.aH .lss 21 20)]) (.seq (.cond 22 .skip (.exit 0)) (.seq (.block 1 (.seq (.ai [qm 23 21,qu 24 (.cr 2 19 21),qL 25 2 24,qu 6 (.alloc [(qd 0),(qd 0)]),qm 5 23,qw (.store 2 6 25)]) (.seq (.ai [qf 26 1 1,ql 27 26,qu 28 (.len 1 27),qm 29 5,qu 30 (.aH .sub 28 29),qu 31 (.aH .sub 30 (qi 1)),qu 32 (.aH .mul (qi 2) 31),qu 33 (.aH .add 32 (qi 1)),qm 7 33]) (.ai [qm 34 4,qf 35 0 6,ql 36 35,qu 37 (.build [(qd 0),(qd 0),(qd 0),(qd 0)] [(0,1,(qi 1)),(3,1,36)]),qm 38 7,qf 39 1 6,ql 40 39,qu 41 (.build [(qd 0),(qd 0),(qd 0),(qd 0)] [(0,1,(qi 4)),(1,1,38),(2,1,(qi 0)),(3,1,40)]),qu 42 (.l5 4 [(qd 0),(qd 0),(qd 0),(qd 0)] 2 [(0,37),(1,41)]),qu 43 (.mE 4 32 34 42),qm 4 43])))) (.ai [qu 44 (.aH .add 21 (qi 1)),qm 21 44]))))))) (.seq (.ai [qm 45 4,qu 46 (.build [(qd 0),(qd 0),(qd 0),(qd 0)] [(0,1,(qi 6)),(3,1,(qi 1))]),qu 47 (.build [(qd 0),(qd 0),(qd 0),(qd 0)] [(0,1,(qi 6)),(3,1,(qi 0))]),qu 48 (.l5 4 [(qd 0),(qd 0),(qd 0),(qd 0)] 2 [(0,46),(1,47)]),qu 49 (.mE 4 32 45 48),qm 2 49]) .ret)))))⟩
theorem nY(a b:List (List Dt)):af (a++b)=af a++af b:=by simp[af]
theorem l52:bs Tryz.prog Tryz.f52=some c52:=by kernel_rfl
theorem l27:bs Tryz.prog Tryz.f27=some c27.er:=by kernel_rfl
theorem AT:∀(ms:List lB)(k:Nat)(m:lB),ms[k]? =some m->(ni ms)[2*k]? =some ⟨1,0,0,m.w⟩/\(ni ms)[2*k+1]? =some ⟨4,((2*(ms.length-k-1)+1:Nat):Int),0,m.bits⟩
 | [],k,m,h=>by simp at h
 |x::r,0,m,h=>by
  simp at h;subst h;refine⟨rfl,?_⟩;show some _=some _;rw[Wo,show r.length+1-0-1=r.length by omega]
 |x::r,k+1,m,h=>by
  have:=AT r k m (by simpa using h)
  rw[show 2*(k+1)=2*k+1+1 by omega,Wo,show r.length+1-(k+1)-1=r.length-k-1 by omega]
  simpa[ni]using this
theorem wV:∀ms:List lB,(ni ms)[2*ms.length]? =some ⟨6,0,0,1⟩
 | []=>rfl
 |m::r=>by
  have:=wV r;rw[Wo,show 2*(r.length+1)=2*r.length+1+1 by omega]
  simpa[ni]using this
theorem G8{p:cY}{k:Nat}{m:lB}(h:p.bn[k]? =some m):(fa p).take (2*(k+1)+1)=(fa p).take (2*k+1)++ [⟨1,0,0,m.w⟩,⟨4,((2*(p.bn.length-k-1)+1:Nat):Int),0,m.bits⟩]:=by
 obtain⟨h1,h2⟩:=AT p.bn k m h;have e1:(fa p)[2*k+1]? =some ⟨1,0,0,m.w⟩:=by simpa[fa]using h1
 have e2:(fa p)[2*k+1+1]? =some ⟨4,((2*(p.bn.length-k-1)+1:Nat):Int),0,m.bits⟩:=by simpa[fa]using h2
 rw[show 2*(k+1)+1=2*k+1+1+1 by omega,aaM,e2,aaM,e1]
 simp
theorem Kw(p:cY):fa p=(fa p).take (2*p.bn.length+1)++ [⟨6,0,0,1⟩,⟨6,0,0,0⟩]:=by
 have h1:=wV p.bn;have h2:=uQ p.bn;have e1:(fa p)[2*p.bn.length+1]? =some ⟨6,0,0,1⟩:=by simpa[fa]using h1
 have e2:(fa p)[2*p.bn.length+1+1]? =some ⟨6,0,0,0⟩:=by simpa[fa]using h2
 have hl:(fa p).length=2*p.bn.length+1+1+1:=by simp[fa,rl]
 have h3:(fa p).take (2*p.bn.length+1+1+1)=fa p:=aaR om;rw[aaM,e2,aaM,e1,abH]at h3;exact h3.symm
theorem DE(p:cY)(hm:p.bn.length<=1000):body Tryz.prog c52 [p.cv] [] (fun r m=>cw m r (pT (fa p))):=by
 have hn:IntKind.i64.wrap (IntKind.i64.wrap (2*(((p.bn.map lB.enc).length:Nat):Int))+1)=((2*p.bn.length+1:Nat):Int):=by rw[KB,gk (n:=2*(p.bn.length:Int)) om om,gk om om];omega
 refine ba (fun k=>k<=p.bn.length) [1,19] (fun k=>[(4,.rv (.one (.row 1 4 0 none))),(20,an .i64 (p.bn.length:Nat)),(21,an .i64 (k:Nat))]) (fun k=>[.var (p.enc.map .aa),.row 4 (af (((fa p).take (2*k+1)).map dS.enc))])
  (fun k=>p.bn.length-k) 0 (Wi _) ?_ (fun k hk=>?_)
 .refine View.o 2 [0,1] [] ?_ ?_
  .repeat(first|exact .nil|refine .ar ?_|refine .eq rfl ?_|refine .put (.aQ (by rw[KB];rfl)) ?_)
  .refine .pe rfl rfl rfl (.pt rfl rfl (.bP ?_) (.nil _));show [[CC.aa (.val (.int .i64 2)),.aa (.val (.int .i64 0)),.aa (.val (.int .i64 (IntKind.i64.wrap (IntKind.i64.wrap (2*(((p.bn.map lB.enc).length:Nat):Int))+1)))),.aa (.val (.int .i64 p.call))]]=_;rw[hn];rfl
 have hk:k<=p.bn.length:=hk;refine aJ (fun h=>?_) (fun h=>?_)
 .have aE:k<p.bn.length:=by have h:(k:Int)<(p.bn.length:Int):=h;omega
  have hi:=sA aE;have hT:=G8 hi;have hg:dg (p.bn.map lB.enc) (k:Nat)=some [.val (.int .i64 p.bn[k].w),.val (.int .i64 p.bn[k].bits)]:=by rw[bI,NO,hi];rfl
  generalize p.bn[k]=mk at hT hg;refine ag hg ?_;have hw:IntKind.i64.wrap (IntKind.i64.wrap (2*IntKind.i64.wrap (IntKind.i64.wrap ((((p.bn.map lB.enc).length:Nat):Int)-(k:Int))-1))+1)=((2*(p.bn.length-k-1)+1:Nat):Int):=by rw[KB,gk (n:=(p.bn.length:Int)-k) om om,gk (n:=(p.bn.length:Int)-k-1) om om,gk (n:=2*((p.bn.length:Int)-k-1)) om om,gk om om];omega
  refine⟨?_,?_⟩
  .show((af (((fa p).take (2*k+1)).map dS.enc)).length+2)*32<=_;simp[af];omega
  refine⟨k+1,aE,(show p.bn.length-(k+1)<p.bn.length-k by omega),View.o 5 [0,4] [] ?_ ?_⟩
  .repeat(first|exact .nil|refine .ar ?_|refine .put (.aQ (aL om).symm) ?_|refine .eq rfl ?_)
  .refine .pe rfl rfl rfl (.pt rfl rfl (.bP ?_) (.nil _));show af (((fa p).take (2*k+1)).map dS.enc)++ [[CC.aa (.val (.int .i64 1)),.aa (.val (.int .i64 0)),.aa (.val (.int .i64 0)),.aa (.val (.int .i64 mk.w))],[.aa (.val (.int .i64 4)),.aa (.val (.int .i64 (IntKind.i64.wrap (IntKind.i64.wrap (2*IntKind.i64.wrap (IntKind.i64.wrap ((((p.bn.map lB.enc).length:Nat):Int)-(k:Int))-1))+1)))),.aa (.val (.int .i64 0)),.aa (.val (.int .i64 mk.bits))]]=_;rw[hw,hT,aav,nY];rfl
 .have xN:k=p.bn.length:=by have h:¬(k:Int)<(p.bn.length:Int):=h;omega
  subst xN;refine⟨?_,?_⟩
  .show((af (((fa p).take (2*p.bn.length+1)).map dS.enc)).length+2)*32<=_;simp[af];omega
  have eA:some (Bk.row 4 (af (((fa p).take (2*p.bn.length+1)).map dS.enc)++ [[CC.aa (.val (.int .i64 6)),.aa (.val (.int .i64 0)),.aa (.val (.int .i64 0)),.aa (.val (.int .i64 1))],[.aa (.val (.int .i64 6)),.aa (.val (.int .i64 0)),.aa (.val (.int .i64 0)),.aa (.val (.int .i64 0))]]))=some (Bk.row 4 (af ((fa p).map dS.enc))):=by
   conv=>rhs;rw[Kw p,aav,nY]
   rfl
  exact .rv (.one (dU.dX eA 0 none))
theorem Kx(p:cY)(hm:p.bn.length<=1000){m:Mem}{K:CV->Mem->Prop}(h:K (pT (fa p)) m):aq Tryz.prog 52 [p.cv] m K:=
 aY (aX Tryz.func52 l52 (DE p hm)) (by simp[cY.cv,CV.c6,CC.c6,RV.c6]) fun r m1 hf=>⟨_,hf,h⟩
theorem oN{n:Nat}{l:List cY}(hg:∀p,p∈l->p.bn.length<=3)(hl:l.length<=30)(hn:l.length<=n):(fX n l).length<=330:=by
 have h2:=rm n l hg hn;by_cases e:l=[]
 .have:=h2.1 e;omega
 .have:=h2.2 e;omega
theorem E3:∀(n:Nat)(l:List cY),l.length<=n->l.length<=30->(∀p,p∈l->p.bn.length<=3)->∀{m:Mem}{K:CV->Mem->Prop},K (pT (fX n l)) m->aq Tryz.prog 27 [ec l] m K:=by
 intro n
 induction n with
 |zero=>
  intro l hl _ _ m K h;have:l=[]:=Wg om;subst this;refine aY (K0:=fun r m=>cw m r (pT (fX 0 []))) (ce Tryz.func27 l27 ?_) (by simp[ec,CV.c6,CC.c6]) fun r m1 hf=>⟨_,hf,h⟩
  exact .rv (.one (dU.dX rfl 0 none))
 |succ n ih=>
  intro l hl aa5 hg m K h;refine aY (K0:=fun r m=>cw m r (pT (fX (n+1) l))) (ce Tryz.func27 l27 ?_) (by simp[ec,CV.c6,CC.c6]) fun r m1 hf=>⟨_,hf,h⟩
  refine bA (fun h0=>?_) (fun h0=>?_)
  .have h0:l=[]:=by have h0:(((l.map cY.enc).length:Nat):Int)=0:=h0;rw[KB]at h0;exact Wg om
   subst h0;exact .rv (.one (dU.dX rfl 0 none))
  have h0:l.length≠0:=by have h0:(((l.map cY.enc).length:Nat):Int)≠0:=h0;rw[KB]at h0;omega
  refine bA (fun h1=>?_) (fun h1=>?_)
  .have h1:l.length=1:=by have h1:(((l.map cY.enc).length:Nat):Int)=1:=h1;rw[KB]at h1;omega
   match l,h1 with
   | [p],_=>
    refine Kx p (by have:=hg p (by simp);omega) ?_
    exact cw.self rfl
  have h2:2<=l.length:=by have h1:(((l.map cY.enc).length:Nat):Int)≠1:=h1;rw[KB]at h1;omega
  have hq:IntKind.i64.wrap ((((l.map cY.enc).length:Nat):Int).tdiv 2)=((l.length/2:Nat):Int):=by rw[KB,show(2:Int)=((2:Nat):Int)from rfl,<-Int.ofNat_tdiv,gk om om]
  refine fv [0] [(3,an .i64 ((l.length/2:Nat):Int))] [] (View.o 0 [] [] ?_ (.nil _)) ?_
  .repeat(first|exact .nil|refine .ar ?_|refine .eq rfl ?_|refine .put (.aQ (congrArg (an .i64) hq).symm) ?_)
  have hk:l.length/2<l.length:=om;have b1:(Nat.ble 0 (l.length/2)&&Nat.ble (l.length/2) (l.map cY.enc).length)=true:=by rw[SD,aak,aak,KB];omega
  have b2:(Nat.ble (l.length/2) (l.map cY.enc).length&&Nat.ble (l.map cY.enc).length (l.map cY.enc).length)=true:=by rw[SD,aak,aak,KB];omega
  have e1:((l.map cY.enc).take (l.length/2)).drop 0=(l.take (l.length/2)).map cY.enc:=by rw[abt,abd]
  have e2:((l.map cY.enc).take (l.map cY.enc).length).drop (l.length/2)=(l.drop (l.length/2)).map cY.enc:=by rw[aal,abN]
  refine cj b1 ?_;refine cj b2 ?_;show aq Tryz.prog 27 [.rv (.one (.aa (.sl 2 (((l.map cY.enc).take (l.length/2)).drop 0))))] _ _;rw[e1];refine ih (l.take (l.length/2)) (by rw[Z3];omega) (by rw[Z3];omega) (fun p hp=>hg p (aaw hp)) ?_
  refine⟨⟨cj b2 rfl,trivial⟩,?_⟩;show aq Tryz.prog 27 [.rv (.one (.aa (.sl 2 (((l.map cY.enc).take (l.map cY.enc).length).drop (l.length/2)))))] _ _;rw[e2];refine ih (l.drop (l.length/2)) (by rw[aaC];omega) (by rw[aaC];omega) (fun p hp=>hg p (abb hp)) ?_
  refine⟨trivial,?_⟩;have XQ:dg (l.map cY.enc) ((l.length/2:Nat):Int)=some (l[l.length/2].enc):=by rw[bI,NO,sA hk];rfl
  have OX:MM l=(l[l.length/2]).call:=by rw[MM,sA hk]
  refine ag XQ ?_;have t1:=oN (n:=n) (l:=l.take (l.length/2)) (fun p hp=>hg p (aaw hp)) (by rw[Z3];omega) (by rw[Z3];omega)
  have t2:=oN (n:=n) (l:=l.drop (l.length/2)) (fun p hp=>hg p (abb hp)) (by rw[aaC];omega) (by rw[aaC];omega)
  have In:=wU (n:=n) h2;generalize fX n (l.take (l.length/2))=lo at t1 In;generalize fX n (l.drop (l.length/2))=hi at t2 In;refine⟨?_,?_⟩
  .show(2+((lo.map dS.enc).map fun ds=>ds.map CC.aa).length)*32<=_
   simp;omega
  refine⟨?_,?_⟩
  .show(([[CC.aa (.val (.int .i64 3)),.aa (.val (.int .i64 0)),.aa (.val (.int .i64 1)),.aa (.val (.int .i64 (l[l.length/2]).call))],[.aa (.val (.int .i64 5)),.aa (.val (.int .i64 0)),.aa (.val (.int .i64 0)),.aa (.val (.int .i64 (((lo.map dS.enc).length:Nat):Int)))]]++((lo.map dS.enc).map fun ds=>ds.map CC.aa)).length+((hi.map dS.enc).map fun ds=>ds.map CC.aa).length)*32<=_
   simp;omega
  have eA:some (Bk.row 4 (([[CC.aa (.val (.int .i64 3)),.aa (.val (.int .i64 0)),.aa (.val (.int .i64 1)),.aa (.val (.int .i64 (l[l.length/2]).call))],[.aa (.val (.int .i64 5)),.aa (.val (.int .i64 0)),.aa (.val (.int .i64 0)),.aa (.val (.int .i64 (((lo.map dS.enc).length:Nat):Int)))]]++((lo.map dS.enc).map fun ds=>ds.map CC.aa))++((hi.map dS.enc).map fun ds=>ds.map CC.aa)))=some (Bk.row 4 (((fX (n+1) l).map dS.enc).map fun ds=>ds.map CC.aa)):=by rw[In,KB,OX];simp[dS.enc]
  exact .rv (.one (dU.dX eA 0 none))
def Tryz.AU:Go.Shelf.Ren:=⟨fun|6=>24|15=>50|14=>49|28=>93|29=>94|20=>85|21=>86|22=>87|23=>88|24=>89|25=>90|26=>91|27=>92|46=>122|47=>123|48=>124|49=>125|50=>126|57=>144|n=>n,fun|22=>38|24=>75|25=>96|3=>3|39=>127|0=>0|53=>187|55=>189|4=>4|46=>181|45=>180|50=>50|5=>5|9=>9|66=>233|70=>237|76=>250|77=>102|n=>n,fun|n=>n⟩
theorem Tryz.MN:Go.Proofs.SlLaysF0.n6 Tryz.prog Tryz.AU:={
 mixed:=by kernel_rfl,
 f6:=⟨ "slices.SortFunc[[]ringfence/api.Policy,ringfence/api.Policy]",by decide,Tryz.func24.trans (congrArg some (by kernel_rfl))⟩,
 f14:=⟨ "slices.pdqsortCmpFunc[ringfence/api.Policy]",by decide,Tryz.func49.trans (congrArg some (by kernel_rfl))⟩,
 f15:=Tryz.func50.trans (congrArg some (by kernel_rfl)),
 f20:=⟨ "slices.insertionSortCmpFunc[ringfence/api.Policy]",by decide,Tryz.func85.trans (congrArg some (by kernel_rfl))⟩,
 f21:=⟨ "slices.heapSortCmpFunc[ringfence/api.Policy]",by decide,Tryz.func86.trans (congrArg some (by kernel_rfl))⟩,
 f22:=⟨ "slices.breakPatternsCmpFunc[ringfence/api.Policy]",by decide,Tryz.func87.trans (congrArg some (by kernel_rfl))⟩,
 f23:=⟨ "slices.choosePivotCmpFunc[ringfence/api.Policy]",by decide,Tryz.func88.trans (congrArg some (by kernel_rfl))⟩,
 f24:=⟨ "slices.reverseRangeCmpFunc[ringfence/api.Policy]",by decide,Tryz.func89.trans (congrArg some (by kernel_rfl))⟩,
 f25:=⟨ "slices.partialInsertionSortCmpFunc[ringfence/api.Policy]",by decide,Tryz.func90.trans (congrArg some (by kernel_rfl))⟩,
 f26:=⟨ "slices.partitionEqualCmpFunc[ringfence/api.Policy]",by decide,Tryz.func91.trans (congrArg some (by kernel_rfl))⟩,
 f27:=⟨ "slices.partitionCmpFunc[ringfence/api.Policy]",by decide,Tryz.func92.trans (congrArg some (by kernel_rfl))⟩,
 f28:=Tryz.func93.trans (congrArg some (by kernel_rfl)),
 f29:=Tryz.func94.trans (congrArg some (by kernel_rfl)),
 f46:=⟨ "slices.siftDownCmpFunc[ringfence/api.Policy]",by decide,Tryz.func122.trans (congrArg some (by kernel_rfl))⟩,
 f47:=Tryz.func123.trans (congrArg some (by kernel_rfl)),
 f48:=Tryz.func124.trans (congrArg some (by kernel_rfl)),
 f49:=⟨ "slices.medianAdjacentCmpFunc[ringfence/api.Policy]",by decide,Tryz.func125.trans (congrArg some (by kernel_rfl))⟩,
 f50:=⟨ "slices.medianCmpFunc[ringfence/api.Policy]",by decide,Tryz.func126.trans (congrArg some (by kernel_rfl))⟩,
 f57:=⟨ "slices.order2CmpFunc[ringfence/api.Policy]",by decide,Tryz.func144.trans (congrArg some (by kernel_rfl))⟩,
 t0:=Tryz.underlying0,
 a0:=Tryz.isAgg0,
 z0:=Tryz.sizeOf0,
 v0:=Tryz.zeroValue0,
 t3:=Tryz.underlying3,
 a3:=Tryz.isAgg3,
 z3:=Tryz.sizeOf3,
 v3:=Tryz.zeroValue3,
 t4:=Tryz.underlying4,
 a4:=Tryz.isAgg4,
 z4:=Tryz.sizeOf4,
 v4:=Tryz.zeroValue4,
 t5:=Tryz.underlying5,
 a5:=Tryz.isAgg5,
 z5:=Tryz.sizeOf5,
 v5:=Tryz.zeroValue5,
 t9:=Tryz.underlying9,
 a9:=Tryz.isAgg9,
 z9:=Tryz.sizeOf9,
 v9:=Tryz.zeroValue9,
 t22:=Tryz.underlying38,
 a22:=Tryz.isAgg38,
 z22:=Tryz.sizeOf38,
 v22:=Tryz.zeroValue38,
 t25:=Tryz.underlying96,
 a25:=Tryz.isAgg96,
 z25:=Tryz.sizeOf96,
 v25:=Tryz.zeroValue96,
 t39:=Tryz.underlying127,
 a39:=Tryz.isAgg127,
 z39:=Tryz.sizeOf127,
 v39:=Tryz.zeroValue127,
 t45:=Tryz.underlying180,
 a45:=Tryz.isAgg180,
 z45:=Tryz.sizeOf180,
 v45:=Tryz.zeroValue180,
 t46:=Tryz.underlying181,
 a46:=Tryz.isAgg181,
 z46:=Tryz.sizeOf181,
 v46:=Tryz.zeroValue181,
 t50:=Tryz.underlying50,
 a50:=Tryz.isAgg50,
 z50:=Tryz.sizeOf50,
 v50:=Tryz.zeroValue50,
 t53:=Tryz.underlying187,
 a53:=Tryz.isAgg187,
 z53:=Tryz.sizeOf187,
 v53:=Tryz.zeroValue187,
 t55:=Tryz.underlying189,
 a55:=Tryz.isAgg189,
 z55:=Tryz.sizeOf189,
 v55:=Tryz.zeroValue189,
 t66:=Tryz.underlying233,
 a66:=Tryz.isAgg233,
 z66:=Tryz.sizeOf233,
 v66:=Tryz.zeroValue233,
 t70:=Tryz.underlying237,
 a70:=Tryz.isAgg237,
 z70:=Tryz.sizeOf237,
 v70:=Tryz.zeroValue237,
 t76:=Tryz.underlying250,
 a76:=Tryz.isAgg250,
 z76:=Tryz.sizeOf250,
 v76:=Tryz.zeroValue250,
 t77:=Tryz.underlying102,
 a77:=Tryz.isAgg102,
 z77:=Tryz.sizeOf102,
 v77:=Tryz.zeroValue102}
def Tryz.DF:Go.Shelf.Ren:=⟨fun|5=>26|7=>51|n=>n,fun|22=>3|3=>3|4=>4|n=>n,fun|n=>n⟩
theorem Tryz.PZ:Go.Proofs.SlLaysC2.n5 Tryz.prog Tryz.DF:={
 mixed:=by kernel_rfl,
 f5:=⟨ "cmp.Compare[int]",by decide,Tryz.func26.trans (congrArg some (by kernel_rfl))⟩,
 f7:=⟨ "cmp.isNaN[int]",by decide,Tryz.func51.trans (congrArg some (by kernel_rfl))⟩,
 t3:=Tryz.underlying3,
 a3:=Tryz.isAgg3,
 z3:=Tryz.sizeOf3,
 v3:=Tryz.zeroValue3,
 t4:=Tryz.underlying4,
 a4:=Tryz.isAgg4,
 z4:=Tryz.sizeOf4,
 v4:=Tryz.zeroValue4,
 t22:=Tryz.underlying3,
 a22:=Tryz.isAgg3,
 z22:=Tryz.sizeOf3,
 v22:=Tryz.zeroValue3}
open Go.Shelf Go.Lib Go.Sort in
def Uu(x:cY×(Option Addr×Nat×Nat)):List Value:=[.int .i64 x.1.call,.slice x.2.1 x.2.2.1 x.2.2.2]
instance Uv:Inhabited cY:=⟨⟨0,[]⟩⟩
open Go.Shelf Go.Lib Go.Sort in
theorem Kz(a b:Int)(s1 s2:Option Addr)(n1 n2 k1 k2:Nat)(W:World):Calls Tryz.prog 25 #[.agg #[.int .i64 a,.slice s1 n1 k1],.agg #[.int .i64 b,.slice s2 n2 k2]] W fun e w'=>e= .returned (.int .i64 (Lib.compareInt a b))/\∃q os',w'=Sort.grow (W.drewN q) os':=by
 have hcon:=fun W'=>AnyG.cmp_Compare_int Tryz.PZ a b W'
 change ∀W',Calls Tryz.prog 26 _ _ _ at hcon;generalize Lib.compareInt a b=r at hcon⊢
 go_enter Tryz.func25,Tryz.ntmps25
 go_wp2_with (go_at_call 26;refine(hcon _).mono ?_;rintro e w' ⟨rfl,rfl⟩)
 go_ret
 exact⟨rfl,0,_,by rw[Sort.alloc_eq_grow,Sort.alloc_eq_grow,Sort.grow_grow];rfl⟩
open Go.Shelf Go.Lib Go.Sort in
theorem MO(x y:cY×(Option Addr×Nat×Nat)):ltOf (fun x y:cY×(Option Addr×Nat×Nat)=>Lib.compareInt x.1.call y.1.call) x y=decide (x.1.call<y.1.call):=by
 unfold ltOf Lib.compareInt;by_cases h1:x.1.call<y.1.call
 .simp[h1]
 .by_cases h2:y.1.call<x.1.call<;>simp[h1,h2]
open Go.Shelf Go.Lib Go.Sort in
theorem Xe:SWO (ltOf fun x y:cY×(Option Addr×Nat×Nat)=>Lib.compareInt x.1.call y.1.call) where
 irrefl x:=by rw[MO];simp
 trans x y z h1 h2:=by rw[MO]at*;simp at*;omega
 ntrans x y z h1 h2:=by rw[MO]at*;simp at*;omega
open Go.Shelf Go.Lib Go.Sort in
theorem KA(l:List cY)(hne:l≠[])(hl:l.length<=4194304){m:Mem}{id:Nat}(hb:cR m id=some (.row 2 (af (l.map cY.enc)))){K:CV->Mem->Prop}(h:∀l':List cY,l'.Perm l->l'.Pairwise (fun a b=>¬b.call<a.call)->K (.bF []) (aZ m id (.row 2 (af (l'.map cY.enc))))):aq Tryz.prog 24 [.rv (.one (.row id 2 0 none)),.rv (.one (.fn 25 []))] m K:=by
 refine⟨⟨Tryz.f24,Tryz.func24,rfl,by decide⟩,fun ρ w vs hM hvl hd=>?_⟩
 obtain⟨v0,h0,d0⟩:=hd 0 _ rfl;obtain⟨v1,h1,d1⟩:=hd 1 _ rfl;have hvs:vs=[v0,v1]:=by
  match vs,hvl with
  | [a,b],_=>simp at h0 h1;rw[h0,h1]
 rw[aU]at hb;obtain⟨hid,_,_,hlc,hcm,a,hv0,ha⟩:=(show bq ρ w none (.row id 2 0 none) v0 from d0);obtain⟨_,hv1⟩:=(show bq ρ w none (.fn 25 []) v1 from d1);obtain⟨hln,_,_,hsz,hcu⟩:=hM.bk id _ hb;have hlen:(ρ.aP (.ap id)).len=l.length:=by rw[<-hln];simp[af]
 have hpos:0<l.length:=abX.2 hne;have hcap:0<(ρ.aP (.ap id)).cap:=om;obtain⟨cur,hcur,hcsz,hcells⟩:=hcu hcap;have ha:=ha hcap;have hel:∀i(hi:i<l.length),∃x:Option Addr×Nat×Nat,cur[(ρ.aP (.ap id)).au+i*2+0]? =some (.int .i64 l[i].call)/\cur[(ρ.aP (.ap id)).au+i*2+1]? =some (.slice x.1 x.2.1 x.2.2)/\
   cZ ρ.S w (.sl 2 (l[i].bn.map lB.enc)) (.slice x.1 x.2.1 x.2.2):=by
  intro i hi;have hri:(af (l.map cY.enc))[i]? =some (l[i].enc.map .aa):=by simp[af,hi]
  obtain⟨u,hu,hdu⟩:=hcells i _ 0 _ hri rfl;obtain⟨u1,hu1,hdu1⟩:=hcells i _ 1 _ hri rfl;have e0:u= .int .i64 l[i].call:=by
   have hdu:cZ ρ.S w (.val (.int .i64 l[i].call)) u:=hdu;cases hdu with
   |val _ _=>rfl
  have hdu1:cZ ρ.S w (.sl 2 (l[i].bn.map lB.enc)) u1:=hdu1;obtain⟨b,n,c,e1⟩:∃b n c,u1=Value.slice b n c:=by
   generalize l[i].bn.map lB.enc=E at hdu1;cases hdu1 with
   |nil _ b c _=>exact⟨_,_,_,rfl⟩
   |sl _ _ b off c u _ _ _ _ _ _=>exact⟨_,_,_,rfl⟩
  subst e0 e1;exact⟨(b,n,c),hu,hu1,hdu1⟩
 obtain⟨X,hX⟩:∃X:Nat->Option Addr×Nat×Nat,∀i(hi:i<l.length),cur[(ρ.aP (.ap id)).au+i*2+0]? =some (.int .i64 l[i].call)/\cur[(ρ.aP (.ap id)).au+i*2+1]? =some (.slice (X i).1 (X i).2.1 (X i).2.2)/\
   cZ ρ.S w (.sl 2 (l[i].bn.map lB.enc)) (.slice (X i).1 (X i).2.1 (X i).2.2):=
  ⟨fun i=>if hi:i<l.length then Classical.choose (hel i hi)else(none,0,0),fun i hi=>by have:=Classical.choose_spec (hel i hi);simp only[dif_pos hi];exact this⟩
 obtain⟨d,hdd⟩:∃d:Array (cY×(Option Addr×Nat×Nat)),d=(l.zipIdx.map fun p=>(p.1,X p.2)).toArray:=⟨_,rfl⟩
 have hds:d.size=l.length:=by simp[hdd]
 have hdg:∀i(hi:i<l.length),d[i]! =(l[i],X i):=by intro i hi;rw[getElem!_pos d i om];simp[hdd]
 have hdl:d.toList.map Prod.fst=l:=by rw[hdd,List.toList_toArray,aaS];exact List.zipIdx_map_fst 0 l
 have hH:HoldsK Uu 2 w (ρ.aP (.ap id)).b (ρ.aP (.ap id)).au d:=by
  intro j hj;rw[size_flatK,hds]at hj;have hi:j/2<l.length:=om;obtain⟨g0,g1,_⟩:=hX (j/2) hi;have hc:l.length*2<=(ρ.aP (.ap id)).cap*2:=om;rw[hcur.cell,get_flatK _ _ _ _ (by rw[hds];exact hj),hdg _ hi]
  refine⟨?_,hcur.nZ om⟩;rcases Nat.mod_two_eq_zero_or_one j with e|e
  .rw[e,show(ρ.aP (.ap id)).au+j=(ρ.aP (.ap id)).au+j/2*2+0 by omega,g0];rfl
  .rw[e,show(ρ.aP (.ap id)).au+j=(ρ.aP (.ap id)).au+j/2*2+1 by omega,g1];rfl
 have eg:∀args w,(callFunc 25 args).run Tryz.prog w= .ok (.enter 25 args) w:=enters_of Tryz.func25 (by kernel_rfl) rfl
 have hblk:(ρ.aP (.ap id)).b<w.heap.size:=hcur.lt;have hcon:=AnyQ.slices_SortFunc Tryz.MN 2 Tryz.isAgg75 Tryz.sizeOf75 Uu (fun _=>rfl) (fun x v hv=>by simp[Uu]at hv;rcases hv with rfl|rfl<;>rfl) (fun x y=>Lib.compareInt x.1.call y.1.call) Xe 25 #[] (ρ.aP (.ap id)).b (ρ.aP (.ap id)).au (ρ.aP (.ap id)).cap d w eg
  (fun _ _ _ _ x y=>Kz x.1.call y.1.call x.2.1 y.2.1 x.2.2.1 y.2.2.1 x.2.2.2 y.2.2.2 _) hH hblk om
 change Calls Tryz.prog 24 _ _ _ at hcon;have hargs:vs.toArray= #[.slice (some ⟨(ρ.aP (.ap id)).b,(ρ.aP (.ap id)).au,none⟩) d.size (ρ.aP (.ap id)).cap,.func (.func 25) #[] #[]]:=by rw[hvs,hv0,hv1,ha,hds,<-hlen];simp
 rw[hargs];refine hcon.mono ?_;rintro e w' ⟨rfl,d',n,os,hp,hs,rfl⟩;obtain⟨hp1,_,hp2⟩:=hp;have hp2:d'.toList.Perm d.toList:=by
  have e1:d'.extract 0 d.size=d':=by rw[<-hp1];simp
  have e2:d.extract 0 d.size=d:=aI;rw[e1,e2]at hp2;exact hp2
 have hperm:(d'.toList.map Prod.fst).Perm l:=by have:=hp2.map Prod.fst;rwa [hdl]at this
 have hll:(d'.toList.map Prod.fst).length=l.length:=hperm.length_eq;have hsort:(d'.toList.map Prod.fst).Pairwise (fun a b=>¬b.call<a.call):=by
  rw[aa1];intro i j hi hj hij;have hj2:j<d'.size:=by simpa using hj
  have:=hs i j (Wi _) hij om;rw[MO,getElem!_pos d' i om,getElem!_pos d' j hj2]at this;simpa using this
 have hmem:∀i,i<d'.size->∃k,∃hk:k<l.length,d'[i]! =(l[k],X k):=by
  intro i hi;have:d'[i]! ∈d.toList:=by rw[<-hp2.mem_iff,getElem!_pos d' i hi];exact abT.2 (Array.getElem_mem hi)
  obtain⟨k,hk⟩:=Un this;obtain⟨hk1,hk2⟩:=Gf.1 hk;have hk1:k<d.size:=by simpa using hk1
  refine⟨k,om,?_⟩;rw[<-hdg k om,getElem!_pos d k hk1,<-hk2];simp
 have hb2:=hb;obtain⟨hM',hX'⟩:=FP (j9:=af ((d'.toList.map Prod.fst).map cY.enc)) (F:=flatK Uu 2 d') hM hb (by simpa[af]using hpos) (by simp[af];omega) (fun cs hcs=>by
   simp only[af,Z5]at hcs;obtain⟨x,⟨p,_,rfl⟩,rfl⟩:=hcs;rfl) (by rw[size_flatK];simp[af];omega) (fun cs hcs c hc=>by
   simp only[af,Z5]at hcs;obtain⟨x,_,rfl⟩:=hcs;obtain⟨d,_,rfl⟩:=Z5.1 hc;exact⟨d,rfl⟩) (fun i cs j c hi hj=>by
   simp only[af,NO]at hi;cases ho:d'.toList[i]? with
   |none=>rw[ho]at hi;simp at hi
   |some y=>
    rw[ho]at hi;simp only[Wn,Wm]at hi;subst hi;have hid':i<d'.size:=by have:=(Gf.1 ho).1;simpa using this
    have hy:d'[i]! =y:=by rw[getElem!_pos d' i hid'];have:=(Gf.1 ho).2;simpa using this
    obtain⟨k,hk,hyk⟩:=hmem i hid';rw[hy]at hyk;subst hyk;have hj2:j<2:=by have:=(Gf.1 hj).1;simpa[cY.enc]using this
    rw[get_flatK _ _ _ _ om,show(i*2+j)/2=i by omega,show(i*2+j)%2=j by omega,hy]
    match j,hj2,hj with
    |0,_,hj=>cases hj;exact cZ.val _ rfl
    |1,_,hj=>cases hj;exact(hX k hk).2.2) n os
 rw[<-bg]at hM' hX';exact⟨_,.bF [],_,ρ,rfl,h _ hperm hsort,hM',⟨[],rfl,rfl,aI⟩,hX'⟩
def c17:LF:= ⟨22,[.tmp 2,.cell true 2 3],(.seq (.ai [qu 2 (.aF qe),qu 3 (.alloc [(qd 0),(qd 0)])]) (.seq (.seq (.ai [qm 6 0,qu 7 (qc 22 [6]),qu 4 (.alloc [(qd 0),(qd 0)]),qw (.store 2 4 7)]) (.seq (.ai [qf 8 0 4,ql 9 8,qu 10 (.aH .neq 9 (qi 0))]) (.cond 10 (.seq (.bU [qL 11 2 4,qu 2 (.aF qe),qw (.store 2 3 11)] [(.cons 0 none (.cons 1 none (.cons 2 (some []) .nil)))]) .ret) .skip))) (.seq (.ai [qm 12 0,qu 13 (qc 23 [12]),qm 5 13]) (.seq (.ai [qm 14 5,qu 15 (qc 24 [14,(.c (.rv (.one (.fn 25 []))))])]) (.seq (.ai [qu 16 (.build [(qd 0),(qd 0),(qd 0),(qd 0)] [(0,1,(qi 1))]),qu 17 (.l5 4 [(qd 0),(qd 0),(qd 0),(qd 0)] 1 [(0,16)]),qm 18 5,qu 19 (qc 27 [18]),qu 20 (.mE 4 32 17 19),qu 21 (.build [(qd 0),(qd 0)] []),qm 2 20,qw (.store 2 3 21)]) .ret)))))⟩
def c23:LF:= ⟨8,[.tmp 2],(.seq (.ai [qu 2 (.aF qe)]) (.seq (.seq (.ai [qm 3 0,qu 4 (.u5 false 3)]) (.cond 4 (.seq (.ai [qu 2 (.aF qe)]) .ret) .skip)) (.seq (.ai [qu 5 (.l5 2 [(qd 0),.aB] 0 []),qm 6 0,qu 7 (.mE 2 32 5 6),qm 2 7]) .ret)))⟩
def c24:LF:= ⟨14,[],(.seq (.ai [qm 5 0,qu 6 (.len 1 5),qm 4 6]) (.ai [qm 7 0,qm 8 4,qm 9 4,qu 10 (.conv .u64 9),qu 11 (qc 50 [10]),qm 12 1,qu 13 (qc 49 [7,(qi 0),8,11,12])]))⟩
def c49:LF:= ⟨148,[],(.seq (.ai [qu 10 (.aF (qb true))]) (.seq (.ai [qu 11 (.aF (qb true))]) (.block 0 (.loop (.block 1 (.seq (.ai [qm 21 2,qm 22 1,qu 23 (.aH .sub 21 22),qm 12 23]) (.seq (.seq (.ai [qm 24 12,qu 25 (.aH .leq 24 (qi 12))]) (.cond 25 (.seq (.ai [qm 26 0,qm 27 1,qm 28 2,qm 29 4,qu 30 (qc 85 [26,27,28,29])]) .ret) .skip)) (.seq (.seq (.ai [qm 31 3,qu 32 (.aH .eql 31 (qi 0))]) (.cond 32 (.seq (.ai [qm 33 0,qm 34 1,qm 35 2,qm 36 4,qu 37 (qc 86 [33,34,35,36])]) .ret) .skip)) (.seq (.seq (.ai [qm 38 10,qu 39 (.un .not 38)]) (.cond 39 (.seq (.ai [qm 40 0,qm 41 1,qm 42 2,qm 43 4,qu 44 (qc 87 [40,41,42,43])]) (.ai [qm 45 3,qu 46 (.aH .sub 45 (qi 1)),qm 3 46])) .skip)) (.seq (.ai [qm 48 0,qm 49 1,qm 50 2,qm 51 4,qu 52 (qc 88 [48,49,50,51]),qm 47 52,qu 53 (.ext 47 0),qu 54 (.ext 47 1),qm 13 53,qm 14 54]) (.seq (.seq (.ai [qm 55 14,qu 56 (.aH .eql 55 (qi 2))]) (.cond 56 (.seq (.ai [qm 57 0,qm 58 1,qm 59 2,qm 60 4,qu 61 (qc 89 [57,58,59,60])]) (.seq (.ai [qm 62 2,qu 63 (.aH .sub 62 (qi 1)),qm 64 13,qm 65 1,qu 66 (.aH .sub 64 65),qu 67 (.aH .sub 63 66),qm 13 67]) (.ai [qu 14 (.aF (qi 1))]))) .skip)) (.seq (.seq (.ai [qm 68 10,qm 69 68,qg 70 (.aF 11) 69 true,qu 71 (.pick 69 70 (qb false)),qm 72 71,qg 73 (.aF 14) 72 true,qg 74 (.aH .eql 73 (qi 1)) 72 true,qu 75 (.pick 72 74 (qb false))]) (.cond 75 (.seq (.ai [qm 76 0,qm 77 1,qm 78 2,qm 79 4,qu 80 (qc 90 [76,77,78,79])]) (.cond 80 .ret .skip)) .skip)) (.seq (.seq (.bU [qm 81 1,qu 82 (.aH .gtr 81 (qi 0)),qm 83 82,qg 84 (.aF 4) 83 true,qg 85 (.aF 0) 83 true,qg 86 (.aF 1) 83 true,qg 87 (.aH .sub 86 (qi 1)) 83 true,qg 88 (.cr 2 85 87) 83 true,qg 89 (.load true 2 88) 83 true,qg 90 (.aF 0) 83 true,qg 91 (.aF 13) 83 true,qg 92 (.cr 2 90 91) 83 true,qg 93 (.load true 2 92) 83 true,qg 94 (.call 84 [89,93]) 83 true,qg 95 (.aH .lss 94 (qi 0)) 83 true,qg 96 (.un .not 95) 83 true,qu 97 (.pick 83 96 (qb false))] [(.cons 0 none (.cons 1 none (.cons 2 none (.cons 3 none (.cons 4 none (.cons 5 none (.cons 6 none (.cons 7 none (.cons 8 none (.cons 9 none (.cons 10 none (.cons 11 none (.cons 12 none (.cons 13 (some []) (.cons 14 none (.cons 15 none (.cons 16 none .nil)))))))))))))))))]) (.cond 97 (.seq (.ai [qm 98 0,qm 99 1,qm 100 2,qm 101 13,qm 102 4,qu 103 (qc 91 [98,99,100,101,102]),qm 15 103]) (.seq (.ai [qm 104 15,qm 1 104]) (.exit 1))) .skip)) (.seq (.ai [qm 106 0,qm 107 1,qm 108 2,qm 109 13,qm 110 4,qu 111 (qc 92 [106,107,108,109,110]),qm 105 111,qu 112 (.ext 105 0),qu 113 (.ext 105 1),qm 16 112,qm 17 113]) (.seq (.ai [qm 114 17,qm 11 114]) (.seq (.ai [qm 115 16,qm 116 1,qu 117 (.aH .sub 115 116),qm 118 2,qm 119 16,qu 120 (.aH .sub 118 119),qm 18 117,qm 19 120]) (.seq (.ai [qm 121 12,qu 122 (.aH .quo 121 (qi 8)),qm 20 122]) (.seq (.ai [qm 123 18,qm 124 19,qu 125 (.aH .lss 123 124)]) (.cond 125 (.seq (.ai [qm 126 18,qm 127 20,qu 128 (.aH .geq 126 127),qm 10 128]) (.seq (.ai [qm 129 0,qm 130 1,qm 131 16,qm 132 3,qm 133 4,qu 134 (qc 49 [129,130,131,132,133])]) (.ai [qm 135 16,qu 136 (.aH .add 135 (qi 1)),qm 1 136]))) (.seq (.ai [qm 137 19,qm 138 20,qu 139 (.aH .geq 137 138),qm 10 139]) (.seq (.ai [qm 140 0,qm 141 16,qu 142 (.aH .add 141 (qi 1)),qm 143 2,qm 144 3,qm 145 4,qu 146 (qc 49 [140,142,143,144,145])]) (.ai [qm 147 16,qm 2 147]))))))))))))))))))))))⟩
def c50:LF:= ⟨8,[.tmp 2],(.seq (.ai [qu 2 (.aF (qi 0))]) (.seq (.cond (qb false) (.seq (.ai [qm 3 0,qu 4 (.conv .u32 3),qu 5 (qc 93 [4]),qm 2 5]) .ret) .skip) (.seq (.ai [qm 6 0,qu 7 (qc 94 [6]),qm 2 7]) .ret)))⟩
def c85:LF:= ⟨53,[],(.seq (.ai [qm 10 1,qu 11 (.aH .add 10 (qi 1)),qm 8 11]) (.block 0 (.loop (.seq (.seq (.ai [qm 12 8,qm 13 2,qu 14 (.aH .lss 12 13)]) (.cond 14 .skip (.exit 0))) (.seq (.block 1 (.seq (.ai [qm 17 8,qm 9 17]) (.block 2 (.loop (.seq (.seq (.bU [qm 18 9,qm 19 1,qu 20 (.aH .gtr 18 19),qm 21 20,qg 22 (.aF 3) 21 true,qg 23 (.aF 0) 21 true,qg 24 (.aF 9) 21 true,qg 25 (.cr 2 23 24) 21 true,qg 26 (.load true 2 25) 21 true,qg 27 (.aF 0) 21 true,qg 28 (.aF 9) 21 true,qg 29 (.aH .sub 28 (qi 1)) 21 true,qg 30 (.cr 2 27 29) 21 true,qg 31 (.load true 2 30) 21 true,qg 32 (.call 22 [26,31]) 21 true,qg 33 (.aH .lss 32 (qi 0)) 21 true,qu 34 (.pick 21 33 (qb false))] [(.cons 0 none (.cons 1 none (.cons 2 none (.cons 3 none (.cons 4 none (.cons 5 none (.cons 6 none (.cons 7 none (.cons 8 none (.cons 9 none (.cons 10 none (.cons 11 none (.cons 12 none (.cons 13 none (.cons 14 (some []) (.cons 15 none (.cons 16 none .nil)))))))))))))))))]) (.cond 34 .skip (.exit 2))) (.seq (.block 3 (.bU [qm 37 0,qm 38 9,qm 39 0,qm 40 9,qu 41 (.aH .sub 40 (qi 1)),qm 42 0,qm 43 9,qu 44 (.aH .sub 43 (qi 1)),qu 45 (.cr 2 42 44),qL 46 2 45,qm 47 0,qm 48 9,qu 49 (.cr 2 47 48),qL 50 2 49,qu 51 (.cr 2 37 38),qw (.store 2 51 46),qu 52 (.cr 2 39 41),qw (.store 2 52 50)] [(.cons 0 none (.cons 1 none (.cons 2 none (.cons 3 none (.cons 4 none (.cons 5 none (.cons 6 none (.cons 7 none (.cons 8 none (.cons 9 none (.cons 10 none (.cons 11 none (.cons 12 none (.cons 13 none (.cons 14 none (.cons 15 (some []) (.cons 16 none (.cons 17 (some []) .nil))))))))))))))))))])) (.ai [qm 35 9,qu 36 (.aH .sub 35 (qi 1)),qm 9 36]))))))) (.ai [qm 15 8,qu 16 (.aH .add 15 (qi 1)),qm 8 16]))))))⟩
def c94:LF:= ⟨25,[.tmp 2],(.seq (.ai [qu 2 (.aF (qi 0))]) (.seq (.seq (.ai [qm 3 0,qu 4 (.aH .geq 3 (.c (.rv (.one (.aa (.val (.int .u64 (4294967296))))))))]) (.cond 4 (.seq (.ai [qm 5 0,qu 6 (.aH .shr 5 (.c (.rv (.one (.aa (.val (.int .u64 (32)))))))),qm 0 6]) (.ai [qu 2 (.aF (qi 32))])) .skip)) (.seq (.seq (.ai [qm 7 0,qu 8 (.aH .geq 7 (.c (.rv (.one (.aa (.val (.int .u64 (65536))))))))]) (.cond 8 (.seq (.ai [qm 9 0,qu 10 (.aH .shr 9 (.c (.rv (.one (.aa (.val (.int .u64 (16)))))))),qm 0 10]) (.ai [qm 11 2,qu 12 (.aH .add 11 (qi 16)),qm 2 12])) .skip)) (.seq (.seq (.ai [qm 13 0,qu 14 (.aH .geq 13 (.c (.rv (.one (.aa (.val (.int .u64 (256))))))))]) (.cond 14 (.seq (.ai [qm 15 0,qu 16 (.aH .shr 15 (.c (.rv (.one (.aa (.val (.int .u64 (8)))))))),qm 0 16]) (.ai [qm 17 2,qu 18 (.aH .add 17 (qi 8)),qm 2 18])) .skip)) (.seq (.ai [qm 19 2,qm 20 0,qu 21 (.conv .u8 20),qu 22 (.yT (.c (.rv (.one (.aa (.val (.string ⟨#[0,1,2,2,3,3,3,3,4,4,4,4,4,4,4,4,5,5,5,5,5,5,5,5,5,5,5,5,5,5,5,5,6,6,6,6,6,6,6,6,6,6,6,6,6,6,6,6,6,6,6,6,6,6,6,6,6,6,6,6,6,6,6,6,7,7,7,7,7,7,7,7,7,7,7,7,7,7,7,7,7,7,7,7,7,7,7,7,7,7,7,7,7,7,7,7,7,7,7,7,7,7,7,7,7,7,7,7,7,7,7,7,7,7,7,7,7,7,7,7,7,7,7,7,7,7,7,7,8,8,8,8,8,8,8,8,8,8,8,8,8,8,8,8,8,8,8,8,8,8,8,8,8,8,8,8,8,8,8,8,8,8,8,8,8,8,8,8,8,8,8,8,8,8,8,8,8,8,8,8,8,8,8,8,8,8,8,8,8,8,8,8,8,8,8,8,8,8,8,8,8,8,8,8,8,8,8,8,8,8,8,8,8,8,8,8,8,8,8,8,8,8,8,8,8,8,8,8,8,8,8,8,8,8,8,8,8,8,8,8,8,8,8,8,8,8,8,8,8,8,8,8,8,8,8,8]⟩)))))) 21),qu 23 (.conv .i64 22),qu 24 (.aH .add 19 23),qm 2 24]) .ret)))))⟩
theorem l23:bs Tryz.prog Tryz.f23=some c23:=by kernel_rfl
theorem l24:bs Tryz.prog Tryz.f24=some c24:=by kernel_rfl
theorem l49:bs Tryz.prog Tryz.f49=some c49:=by kernel_rfl
theorem l50:bs Tryz.prog Tryz.f50=some c50:=by kernel_rfl
theorem l85:bs Tryz.prog Tryz.f85=some c85:=by kernel_rfl
theorem l94:bs Tryz.prog Tryz.f94=some c94:=by kernel_rfl
theorem l17:bs Tryz.prog Tryz.f17=some c17:=by kernel_rfl
theorem MP{m:Mem}{K:CV->Mem->Prop}(h:K (an .i64 0) m):aq Tryz.prog 94 [an .u64 0] m K:=
 bu (r0:=an .i64 0) Tryz.func94 l94 rfl (V5 rfl) (show body Tryz.prog c94 [an .u64 0] [] (fun r m=>r=an .i64 0)from rfl) rfl rfl h
theorem P0{m:Mem}{K:CV->Mem->Prop}(h:K (an .i64 0) m):aq Tryz.prog 50 [an .u64 0] m K:=
 bu (r0:=an .i64 0) Tryz.func50 l50 rfl (V5 rfl) (show body Tryz.prog c50 [an .u64 0] [] (fun r m=>r=an .i64 0)from MP rfl) rfl rfl h
theorem TA{m:Mem}{K:CV->Mem->Prop}(h:K (.bF []) m):aq Tryz.prog 85 [ec [],an .i64 0,an .i64 0,.rv (.one (.fn 25 []))] m K:=by
 refine bu (r0:= .bF []) Tryz.func85 l85 rfl (V5 rfl) ?_ rfl rfl h;refine ba (fun _:Nat=>True) [0,1,2,3,8] (fun _=>[]) (fun _=>[]) (fun _=>0) 0 trivial ?_ (fun _ _=>?_)
 .refine View.o 0 [] [] ?_ (.nil _);repeat(first|exact .nil|refine .ar ?_|refine .eq rfl ?_)
 .rfl
theorem TB{m:Mem}{K:CV->Mem->Prop}(h:K (.bF []) m):aq Tryz.prog 49 [ec [],an .i64 0,an .i64 0,an .i64 0,.rv (.one (.fn 25 []))] m K:=by
 refine bu (r0:= .bF []) Tryz.func49 l49 rfl (V5 rfl) ?_ rfl rfl h;refine ba (fun _:Nat=>True) [0,1,2,3,4,10,11] (fun _=>[]) (fun _=>[]) (fun _=>0) 0 trivial ?_ (fun _ _=>?_)
 .refine View.o 0 [] [] ?_ (.nil _);repeat(first|exact .nil|refine .ar ?_|refine .eq rfl ?_)
 .refine TA ?_;rfl
theorem MQ{m:Mem}{K:CV->Mem->Prop}(h:K (.bF []) m):aq Tryz.prog 24 [ec [],.rv (.one (.fn 25 []))] m K:=by refine bu (r0:= .bF []) Tryz.func24 l24 rfl (V5 rfl) ?_ rfl rfl h;refine P0 ?_;refine TB ?_;rfl
theorem AV(l:List cY)(hl:l.length<=4194304):body Tryz.prog c23 [ec l] [] (fun r m=>cw m r (ec l)):=by
 have p0:((([]:List (List CC)).length+((l.map cY.enc).map fun ds=>ds.map CC.aa).length)*32)<=140737488355328:=by simp;omega
 refine aD (fun h=>?_) (fun h=>?_)
 .have hd:l=[]:=Wg (by simpa using Wh h)
  subst hd;exact⟨.rv (.one (.aB 2)),p0,.rv (.one (dU.dX rfl 0 none))⟩
 .exact⟨p0,.rv (.one (dU.dX rfl 0 none))⟩
theorem Ha(l:List cY)(hl:l.length<=4194304){m:Mem}{K:CV->Mem->Prop}(h:K (ec l) m):aq Tryz.prog 23 [ec l] m K:=
 aY (aX Tryz.func23 l23 (AV l hl)) (by simp[ec,CV.c6,CC.c6]) fun r m1 hf=>⟨_,hf,h⟩
theorem yB(l:List cY)(eG:l≠[])(hl:l.length<=4194304):body Tryz.prog c23 [ec l] [] (fun r m=>∃r' m',View 0 ⟨[r],m⟩ ⟨[r'],m'⟩/\r'= .rv (.one (.row 0 2 0 none))/\m'=[.row 2 (af (l.map cY.enc))]):=by
 have p0:((([]:List (List CC)).length+((l.map cY.enc).map fun ds=>ds.map CC.aa).length)*32)<=140737488355328:=by simp;omega
 refine tJ ?_ ?_
 .have:(l.map cY.enc).length≠0:=by simp[eG]
  cases h:Nat.beq (l.map cY.enc).length 0 with
  |false=>rfl
  |true=>exact absurd (Wh h) this
 .refine⟨p0,_,_,View.o 2 [1] [] (.eq rfl .nil) (.pt rfl rfl (.bP (by simp[af,cu])) (.nil _)),rfl,rfl⟩
theorem DG(l:List cY)(eG:l≠[])(hl:l.length<=4194304){m:Mem}{K:CV->Mem->Prop}(h:K (.rv (.one (.row m.length 2 0 none))) (m++ [.row 2 (af (l.map cY.enc))])):aq Tryz.prog 23 [ec l] m K:=by
 refine bw [] m.length rfl rfl rfl rfl (args0:=[ec l]) rfl (fun i b' hi=>by simp at hi) (K0:=fun r m=>r= .rv (.one (.row 0 2 0 none))/\m=[.row 2 (af (l.map cY.enc))])
  (bK (aX Tryz.func23 l23 (yB l eG hl)) fun r m1 h=>h) (fun r m1 hr=>?_)
 obtain⟨rfl,rfl⟩:=hr;refine⟨Wi _,?_⟩;show K (.rv (.one (.row (m.length+(0-0)) 2 0 none))) (gL m [Bk.aQ _ _]);rw[cf,Bk.jn];exact h
theorem KC{m:Mem}{a b:RV}{f:Int×Int}(h:d8 m a b):cw m (.bF [a,.agg [.aa (.val (.int .i64 f.1)),.aa (.val (.int .i64 f.2))]]) (.bF [b,.agg [.aa (.val (.int .i64 f.1)),.aa (.val (.int .i64 f.2))]]):=by
 refine .bF rfl fun i r r' h1 h2=>?_
 match i,h1,h2 with
 |0,h1,h2=>cases h1;cases h2;exact h
 |1,h1,h2=>cases h1;cases h2;exact d8.self rfl
def MR(l:List dS)(f:Int×Int):CV:= .bF [.one (.aa (S7 l)),.agg [.aa (.val (.int .i64 f.1)),.aa (.val (.int .i64 f.2))]]
theorem Hb(l:List cY):body Tryz.prog c17 [ec l] [] (fun r m=>((cX l).1≠0->cw m r (MR [] (cX l)))/\((cX l).1=0->∃l',l'.Perm l/\nj l'/\cw m r (MR (iU l') (0,0)))):=by
 refine Kv l ?_;refine bt (fun h=>?_) (fun h=>?_)
 .refine⟨trivial,?_⟩;have h:(cX l).1≠0:=h;exact⟨fun _=>KC (.one (.aB 4)),fun h0=>absurd h0 h⟩
 have h:(cX l).1=0:=h;obtain⟨Yz,hg,hd⟩:=AS h;have mE:∀l':List cY,l'.Perm l->(1+(((fX l'.length l').map dS.enc).map fun ds=>ds.map CC.aa).length)*32<=140737488355328:=by
  intro l' hp;have:=oN (n:=l'.length) (l:=l') (fun p Oz=>(hg p (hp.mem_iff.1 Oz)).2.2.1) (by rw[hp.length_eq];exact Yz) (Pq _)
  simp;omega
 by_cases eG:l=[]
 .subst eG;refine Ha [] (by decide) ?_
  refine MQ ?_;refine E3 0 [] (by decide) (by decide) aI ?_
  refine⟨by decide,fun h0=>absurd h h0,fun _=>⟨[],.refl _,.nil,KC (f:=(0,0)) (.one (dU.dX (ds:=(iU []).map dS.enc) rfl 0 none))⟩⟩
 .refine DG l eG om ?_;refine KA l eG om rfl fun l' hp hs=>?_
  have hr:=G7 hs (vy hp hd);have Fs:l'.length<=30:=by rw[hp.length_eq];exact Yz
  refine nu (nS:=[ec l']) (m':=[.var [.aa (.val (.int .i64 0)),.aa (.val (.int .i64 0))],.var [.aa (.val (.int .i64 (cX l).1)),.aa (.val (.int .i64 (cX l).2))],.aO,.row 4 [[.aa (.val (.int .i64 1)),.aa (.val (.int .i64 0)),.aa (.val (.int .i64 0)),.aa (.val (.int .i64 0))]]])
   (View.o 4 [0,1,2,3] [2] (.put (po.eZ 2 (l'.map cY.enc) rfl rfl) .nil) (.pe rfl rfl rfl (.pe rfl rfl rfl (.aO (.pm rfl rfl rfl))))) ?_
  refine E3 l'.length l' (Pq _) Fs (fun p Oz=>(hg p (hp.mem_iff.1 Oz)).2.2.1) ?_
  refine⟨mE l' hp,fun h0=>absurd h h0,fun _=>⟨l',hp,hr,KC (f:=(0,0)) (.one (dU.dX (ds:=(iU l').map dS.enc) ?_ 0 none))⟩⟩
  rfl
theorem MS(l:List cY){m:Mem}{K:CV->Mem->Prop}(h1:(cX l).1≠0->K (MR [] (cX l)) m)(h2:(cX l).1=0->∀l':List cY,l'.Perm l->nj l'->K (MR (iU l') (0,0)) m):aq Tryz.prog 17 [ec l] m K:=by
 refine aY (aX Tryz.func17 l17 (Hb l)) (by simp[ec,CV.c6,CC.c6]) fun r m1 hf=>?_
 by_cases h:(cX l).1=0
 .obtain⟨l',hp,hr,hz⟩:=hf.2 h;exact⟨_,hz,h2 h l' hp hr⟩
 .exact⟨_,hf.1 h,h1 h⟩
end Go.Proofs.YtodckkkbiidffaaGreatDoor
