/- Part 38 of 41: what the law stands on. -/
import Derived.Test.YthagjdhjmamakaaGreatDoorT16
import Derived.Test.YthagjdhjmamakaaGreatDoorT17
import Derived.Test.YthagjdhjmamakaaGreatDoorT37
import Derived.Shelf.SlSortCmp.WholeK
import Derived.Shelf.SlicesG.Cmp
import Derived.WalkKit
import Derived.OwnWalkIn
set_option linter.unusedVariables false
set_option linter.unusedSimpArgs false
set_option linter.unnecessarySimpa false
set_option maxRecDepth 100000
set_option maxHeartbeats 64000000
namespace Go.Proofs.YthagjdhjmamakaaGreatDoor
open Go.AM Go.ChangeShapes Go.WideShapes Go.ChangeAt Go.RowKit
def nM:List lV->List dS
 | []=>[⟨6,0,0,1⟩,⟨6,0,0,0⟩]
 |m::r=>⟨1,0,0,m.w⟩:: ⟨4,((2*r.length+1:Nat):Int),0,m.bits⟩::nM r
def fh(p:cY):List dS:=⟨2,0,((2*p.bm.length+1:Nat):Int),p.call⟩::nM p.bm
def N1(l:List cY):Int:=match l[l.length/2]? with|some p=>p.call|none=>0
def gj:Nat->List cY->List dS
 |0,_=>[⟨6,0,0,0⟩]
 |_+1,[]=>[⟨6,0,0,0⟩]
 |_+1,[p]=>fh p
 |n+1,p::q::r=>⟨3,0,1,N1 (p::q::r)⟩:: ⟨5,0,0,(gj n ((p::q::r).take ((p::q::r).length/2))).length⟩::
   (gj n ((p::q::r).take ((p::q::r).length/2))++gj n ((p::q::r).drop ((p::q::r).length/2)))
theorem xV{n:Nat}{l:List cY}(h:2<=l.length):gj (n+1) l=⟨3,0,1,N1 l⟩:: ⟨5,0,0,(gj n (l.take (l.length/2))).length⟩::(gj n (l.take (l.length/2))++gj n (l.drop (l.length/2))):=by
 match l,h with
 |p::q::r,_=>rfl
theorem rU:∀ms:List lV,(nM ms).length=2*ms.length+2
 | []=>rfl
 |m::r=>by simp[nM,rU r];omega
theorem vJ:∀ms:List lV,(nM ms)[2*ms.length+1]? =some ⟨6,0,0,0⟩
 | []=>rfl
 |m::r=>by
  have:=vJ r;rw[XR,show 2*(r.length+1)+1=2*r.length+1+1+1 by omega]
  simpa[nM]using this
def At(P:List dS)(a:Nat)(c:List dS):Prop:=∀(j:Nat)i,c[j]? =some i->P[a+j]? =some i
theorem At.head{P:List dS}{a:Nat}{x:dS}{c:List dS}(h:At P a (x::c)):P[a]? =some x:=h 0 x rfl
theorem At.tail{P:List dS}{a:Nat}{x:dS}{c:List dS}(h:At P a (x::c)):At P (a+1) c:=fun j i hi=>by
 have:=h (j+1) i (by simpa using hi)
 rwa [show a+(j+1)=a+1+j by omega]at this
theorem At.left{P:List dS}{a:Nat}{c d:List dS}(h:At P a (c++d)):At P a c:=fun j i hi=>h j i (by rw[VO (Hy.1 hi).1];exact hi)
theorem At.right{P:List dS}{a:Nat}{c d:List dS}(h:At P a (c++d)):At P (a+c.length) d:=fun j i hi=>by
 have:=h (c.length+j) i (by rw[UX om];simpa using hi)
 rwa [show a+(c.length+j)=a+c.length+j by omega]at this
def nN(l:List cY):Prop:=l.Pairwise fun a b=>a.call<b.call
theorem nN.lo{l:List cY}(h:nN l){k:Nat}{q:cY}(hk:l[k]? =some q):∀p,p∈l.take k->p.call<q.call:=by
 intro p hp;obtain⟨i,hi⟩:=Xz hp;rw[aao]at hi;split at hi
 .rename_i T5;obtain⟨h1,rfl⟩:=Hy.1 hi;obtain⟨h2,rfl⟩:=Hy.1 hk;exact aaY.1 h i k h1 h2 T5
 .cases hi
def Rj(c:List dS)(a:Nat)(s:Int):Prop:=∀(j:Nat)i,c[j]? =some i->gF i ((a+j:Nat):Int) s=0
theorem Rj.cons{x:dS}{c:List dS}{a:Nat}{s:Int}(hx:gF x (a:Int) s=0)(h:Rj c (a+1) s):Rj (x::c) a s:=fun j i hi=>by
 cases j with
 |zero=>simp at hi;subst hi;exact hx
 |succ j=>
  have:=h j i (by simpa using hi)
  rwa [show a+1+j=a+(j+1) by omega]at this
def UW(m:lV):Prop:=1<=m.w/\m.w<6/\1<=m.bits/\m.bits<2147483648
def Pp(p:cY):Prop:=0<=p.call/\p.call<2147483648/\p.bm.length<=3/\∀m,m∈p.bm->UW m
theorem rV:∀(n:Nat)(l:List cY),(∀p,p∈l->p.bm.length<=3)->l.length<=n->(l=[]->(gj n l).length=1)/\(l≠[]->(gj n l).length+2<=11*l.length)
 |0,l,_,hl=>by have:l=[]:=XJ om;subst this;simp[gj]
 |n+1,l,h,hl=>by
  rcases XN l.length 2 with h2|h2
  .match l,h2 with
   | [],_=>simp[gj]
   | [p],_=>
    have:=h p aK;simp[gj,fh,rU];omega
  .refine⟨fun e=>by subst e;simp at h2,fun _=>?_⟩
   have i1:=(rV n (l.take (l.length/2)) (fun p hp=>h p (aaB hp)) (by rw[Z3];omega)).2 (fun e=>by have:=congrArg List.length e;rw[Z3,aat]at this;omega)
   have i2:=(rV n (l.drop (l.length/2)) (fun p hp=>h p (aa5 hp)) (by rw[aaE];omega)).2 (fun e=>by have:=congrArg List.length e;rw[aaE,aat]at this;omega)
   rw[xV h2];simp only[XR,aaw];rw[Z3]at i1;rw[aaE]at i2;omega
def ja(l:List cY):List dS:=⟨1,0,0,0⟩::gj l.length l
def nO(l:List cY):Prop:=l.Pairwise fun a b=>a.call≠b.call
theorem wA{l l':List cY}(h:l'.Perm l)(hd:nO l):nO l':=(h.pairwise_iff (fun h=>Ne.symm h)).2 hd
theorem BN{l:List cY}(h:(cT l).1=0):l.length<=30/\(∀p,p∈l->Pp p)/\nO l:=by
 unfold cT at h;split at h
 .simp at h
 .rename_i h0;have eB:∀j,j<l.length->gW l j=0:=by
   intro j
   induction j using Nat.strongRecOn with
   |_ j ih=>
    intro hj;by_cases hw:gW l j=0
    .exact hw
    .rw[pb l.length 0 j om om (fun i _ hi=>ih i hi om) hw]at h
     exact absurd h hw
  have fact:∀(j:Nat)p,l[j]? =some p->Pp p/\∀q,q∈l.take j->q.call≠p.call:=by
   intro j p hj;have hw:=eB j (Hy.1 hj).1;rw[gW,hj]at hw;simp only[jX]at hw;split at hw
   .simp at hw
   .rename_i c1;split at hw
    .simp at hw
    .rename_i c2;split at hw
     .simp at hw
     .rename_i c3;split at hw
      .simp at hw
      .rename_i c4;refine⟨⟨om,om,om,fun m hm=>?_⟩,fun q hq e=>?_⟩
       .have c4:p.bm.any rS=false:=by simpa using c4
        rw[List.any_eq_false]at c4;have hb:rS m=false:=by simpa using c4 m hm
        simp only[rS,Bool.or_eq_false_iff,decide_eq_false_iff_not]at hb;refine⟨om,om,om,om⟩
       .refine c2 (aaH.2 ⟨q,hq,by simp[e]⟩)
  refine⟨om,fun p hp=>?_,?_⟩
  .obtain⟨j,hj⟩:=Xz hp;exact(fact j p hj).1
  .rw[nO,aaY];intro i j hi hj pG;refine(fact j l[j] (tq hj)).2 l[i] ?_;exact O9 (i:=i) (by rw[aao,if_pos pG,tq hi])
theorem Is{l:List cY}(h:l.Pairwise fun a b=>¬b.call<a.call)(hd:nO l):nN l:=by have:=List.Pairwise.and h hd;exact this.imp fun⟨a,b⟩=>om
def c23:LF:= ⟨45,[.tmp 2],(.seq (.ai [qu 2 (.aD qe)]) (.seq (.seq (.ai [qm 7 0,qu 8 (.len 1 7)]) (.block 0 (.seq (.ai [qu 10 (.aE .eql 8 (qi 0)),qm 9 10]) (.cond 9 (.seq (.ai [qu 11 (.build [(qd 0),(qd 0),(qd 0),(qd 0)] [(0,1,(qi 6)),(3,1,(qi 0))]),qu 12 (.lu 4 [(qd 0),(qd 0),(qd 0),(qd 0)] 1 [(0,11)]),qm 2 12]) .ret) (.seq (.ai [qu 14 (.aE .eql 8 (qi 1)),qm 13 14]) (.cond 13 (.seq (.ai [qm 15 0,qu 16 (.b7 2 15 (qi 0)),qL 17 2 16,qu 18 (qc 45 [17]),qm 2 18]) .ret) .skip)))))) (.seq (.ai [qm 19 0,qu 20 (.len 1 19),qu 21 (.aE .quo 20 (qi 2)),qm 3 21]) (.cL (.seq (.bT [qm 22 0,qm 23 3,qu 24 (.m6 2 22 none (some 23) none),qu 25 (qc 23 [24]),qm 26 0,qm 27 3,qu 28 (.m6 2 26 (some 27) none none),qu 29 (qc 23 [28]),qm 4 25,qm 5 29] [(.cons 0 none (.cons 1 none (.cons 2 none (.cons 4 none (.cons 5 none (.cons 6 none (.cons 3 (some [6]) (.cons 7 (some []) (.cons 8 none (.cons 9 none .nil))))))))))]) (.seq (.ai [qm 30 0,qm 31 3,qu 32 (.b7 2 30 31),qf 33 0 32,ql 34 33,qu 35 (.build [(qd 0),(qd 0),(qd 0),(qd 0)] [(0,1,(qi 3)),(1,1,(qi 0)),(2,1,(qi 1)),(3,1,34)]),qm 36 4,qu 37 (.len 1 36),qu 38 (.build [(qd 0),(qd 0),(qd 0),(qd 0)] [(0,1,(qi 5)),(3,1,37)]),qu 39 (.lu 4 [(qd 0),(qd 0),(qd 0),(qd 0)] 2 [(0,35),(1,38)]),qm 6 39]) (.seq (.ai [qm 40 6,qm 41 4,qu 42 (.mY 4 32 40 41),qm 43 5,qu 44 (.mY 4 32 42 43),qm 2 44]) .ret)))))))⟩
def c45:LF:= ⟨50,[.tmp 2],(.seq (.ai [qu 1 (.box 0),qu 2 (.aD qe)]) (.seq (.ai [qf 8 1 1,ql 9 8,qu 10 (.len 1 9),qu 11 (.aE .mul (qi 2) 10),qu 12 (.aE .add 11 (qi 1)),qm 3 12]) (.seq (.ai [qm 13 3,qf 14 0 1,ql 15 14,qu 16 (.build [(qd 0),(qd 0),(qd 0),(qd 0)] [(0,1,(qi 2)),(1,1,(qi 0)),(2,1,13),(3,1,15)]),qu 17 (.lu 4 [(qd 0),(qd 0),(qd 0),(qd 0)] 1 [(0,16)]),qm 4 17]) (.seq (.seq (.ai [qf 18 1 1,ql 19 18,qu 20 (.len 1 19),qu 21 (.aD (qi 0))]) (.block 0 (.loop (.seq (.ai [qu 22 (.aE .lss 21 20)]) (.seq (.cond 22 .skip (.exit 0)) (.seq (.block 1 (.seq (.ai [qm 23 21,qu 24 (.b7 2 19 21),qL 25 2 24,qu 6 (.alloc [(qd 0),(qd 0)]),qm 5 23,qw (.store 2 6 25)]) (.seq (.ai [qf 26 1 1,ql 27 26,qu 28 (.len 1 27),qm 29 5,qu 30 (.aE .sub 28 29),qu 31 (.aE .sub 30 (qi 1)),qu 32 (.aE .mul (qi 2) 31),qu 33 (.aE .add 32 (qi 1)),qm 7 33]) (.ai [qm 34 4,qf 35 0 6,ql 36 35,qu 37 (.build [(qd 0),(qd 0),(qd 0),(qd 0)] [(0,1,(qi 1)),(3,1,36)]),qm 38 7,qf 39 1 6,ql 40 39,qu 41 (.build [(qd 0),(qd 0),(qd 0),(qd 0)] [(0,1,(qi 4)),(1,1,38),(2,1,(qi 0)),(3,1,40)]),qu 42 (.lu 4 [(qd 0),(qd 0),(qd 0),(qd 0)] 2 [(0,37),(1,41)]),qu 43 (.mY 4 32 34 42),qm 4 43])))) (.ai [qu 44 (.aE .add 21 (qi 1)),qm 21 44]))))))) (.seq (.ai [qm 45 4,qu 46 (.build [(qd 0),(qd 0),(qd 0),(qd 0)] [(0,1,(qi 6)),(3,1,(qi 1))]),qu 47 (.build [(qd 0),(qd 0),(qd 0),(qd 0)] [(0,1,(qi 6)),(3,1,(qi 0))]),qu 48 (.lu 4 [(qd 0),(qd 0),(qd 0),(qd 0)] 2 [(0,46),(1,47)]),qu 49 (.mY 4 32 45 48),qm 2 49]) .ret)))))⟩
theorem oG(a b:List (List Dt)):af (a++b)=af a++af b:=by simp[af]
theorem l45:bq Tryz.prog Tryz.f45=some c45:=by kernel_rfl
theorem l23:bq Tryz.prog Tryz.f23=some c23.er:=by kernel_rfl
theorem BO:∀(ms:List lV)(k:Nat)(m:lV),ms[k]? =some m->(nM ms)[2*k]? =some ⟨1,0,0,m.w⟩/\(nM ms)[2*k+1]? =some ⟨4,((2*(ms.length-k-1)+1:Nat):Int),0,m.bits⟩
 | [],k,m,h=>by simp at h
 |x::r,0,m,h=>by
  simp at h;subst h;refine⟨rfl,?_⟩;show some _=some _;rw[XR,show r.length+1-0-1=r.length by omega]
 |x::r,k+1,m,h=>by
  have:=BO r k m (by simpa using h)
  rw[show 2*(k+1)=2*k+1+1 by omega,XR,show r.length+1-(k+1)-1=r.length-k-1 by omega]
  simpa[nM]using this
theorem xW:∀ms:List lV,(nM ms)[2*ms.length]? =some ⟨6,0,0,1⟩
 | []=>rfl
 |m::r=>by
  have:=xW r;rw[XR,show 2*(r.length+1)=2*r.length+1+1 by omega]
  simpa[nM]using this
theorem It{p:cY}{k:Nat}{m:lV}(h:p.bm[k]? =some m):(fh p).take (2*(k+1)+1)=(fh p).take (2*k+1)++ [⟨1,0,0,m.w⟩,⟨4,((2*(p.bm.length-k-1)+1:Nat):Int),0,m.bits⟩]:=by
 obtain⟨h1,h2⟩:=BO p.bm k m h;have e1:(fh p)[2*k+1]? =some ⟨1,0,0,m.w⟩:=by simpa[fh]using h1
 have e2:(fh p)[2*k+1+1]? =some ⟨4,((2*(p.bm.length-k-1)+1:Nat):Int),0,m.bits⟩:=by simpa[fh]using h2
 rw[show 2*(k+1)+1=2*k+1+1+1 by omega,aaL,e2,aaL,e1]
 simp
theorem LR(p:cY):fh p=(fh p).take (2*p.bm.length+1)++ [⟨6,0,0,1⟩,⟨6,0,0,0⟩]:=by
 have h1:=xW p.bm;have h2:=vJ p.bm;have e1:(fh p)[2*p.bm.length+1]? =some ⟨6,0,0,1⟩:=by simpa[fh]using h1
 have e2:(fh p)[2*p.bm.length+1+1]? =some ⟨6,0,0,0⟩:=by simpa[fh]using h2
 have hl:(fh p).length=2*p.bm.length+1+1+1:=by simp[fh,rU]
 have h3:(fh p).take (2*p.bm.length+1+1+1)=fh p:=aaV om;rw[aaL,e2,aaL,e1,abw]at h3;exact h3.symm
theorem EJ(p:cY)(hm:p.bm.length<=1000):body Tryz.prog c45 [p.cv] [] (fun r m=>cw m r (qB (fh p))):=by
 have hn:IntKind.i64.wrap (IntKind.i64.wrap (2*(((p.bm.map lV.enc).length:Nat):Int))+1)=((2*p.bm.length+1:Nat):Int):=by rw[LW,gh (n:=2*(p.bm.length:Int)) om om,gh om om];omega
 refine aX (fun k=>k<=p.bm.length) [1,19] (fun k=>[(4,.rv (.one (.row 1 4 0 none))),(20,an .i64 (p.bm.length:Nat)),(21,an .i64 (k:Nat))]) (fun k=>[.var (p.enc.map .aa),.row 4 (af (((fh p).take (2*k+1)).map dS.enc))])
  (fun k=>p.bm.length-k) 0 (XL _) ?_ (fun k hk=>?_)
 .refine View.o 2 [0,1] [] ?_ ?_
  .repeat(first|exact .nil|refine .aq ?_|refine .eq rfl ?_|refine .put (.aP (by rw[LW];rfl)) ?_)
  .refine .pe rfl rfl rfl (.pt rfl rfl (.bR ?_) (.nil _));show [[CC.aa (.val (.int .i64 2)),.aa (.val (.int .i64 0)),.aa (.val (.int .i64 (IntKind.i64.wrap (IntKind.i64.wrap (2*(((p.bm.map lV.enc).length:Nat):Int))+1)))),.aa (.val (.int .i64 p.call))]]=_;rw[hn];rfl
 have hk:k<=p.bm.length:=hk;refine aJ (fun h=>?_) (fun h=>?_)
 .have aF:k<p.bm.length:=by have h:(k:Int)<(p.bm.length:Int):=h;omega
  have hi:=tq aF;have hT:=It hi;have hg:dg (p.bm.map lV.enc) (k:Nat)=some [.val (.int .i64 p.bm[k].w),.val (.int .i64 p.bm[k].bits)]:=by rw[bF,O6,hi];rfl
  generalize p.bm[k]=mk at hT hg;refine ag hg ?_;have hw:IntKind.i64.wrap (IntKind.i64.wrap (2*IntKind.i64.wrap (IntKind.i64.wrap ((((p.bm.map lV.enc).length:Nat):Int)-(k:Int))-1))+1)=((2*(p.bm.length-k-1)+1:Nat):Int):=by rw[LW,gh (n:=(p.bm.length:Int)-k) om om,gh (n:=(p.bm.length:Int)-k-1) om om,gh (n:=2*((p.bm.length:Int)-k-1)) om om,gh om om];omega
  refine⟨?_,?_⟩
  .show((af (((fh p).take (2*k+1)).map dS.enc)).length+2)*32<=_;simp[af];omega
  refine⟨k+1,aF,(show p.bm.length-(k+1)<p.bm.length-k by omega),View.o 5 [0,4] [] ?_ ?_⟩
  .repeat(first|exact .nil|refine .aq ?_|refine .put (.aP (aL om).symm) ?_|refine .eq rfl ?_)
  .refine .pe rfl rfl rfl (.pt rfl rfl (.bR ?_) (.nil _));show af (((fh p).take (2*k+1)).map dS.enc)++ [[CC.aa (.val (.int .i64 1)),.aa (.val (.int .i64 0)),.aa (.val (.int .i64 0)),.aa (.val (.int .i64 mk.w))],[.aa (.val (.int .i64 4)),.aa (.val (.int .i64 (IntKind.i64.wrap (IntKind.i64.wrap (2*IntKind.i64.wrap (IntKind.i64.wrap ((((p.bm.map lV.enc).length:Nat):Int)-(k:Int))-1))+1)))),.aa (.val (.int .i64 0)),.aa (.val (.int .i64 mk.bits))]]=_;rw[hw,hT,aax,oG];rfl
 .have yF:k=p.bm.length:=by have h:¬(k:Int)<(p.bm.length:Int):=h;omega
  subst yF;refine⟨?_,?_⟩
  .show((af (((fh p).take (2*p.bm.length+1)).map dS.enc)).length+2)*32<=_;simp[af];omega
  have eE:some (Bk.row 4 (af (((fh p).take (2*p.bm.length+1)).map dS.enc)++ [[CC.aa (.val (.int .i64 6)),.aa (.val (.int .i64 0)),.aa (.val (.int .i64 0)),.aa (.val (.int .i64 1))],[.aa (.val (.int .i64 6)),.aa (.val (.int .i64 0)),.aa (.val (.int .i64 0)),.aa (.val (.int .i64 0))]]))=some (Bk.row 4 (af ((fh p).map dS.enc))):=by
   conv=>rhs;rw[LR p,aax,oG]
   rfl
  exact .rv (.one (dY.d6 eE 0 none))
theorem LS(p:cY)(hm:p.bm.length<=1000){m:Mem}{K:CV->Mem->Prop}(h:K (qB (fh p)) m):ar Tryz.prog 45 [p.cv] m K:=
 aY (aW Tryz.func45 l45 (EJ p hm)) (by simp[cY.cv,CV.c7,CC.c7,RV.c7]) fun r m1 hf=>⟨_,hf,h⟩
theorem pd{n:Nat}{l:List cY}(hg:∀p,p∈l->p.bm.length<=3)(hl:l.length<=30)(hn:l.length<=n):(gj n l).length<=330:=by
 have h2:=rV n l hg hn;by_cases e:l=[]
 .have:=h2.1 e;omega
 .have:=h2.2 e;omega
theorem Gl:∀(n:Nat)(l:List cY),l.length<=n->l.length<=30->(∀p,p∈l->p.bm.length<=3)->∀{m:Mem}{K:CV->Mem->Prop},K (qB (gj n l)) m->ar Tryz.prog 23 [dM l] m K:=by
 intro n
 induction n with
 |zero=>
  intro l hl _ _ m K h;have:l=[]:=XJ om;subst this;refine aY (K0:=fun r m=>cw m r (qB (gj 0 []))) (cf Tryz.func23 l23 ?_) (by simp[dM,CV.c7,CC.c7]) fun r m1 hf=>⟨_,hf,h⟩
  exact .rv (.one (dY.d6 rfl 0 none))
 |succ n ih=>
  intro l hl acD hg m K h;refine aY (K0:=fun r m=>cw m r (qB (gj (n+1) l))) (cf Tryz.func23 l23 ?_) (by simp[dM,CV.c7,CC.c7]) fun r m1 hf=>⟨_,hf,h⟩
  refine bz (fun h0=>?_) (fun h0=>?_)
  .have h0:l=[]:=by have h0:(((l.map cY.enc).length:Nat):Int)=0:=h0;rw[LW]at h0;exact XJ om
   subst h0;exact .rv (.one (dY.d6 rfl 0 none))
  have h0:l.length≠0:=by have h0:(((l.map cY.enc).length:Nat):Int)≠0:=h0;rw[LW]at h0;omega
  refine bz (fun h1=>?_) (fun h1=>?_)
  .have h1:l.length=1:=by have h1:(((l.map cY.enc).length:Nat):Int)=1:=h1;rw[LW]at h1;omega
   match l,h1 with
   | [p],_=>
    refine LS p (by have:=hg p (by simp);omega) ?_
    exact cw.self rfl
  have h2:2<=l.length:=by have h1:(((l.map cY.enc).length:Nat):Int)≠1:=h1;rw[LW]at h1;omega
  have hq:IntKind.i64.wrap ((((l.map cY.enc).length:Nat):Int).tdiv 2)=((l.length/2:Nat):Int):=by rw[LW,show(2:Int)=((2:Nat):Int)from rfl,<-Int.ofNat_tdiv,gh om om]
  refine fC [0] [(3,an .i64 ((l.length/2:Nat):Int))] [] (View.o 0 [] [] ?_ (.nil _)) ?_
  .repeat(first|exact .nil|refine .aq ?_|refine .eq rfl ?_|refine .put (.aP (congrArg (an .i64) hq).symm) ?_)
  have hk:l.length/2<l.length:=om;have b1:(Nat.ble 0 (l.length/2)&&Nat.ble (l.length/2) (l.map cY.enc).length)=true:=by rw[T6,aap,aap,LW];omega
  have b2:(Nat.ble (l.length/2) (l.map cY.enc).length&&Nat.ble (l.map cY.enc).length (l.map cY.enc).length)=true:=by rw[T6,aap,aap,LW];omega
  have e1:((l.map cY.enc).take (l.length/2)).drop 0=(l.take (l.length/2)).map cY.enc:=by rw[abe,abc]
  have e2:((l.map cY.enc).take (l.map cY.enc).length).drop (l.length/2)=(l.drop (l.length/2)).map cY.enc:=by rw[aan,abD]
  refine b8 b1 ?_;refine b8 b2 ?_;show ar Tryz.prog 23 [.rv (.one (.aa (.sl 2 (((l.map cY.enc).take (l.length/2)).drop 0))))] _ _;rw[e1];refine ih (l.take (l.length/2)) (by rw[Z3];omega) (by rw[Z3];omega) (fun p hp=>hg p (aaB hp)) ?_
  refine⟨⟨b8 b2 rfl,trivial⟩,?_⟩;show ar Tryz.prog 23 [.rv (.one (.aa (.sl 2 (((l.map cY.enc).take (l.map cY.enc).length).drop (l.length/2)))))] _ _;rw[e2];refine ih (l.drop (l.length/2)) (by rw[aaE];omega) (by rw[aaE];omega) (fun p hp=>hg p (aa5 hp)) ?_
  refine⟨trivial,?_⟩;have Zl:dg (l.map cY.enc) ((l.length/2:Nat):Int)=some (l[l.length/2].enc):=by rw[bF,O6,tq hk];rfl
  have Qi:N1 l=(l[l.length/2]).call:=by rw[N1,tq hk]
  refine ag Zl ?_;have t1:=pd (n:=n) (l:=l.take (l.length/2)) (fun p hp=>hg p (aaB hp)) (by rw[Z3];omega) (by rw[Z3];omega)
  have t2:=pd (n:=n) (l:=l.drop (l.length/2)) (fun p hp=>hg p (aa5 hp)) (by rw[aaE];omega) (by rw[aaE];omega)
  have JF:=xV (n:=n) h2;generalize gj n (l.take (l.length/2))=lo at t1 JF;generalize gj n (l.drop (l.length/2))=hi at t2 JF;refine⟨?_,?_⟩
  .show(2+((lo.map dS.enc).map fun ds=>ds.map CC.aa).length)*32<=_
   simp;omega
  refine⟨?_,?_⟩
  .show(([[CC.aa (.val (.int .i64 3)),.aa (.val (.int .i64 0)),.aa (.val (.int .i64 1)),.aa (.val (.int .i64 (l[l.length/2]).call))],[.aa (.val (.int .i64 5)),.aa (.val (.int .i64 0)),.aa (.val (.int .i64 0)),.aa (.val (.int .i64 (((lo.map dS.enc).length:Nat):Int)))]]++((lo.map dS.enc).map fun ds=>ds.map CC.aa)).length+((hi.map dS.enc).map fun ds=>ds.map CC.aa).length)*32<=_
   simp;omega
  have eE:some (Bk.row 4 (([[CC.aa (.val (.int .i64 3)),.aa (.val (.int .i64 0)),.aa (.val (.int .i64 1)),.aa (.val (.int .i64 (l[l.length/2]).call))],[.aa (.val (.int .i64 5)),.aa (.val (.int .i64 0)),.aa (.val (.int .i64 0)),.aa (.val (.int .i64 (((lo.map dS.enc).length:Nat):Int)))]]++((lo.map dS.enc).map fun ds=>ds.map CC.aa))++((hi.map dS.enc).map fun ds=>ds.map CC.aa)))=some (Bk.row 4 (((gj (n+1) l).map dS.enc).map fun ds=>ds.map CC.aa)):=by rw[JF,LW,Qi];simp[dS.enc]
  exact .rv (.one (dY.d6 eE 0 none))
def Tryz.BP:Go.Shelf.Ren:=⟨fun|6=>20|15=>43|14=>42|28=>86|29=>87|20=>78|21=>79|22=>80|23=>81|24=>82|25=>83|26=>84|27=>85|46=>115|47=>116|48=>117|49=>118|50=>119|57=>137|n=>n,fun|22=>38|24=>58|25=>65|3=>3|39=>99|0=>0|53=>168|55=>170|4=>4|46=>161|45=>160|50=>165|5=>5|9=>9|66=>214|70=>218|76=>231|77=>80|n=>n,fun|n=>n⟩
theorem Tryz.N2:Go.Proofs.SlLaysF0.n6 Tryz.prog Tryz.BP:={
 mixed:=by kernel_rfl,
 f6:=⟨ "slices.SortFunc[[]ringfence/api.Policy,ringfence/api.Policy]",by decide,Tryz.func20.trans (congrArg some (by kernel_rfl))⟩,
 f14:=⟨ "slices.pdqsortCmpFunc[ringfence/api.Policy]",by decide,Tryz.func42.trans (congrArg some (by kernel_rfl))⟩,
 f15:=Tryz.func43.trans (congrArg some (by kernel_rfl)),
 f20:=⟨ "slices.insertionSortCmpFunc[ringfence/api.Policy]",by decide,Tryz.func78.trans (congrArg some (by kernel_rfl))⟩,
 f21:=⟨ "slices.heapSortCmpFunc[ringfence/api.Policy]",by decide,Tryz.func79.trans (congrArg some (by kernel_rfl))⟩,
 f22:=⟨ "slices.breakPatternsCmpFunc[ringfence/api.Policy]",by decide,Tryz.func80.trans (congrArg some (by kernel_rfl))⟩,
 f23:=⟨ "slices.choosePivotCmpFunc[ringfence/api.Policy]",by decide,Tryz.func81.trans (congrArg some (by kernel_rfl))⟩,
 f24:=⟨ "slices.reverseRangeCmpFunc[ringfence/api.Policy]",by decide,Tryz.func82.trans (congrArg some (by kernel_rfl))⟩,
 f25:=⟨ "slices.partialInsertionSortCmpFunc[ringfence/api.Policy]",by decide,Tryz.func83.trans (congrArg some (by kernel_rfl))⟩,
 f26:=⟨ "slices.partitionEqualCmpFunc[ringfence/api.Policy]",by decide,Tryz.func84.trans (congrArg some (by kernel_rfl))⟩,
 f27:=⟨ "slices.partitionCmpFunc[ringfence/api.Policy]",by decide,Tryz.func85.trans (congrArg some (by kernel_rfl))⟩,
 f28:=Tryz.func86.trans (congrArg some (by kernel_rfl)),
 f29:=Tryz.func87.trans (congrArg some (by kernel_rfl)),
 f46:=⟨ "slices.siftDownCmpFunc[ringfence/api.Policy]",by decide,Tryz.func115.trans (congrArg some (by kernel_rfl))⟩,
 f47:=Tryz.func116.trans (congrArg some (by kernel_rfl)),
 f48:=Tryz.func117.trans (congrArg some (by kernel_rfl)),
 f49:=⟨ "slices.medianAdjacentCmpFunc[ringfence/api.Policy]",by decide,Tryz.func118.trans (congrArg some (by kernel_rfl))⟩,
 f50:=⟨ "slices.medianCmpFunc[ringfence/api.Policy]",by decide,Tryz.func119.trans (congrArg some (by kernel_rfl))⟩,
 f57:=⟨ "slices.order2CmpFunc[ringfence/api.Policy]",by decide,Tryz.func137.trans (congrArg some (by kernel_rfl))⟩,
 t0:=Tryz.underlying0,
 a0:=Tryz.isAgg0,
 z0:=Tryz.sizeOf0,
 v0:=Tryz.zeroValue0,
 t3:=Tryz.underlying3,
 a3:=Tryz.isAgg3,
 z3:=Tryz.sizeOf3,
 v3:=Tryz.zeroValue3,
 t4:=Tryz.underlying4,
 a4:=Tryz.isAgg4,
 z4:=Tryz.sizeOf4,
 v4:=Tryz.zeroValue4,
 t5:=Tryz.underlying5,
 a5:=Tryz.isAgg5,
 z5:=Tryz.sizeOf5,
 v5:=Tryz.zeroValue5,
 t9:=Tryz.underlying9,
 a9:=Tryz.isAgg9,
 z9:=Tryz.sizeOf9,
 v9:=Tryz.zeroValue9,
 t22:=Tryz.underlying38,
 a22:=Tryz.isAgg38,
 z22:=Tryz.sizeOf38,
 v22:=Tryz.zeroValue38,
 t25:=Tryz.underlying65,
 a25:=Tryz.isAgg65,
 z25:=Tryz.sizeOf65,
 v25:=Tryz.zeroValue65,
 t39:=Tryz.underlying99,
 a39:=Tryz.isAgg99,
 z39:=Tryz.sizeOf99,
 v39:=Tryz.zeroValue99,
 t45:=Tryz.underlying160,
 a45:=Tryz.isAgg160,
 z45:=Tryz.sizeOf160,
 v45:=Tryz.zeroValue160,
 t46:=Tryz.underlying161,
 a46:=Tryz.isAgg161,
 z46:=Tryz.sizeOf161,
 v46:=Tryz.zeroValue161,
 t50:=Tryz.underlying165,
 a50:=Tryz.isAgg165,
 z50:=Tryz.sizeOf165,
 v50:=Tryz.zeroValue165,
 t53:=Tryz.underlying168,
 a53:=Tryz.isAgg168,
 z53:=Tryz.sizeOf168,
 v53:=Tryz.zeroValue168,
 t55:=Tryz.underlying170,
 a55:=Tryz.isAgg170,
 z55:=Tryz.sizeOf170,
 v55:=Tryz.zeroValue170,
 t66:=Tryz.underlying214,
 a66:=Tryz.isAgg214,
 z66:=Tryz.sizeOf214,
 v66:=Tryz.zeroValue214,
 t70:=Tryz.underlying218,
 a70:=Tryz.isAgg218,
 z70:=Tryz.sizeOf218,
 v70:=Tryz.zeroValue218,
 t76:=Tryz.underlying231,
 a76:=Tryz.isAgg231,
 z76:=Tryz.sizeOf231,
 v76:=Tryz.zeroValue231,
 t77:=Tryz.underlying80,
 a77:=Tryz.isAgg80,
 z77:=Tryz.sizeOf80,
 v77:=Tryz.zeroValue80}
def Tryz.EK:Go.Shelf.Ren:=⟨fun|5=>22|7=>44|n=>n,fun|22=>3|3=>3|4=>4|n=>n,fun|n=>n⟩
theorem Tryz.Rk:Go.Proofs.SlLaysC2.n5 Tryz.prog Tryz.EK:={
 mixed:=by kernel_rfl,
 f5:=⟨ "cmp.Compare[int]",by decide,Tryz.func22.trans (congrArg some (by kernel_rfl))⟩,
 f7:=⟨ "cmp.isNaN[int]",by decide,Tryz.func44.trans (congrArg some (by kernel_rfl))⟩,
 t3:=Tryz.underlying3,
 a3:=Tryz.isAgg3,
 z3:=Tryz.sizeOf3,
 v3:=Tryz.zeroValue3,
 t4:=Tryz.underlying4,
 a4:=Tryz.isAgg4,
 z4:=Tryz.sizeOf4,
 v4:=Tryz.zeroValue4,
 t22:=Tryz.underlying3,
 a22:=Tryz.isAgg3,
 z22:=Tryz.sizeOf3,
 v22:=Tryz.zeroValue3}
open Go.Shelf Go.Lib Go.Sort in
def VV(x:cY×(Option Addr×Nat×Nat)):List Value:=[.int .i64 x.1.call,.slice x.2.1 x.2.2.1 x.2.2.2]
instance VW:Inhabited cY:=⟨⟨0,[]⟩⟩
open Go.Shelf Go.Lib Go.Sort in
theorem LU(a b:Int)(s1 s2:Option Addr)(n1 n2 k1 k2:Nat)(W:World):Calls Tryz.prog 21 #[.agg #[.int .i64 a,.slice s1 n1 k1],.agg #[.int .i64 b,.slice s2 n2 k2]] W fun e w'=>e= .returned (.int .i64 (Lib.compareInt a b))/\∃q os',w'=Sort.grow (W.drewN q) os':=by
 have hcon:=fun W'=>AnyG.cmp_Compare_int Tryz.Rk a b W'
 change ∀W',Calls Tryz.prog 22 _ _ _ at hcon;generalize Lib.compareInt a b=r at hcon⊢
 go_enter Tryz.func21,Tryz.ntmps21
 go_wp2_with (go_at_call 22;refine(hcon _).mono ?_;rintro e w' ⟨rfl,rfl⟩)
 go_ret
 exact⟨rfl,0,_,by rw[Sort.alloc_eq_grow,Sort.alloc_eq_grow,Sort.grow_grow];rfl⟩
open Go.Shelf Go.Lib Go.Sort in
theorem N3(x y:cY×(Option Addr×Nat×Nat)):ltOf (fun x y:cY×(Option Addr×Nat×Nat)=>Lib.compareInt x.1.call y.1.call) x y=decide (x.1.call<y.1.call):=by
 unfold ltOf Lib.compareInt;by_cases h1:x.1.call<y.1.call
 .simp[h1]
 .by_cases h2:y.1.call<x.1.call<;>simp[h1,h2]
open Go.Shelf Go.Lib Go.Sort in
theorem YE:SWO (ltOf fun x y:cY×(Option Addr×Nat×Nat)=>Lib.compareInt x.1.call y.1.call) where
 irrefl x:=by rw[N3];simp
 trans x y z h1 h2:=by rw[N3]at*;simp at*;omega
 ntrans x y z h1 h2:=by rw[N3]at*;simp at*;omega
open Go.Shelf Go.Lib Go.Sort in
theorem LV(l:List cY)(hne:l≠[])(hl:l.length<=4194304){m:Mem}{id:Nat}(hb:cR m id=some (.row 2 (af (l.map cY.enc)))){K:CV->Mem->Prop}(h:∀l':List cY,l'.Perm l->l'.Pairwise (fun a b=>¬b.call<a.call)->K (.bG []) (a7 m id (.row 2 (af (l'.map cY.enc))))):ar Tryz.prog 20 [.rv (.one (.row id 2 0 none)),.rv (.one (.fn 21 []))] m K:=by
 refine⟨⟨Tryz.f20,Tryz.func20,rfl,by decide⟩,fun ρ w vs hM hvl hd=>?_⟩
 obtain⟨v0,h0,d0⟩:=hd 0 _ rfl;obtain⟨v1,h1,d1⟩:=hd 1 _ rfl;have hvs:vs=[v0,v1]:=by
  match vs,hvl with
  | [a,b],_=>simp at h0 h1;rw[h0,h1]
 rw[aT]at hb;obtain⟨hid,_,_,hlc,hcm,a,hv0,ha⟩:=(show br ρ w none (.row id 2 0 none) v0 from d0);obtain⟨_,hv1⟩:=(show br ρ w none (.fn 21 []) v1 from d1);obtain⟨hln,_,_,hsz,hcu⟩:=hM.bk id _ hb;have hlen:(ρ.aO (.ap id)).len=l.length:=by rw[<-hln];simp[af]
 have hpos:0<l.length:=ab8.2 hne;have hcap:0<(ρ.aO (.ap id)).cap:=om;obtain⟨cur,hcur,hcsz,hcells⟩:=hcu hcap;have ha:=ha hcap;have hel:∀i(hi:i<l.length),∃x:Option Addr×Nat×Nat,cur[(ρ.aO (.ap id)).au+i*2+0]? =some (.int .i64 l[i].call)/\cur[(ρ.aO (.ap id)).au+i*2+1]? =some (.slice x.1 x.2.1 x.2.2)/\
   cZ ρ.S w (.sl 2 (l[i].bm.map lV.enc)) (.slice x.1 x.2.1 x.2.2):=by
  intro i hi;have hri:(af (l.map cY.enc))[i]? =some (l[i].enc.map .aa):=by simp[af,hi]
  obtain⟨u,hu,hdu⟩:=hcells i _ 0 _ hri rfl;obtain⟨u1,hu1,hdu1⟩:=hcells i _ 1 _ hri rfl;have e0:u= .int .i64 l[i].call:=by
   have hdu:cZ ρ.S w (.val (.int .i64 l[i].call)) u:=hdu;cases hdu with
   |val _ _=>rfl
  have hdu1:cZ ρ.S w (.sl 2 (l[i].bm.map lV.enc)) u1:=hdu1;obtain⟨b,n,c,e1⟩:∃b n c,u1=Value.slice b n c:=by
   generalize l[i].bm.map lV.enc=E at hdu1;cases hdu1 with
   |nil _ b c _=>exact⟨_,_,_,rfl⟩
   |sl _ _ b off c u _ _ _ _ _ _=>exact⟨_,_,_,rfl⟩
  subst e0 e1;exact⟨(b,n,c),hu,hu1,hdu1⟩
 obtain⟨X,hX⟩:∃X:Nat->Option Addr×Nat×Nat,∀i(hi:i<l.length),cur[(ρ.aO (.ap id)).au+i*2+0]? =some (.int .i64 l[i].call)/\cur[(ρ.aO (.ap id)).au+i*2+1]? =some (.slice (X i).1 (X i).2.1 (X i).2.2)/\
   cZ ρ.S w (.sl 2 (l[i].bm.map lV.enc)) (.slice (X i).1 (X i).2.1 (X i).2.2):=
  ⟨fun i=>if hi:i<l.length then Classical.choose (hel i hi)else(none,0,0),fun i hi=>by have:=Classical.choose_spec (hel i hi);simp only[dif_pos hi];exact this⟩
 obtain⟨d,hdd⟩:∃d:Array (cY×(Option Addr×Nat×Nat)),d=(l.zipIdx.map fun p=>(p.1,X p.2)).toArray:=⟨_,rfl⟩
 have hds:d.size=l.length:=by simp[hdd]
 have hdg:∀i(hi:i<l.length),d[i]! =(l[i],X i):=by intro i hi;rw[getElem!_pos d i om];simp[hdd]
 have hdl:d.toList.map Prod.fst=l:=by rw[hdd,List.toList_toArray,aaN];exact List.zipIdx_map_fst 0 l
 have hH:HoldsK VV 2 w (ρ.aO (.ap id)).b (ρ.aO (.ap id)).au d:=by
  intro j hj;rw[size_flatK,hds]at hj;have hi:j/2<l.length:=om;obtain⟨g0,g1,_⟩:=hX (j/2) hi;have hc:l.length*2<=(ρ.aO (.ap id)).cap*2:=om;rw[hcur.cell,get_flatK _ _ _ _ (by rw[hds];exact hj),hdg _ hi]
  refine⟨?_,hcur.jD om⟩;rcases Nat.mod_two_eq_zero_or_one j with e|e
  .rw[e,show(ρ.aO (.ap id)).au+j=(ρ.aO (.ap id)).au+j/2*2+0 by omega,g0];rfl
  .rw[e,show(ρ.aO (.ap id)).au+j=(ρ.aO (.ap id)).au+j/2*2+1 by omega,g1];rfl
 have eg:∀args w,(callFunc 21 args).run Tryz.prog w= .ok (.enter 21 args) w:=enters_of Tryz.func21 (by kernel_rfl) rfl
 have hblk:(ρ.aO (.ap id)).b<w.heap.size:=hcur.lt;have hcon:=AnyQ.slices_SortFunc Tryz.N2 2 Tryz.isAgg58 Tryz.sizeOf58 VV (fun _=>rfl) (fun x v hv=>by simp[VV]at hv;rcases hv with rfl|rfl<;>rfl) (fun x y=>Lib.compareInt x.1.call y.1.call) YE 21 #[] (ρ.aO (.ap id)).b (ρ.aO (.ap id)).au (ρ.aO (.ap id)).cap d w eg
  (fun _ _ _ _ x y=>LU x.1.call y.1.call x.2.1 y.2.1 x.2.2.1 y.2.2.1 x.2.2.2 y.2.2.2 _) hH hblk om
 change Calls Tryz.prog 20 _ _ _ at hcon;have hargs:vs.toArray= #[.slice (some ⟨(ρ.aO (.ap id)).b,(ρ.aO (.ap id)).au,none⟩) d.size (ρ.aO (.ap id)).cap,.func (.func 21) #[] #[]]:=by rw[hvs,hv0,hv1,ha,hds,<-hlen];simp
 rw[hargs];refine hcon.mono ?_;rintro e w' ⟨rfl,d',n,os,hp,hs,rfl⟩;obtain⟨hp1,_,hp2⟩:=hp;have hp2:d'.toList.Perm d.toList:=by
  have e1:d'.extract 0 d.size=d':=by rw[<-hp1];simp
  have e2:d.extract 0 d.size=d:=aK;rw[e1,e2]at hp2;exact hp2
 have hperm:(d'.toList.map Prod.fst).Perm l:=by have:=hp2.map Prod.fst;rwa [hdl]at this
 have hll:(d'.toList.map Prod.fst).length=l.length:=hperm.length_eq;have hsort:(d'.toList.map Prod.fst).Pairwise (fun a b=>¬b.call<a.call):=by
  rw[aaY];intro i j hi hj hij;have hj2:j<d'.size:=by simpa using hj
  have:=hs i j (XL _) hij om;rw[N3,getElem!_pos d' i om,getElem!_pos d' j hj2]at this;simpa using this
 have hmem:∀i,i<d'.size->∃k,∃hk:k<l.length,d'[i]! =(l[k],X k):=by
  intro i hi;have:d'[i]! ∈d.toList:=by rw[<-hp2.mem_iff,getElem!_pos d' i hi];exact ab2.2 (Array.getElem_mem hi)
  obtain⟨k,hk⟩:=Xz this;obtain⟨hk1,hk2⟩:=Hy.1 hk;have hk1:k<d.size:=by simpa using hk1
  refine⟨k,om,?_⟩;rw[<-hdg k om,getElem!_pos d k hk1,<-hk2];simp
 have hb2:=hb;obtain⟨hM',hX'⟩:=Hb (kz:=af ((d'.toList.map Prod.fst).map cY.enc)) (F:=flatK VV 2 d') hM hb (by simpa[af]using hpos) (by simp[af];omega) (fun cs hcs=>by
   simp only[af,aae]at hcs;obtain⟨x,⟨p,_,rfl⟩,rfl⟩:=hcs;rfl) (by rw[size_flatK];simp[af];omega) (fun cs hcs c hc=>by
   simp only[af,aae]at hcs;obtain⟨x,_,rfl⟩:=hcs;obtain⟨d,_,rfl⟩:=aae.1 hc;exact⟨d,rfl⟩) (fun i cs j c hi hj=>by
   simp only[af,O6]at hi;cases ho:d'.toList[i]? with
   |none=>rw[ho]at hi;simp at hi
   |some y=>
    rw[ho]at hi;simp only[XS,XQ]at hi;subst hi;have hid':i<d'.size:=by have:=(Hy.1 ho).1;simpa using this
    have hy:d'[i]! =y:=by rw[getElem!_pos d' i hid'];have:=(Hy.1 ho).2;simpa using this
    obtain⟨k,hk,hyk⟩:=hmem i hid';rw[hy]at hyk;subst hyk;have hj2:j<2:=by have:=(Hy.1 hj).1;simpa[cY.enc]using this
    rw[get_flatK _ _ _ _ om,show(i*2+j)/2=i by omega,show(i*2+j)%2=j by omega,hy]
    match j,hj2,hj with
    |0,_,hj=>cases hj;exact cZ.val _ rfl
    |1,_,hj=>cases hj;exact(hX k hk).2.2) n os
 rw[<-bg]at hM' hX';exact⟨_,.bG [],_,ρ,rfl,h _ hperm hsort,hM',⟨[],rfl,rfl,aK⟩,hX'⟩
def c14:LF:= ⟨22,[.tmp 2,.cell true 2 3],(.seq (.ai [qu 2 (.aD qe),qu 3 (.alloc [(qd 0),(qd 0)])]) (.seq (.seq (.ai [qm 6 0,qu 7 (qc 18 [6]),qu 4 (.alloc [(qd 0),(qd 0)]),qw (.store 2 4 7)]) (.seq (.ai [qf 8 0 4,ql 9 8,qu 10 (.aE .neq 9 (qi 0))]) (.cond 10 (.seq (.bT [qL 11 2 4,qu 2 (.aD qe),qw (.store 2 3 11)] [(.cons 0 none (.cons 1 none (.cons 2 (some []) .nil)))]) .ret) .skip))) (.seq (.ai [qm 12 0,qu 13 (qc 19 [12]),qm 5 13]) (.seq (.ai [qm 14 5,qu 15 (qc 20 [14,(.c (.rv (.one (.fn 21 []))))])]) (.seq (.ai [qu 16 (.build [(qd 0),(qd 0),(qd 0),(qd 0)] [(0,1,(qi 1))]),qu 17 (.lu 4 [(qd 0),(qd 0),(qd 0),(qd 0)] 1 [(0,16)]),qm 18 5,qu 19 (qc 23 [18]),qu 20 (.mY 4 32 17 19),qu 21 (.build [(qd 0),(qd 0)] []),qm 2 20,qw (.store 2 3 21)]) .ret)))))⟩
def c19:LF:= ⟨8,[.tmp 2],(.seq (.ai [qu 2 (.aD qe)]) (.seq (.seq (.ai [qm 3 0,qu 4 (.v6 false 3)]) (.cond 4 (.seq (.ai [qu 2 (.aD qe)]) .ret) .skip)) (.seq (.ai [qu 5 (.lu 2 [(qd 0),.aB] 0 []),qm 6 0,qu 7 (.mY 2 32 5 6),qm 2 7]) .ret)))⟩
def c20:LF:= ⟨14,[],(.seq (.ai [qm 5 0,qu 6 (.len 1 5),qm 4 6]) (.ai [qm 7 0,qm 8 4,qm 9 4,qu 10 (.conv .u64 9),qu 11 (qc 43 [10]),qm 12 1,qu 13 (qc 42 [7,(qi 0),8,11,12])]))⟩
def c42:LF:= ⟨148,[],(.seq (.ai [qu 10 (.aD (qb true))]) (.seq (.ai [qu 11 (.aD (qb true))]) (.block 0 (.loop (.block 1 (.seq (.ai [qm 21 2,qm 22 1,qu 23 (.aE .sub 21 22),qm 12 23]) (.seq (.seq (.ai [qm 24 12,qu 25 (.aE .leq 24 (qi 12))]) (.cond 25 (.seq (.ai [qm 26 0,qm 27 1,qm 28 2,qm 29 4,qu 30 (qc 78 [26,27,28,29])]) .ret) .skip)) (.seq (.seq (.ai [qm 31 3,qu 32 (.aE .eql 31 (qi 0))]) (.cond 32 (.seq (.ai [qm 33 0,qm 34 1,qm 35 2,qm 36 4,qu 37 (qc 79 [33,34,35,36])]) .ret) .skip)) (.seq (.seq (.ai [qm 38 10,qu 39 (.un .not 38)]) (.cond 39 (.seq (.ai [qm 40 0,qm 41 1,qm 42 2,qm 43 4,qu 44 (qc 80 [40,41,42,43])]) (.ai [qm 45 3,qu 46 (.aE .sub 45 (qi 1)),qm 3 46])) .skip)) (.seq (.ai [qm 48 0,qm 49 1,qm 50 2,qm 51 4,qu 52 (qc 81 [48,49,50,51]),qm 47 52,qu 53 (.ext 47 0),qu 54 (.ext 47 1),qm 13 53,qm 14 54]) (.seq (.seq (.ai [qm 55 14,qu 56 (.aE .eql 55 (qi 2))]) (.cond 56 (.seq (.ai [qm 57 0,qm 58 1,qm 59 2,qm 60 4,qu 61 (qc 82 [57,58,59,60])]) (.seq (.ai [qm 62 2,qu 63 (.aE .sub 62 (qi 1)),qm 64 13,qm 65 1,qu 66 (.aE .sub 64 65),qu 67 (.aE .sub 63 66),qm 13 67]) (.ai [qu 14 (.aD (qi 1))]))) .skip)) (.seq (.seq (.ai [qm 68 10,qm 69 68,qg 70 (.aD 11) 69 true,qu 71 (.pick 69 70 (qb false)),qm 72 71,qg 73 (.aD 14) 72 true,qg 74 (.aE .eql 73 (qi 1)) 72 true,qu 75 (.pick 72 74 (qb false))]) (.cond 75 (.seq (.ai [qm 76 0,qm 77 1,qm 78 2,qm 79 4,qu 80 (qc 83 [76,77,78,79])]) (.cond 80 .ret .skip)) .skip)) (.seq (.seq (.bT [qm 81 1,qu 82 (.aE .gtr 81 (qi 0)),qm 83 82,qg 84 (.aD 4) 83 true,qg 85 (.aD 0) 83 true,qg 86 (.aD 1) 83 true,qg 87 (.aE .sub 86 (qi 1)) 83 true,qg 88 (.b7 2 85 87) 83 true,qg 89 (.load true 2 88) 83 true,qg 90 (.aD 0) 83 true,qg 91 (.aD 13) 83 true,qg 92 (.b7 2 90 91) 83 true,qg 93 (.load true 2 92) 83 true,qg 94 (.call 84 [89,93]) 83 true,qg 95 (.aE .lss 94 (qi 0)) 83 true,qg 96 (.un .not 95) 83 true,qu 97 (.pick 83 96 (qb false))] [(.cons 0 none (.cons 1 none (.cons 2 none (.cons 3 none (.cons 4 none (.cons 5 none (.cons 6 none (.cons 7 none (.cons 8 none (.cons 9 none (.cons 10 none (.cons 11 none (.cons 12 none (.cons 13 (some []) (.cons 14 none (.cons 15 none (.cons 16 none .nil)))))))))))))))))]) (.cond 97 (.seq (.ai [qm 98 0,qm 99 1,qm 100 2,qm 101 13,qm 102 4,qu 103 (qc 84 [98,99,100,101,102]),qm 15 103]) (.seq (.ai [qm 104 15,qm 1 104]) (.exit 1))) .skip)) (.seq (.ai [qm 106 0,qm 107 1,qm 108 2,qm 109 13,qm 110 4,qu 111 (qc 85 [106,107,108,109,110]),qm 105 111,qu 112 (.ext 105 0),qu 113 (.ext 105 1),qm 16 112,qm 17 113]) (.seq (.ai [qm 114 17,qm 11 114]) (.seq (.ai [qm 115 16,qm 116 1,qu 117 (.aE .sub 115 116),qm 118 2,qm 119 16,qu 120 (.aE .sub 118 119),qm 18 117,qm 19 120]) (.seq (.ai [qm 121 12,qu 122 (.aE .quo 121 (qi 8)),qm 20 122]) (.seq (.ai [qm 123 18,qm 124 19,qu 125 (.aE .lss 123 124)]) (.cond 125 (.seq (.ai [qm 126 18,qm 127 20,qu 128 (.aE .geq 126 127),qm 10 128]) (.seq (.ai [qm 129 0,qm 130 1,qm 131 16,qm 132 3,qm 133 4,qu 134 (qc 42 [129,130,131,132,133])]) (.ai [qm 135 16,qu 136 (.aE .add 135 (qi 1)),qm 1 136]))) (.seq (.ai [qm 137 19,qm 138 20,qu 139 (.aE .geq 137 138),qm 10 139]) (.seq (.ai [qm 140 0,qm 141 16,qu 142 (.aE .add 141 (qi 1)),qm 143 2,qm 144 3,qm 145 4,qu 146 (qc 42 [140,142,143,144,145])]) (.ai [qm 147 16,qm 2 147]))))))))))))))))))))))⟩
def c43:LF:= ⟨8,[.tmp 2],(.seq (.ai [qu 2 (.aD (qi 0))]) (.seq (.cond (qb false) (.seq (.ai [qm 3 0,qu 4 (.conv .u32 3),qu 5 (qc 86 [4]),qm 2 5]) .ret) .skip) (.seq (.ai [qm 6 0,qu 7 (qc 87 [6]),qm 2 7]) .ret)))⟩
def c78:LF:= ⟨53,[],(.seq (.ai [qm 10 1,qu 11 (.aE .add 10 (qi 1)),qm 8 11]) (.block 0 (.loop (.seq (.seq (.ai [qm 12 8,qm 13 2,qu 14 (.aE .lss 12 13)]) (.cond 14 .skip (.exit 0))) (.seq (.block 1 (.seq (.ai [qm 17 8,qm 9 17]) (.block 2 (.loop (.seq (.seq (.bT [qm 18 9,qm 19 1,qu 20 (.aE .gtr 18 19),qm 21 20,qg 22 (.aD 3) 21 true,qg 23 (.aD 0) 21 true,qg 24 (.aD 9) 21 true,qg 25 (.b7 2 23 24) 21 true,qg 26 (.load true 2 25) 21 true,qg 27 (.aD 0) 21 true,qg 28 (.aD 9) 21 true,qg 29 (.aE .sub 28 (qi 1)) 21 true,qg 30 (.b7 2 27 29) 21 true,qg 31 (.load true 2 30) 21 true,qg 32 (.call 22 [26,31]) 21 true,qg 33 (.aE .lss 32 (qi 0)) 21 true,qu 34 (.pick 21 33 (qb false))] [(.cons 0 none (.cons 1 none (.cons 2 none (.cons 3 none (.cons 4 none (.cons 5 none (.cons 6 none (.cons 7 none (.cons 8 none (.cons 9 none (.cons 10 none (.cons 11 none (.cons 12 none (.cons 13 none (.cons 14 (some []) (.cons 15 none (.cons 16 none .nil)))))))))))))))))]) (.cond 34 .skip (.exit 2))) (.seq (.block 3 (.bT [qm 37 0,qm 38 9,qm 39 0,qm 40 9,qu 41 (.aE .sub 40 (qi 1)),qm 42 0,qm 43 9,qu 44 (.aE .sub 43 (qi 1)),qu 45 (.b7 2 42 44),qL 46 2 45,qm 47 0,qm 48 9,qu 49 (.b7 2 47 48),qL 50 2 49,qu 51 (.b7 2 37 38),qw (.store 2 51 46),qu 52 (.b7 2 39 41),qw (.store 2 52 50)] [(.cons 0 none (.cons 1 none (.cons 2 none (.cons 3 none (.cons 4 none (.cons 5 none (.cons 6 none (.cons 7 none (.cons 8 none (.cons 9 none (.cons 10 none (.cons 11 none (.cons 12 none (.cons 13 none (.cons 14 none (.cons 15 (some []) (.cons 16 none (.cons 17 (some []) .nil))))))))))))))))))])) (.ai [qm 35 9,qu 36 (.aE .sub 35 (qi 1)),qm 9 36]))))))) (.ai [qm 15 8,qu 16 (.aE .add 15 (qi 1)),qm 8 16]))))))⟩
def c87:LF:= ⟨25,[.tmp 2],(.seq (.ai [qu 2 (.aD (qi 0))]) (.seq (.seq (.ai [qm 3 0,qu 4 (.aE .geq 3 (.c (.rv (.one (.aa (.val (.int .u64 (4294967296))))))))]) (.cond 4 (.seq (.ai [qm 5 0,qu 6 (.aE .shr 5 (.c (.rv (.one (.aa (.val (.int .u64 (32)))))))),qm 0 6]) (.ai [qu 2 (.aD (qi 32))])) .skip)) (.seq (.seq (.ai [qm 7 0,qu 8 (.aE .geq 7 (.c (.rv (.one (.aa (.val (.int .u64 (65536))))))))]) (.cond 8 (.seq (.ai [qm 9 0,qu 10 (.aE .shr 9 (.c (.rv (.one (.aa (.val (.int .u64 (16)))))))),qm 0 10]) (.ai [qm 11 2,qu 12 (.aE .add 11 (qi 16)),qm 2 12])) .skip)) (.seq (.seq (.ai [qm 13 0,qu 14 (.aE .geq 13 (.c (.rv (.one (.aa (.val (.int .u64 (256))))))))]) (.cond 14 (.seq (.ai [qm 15 0,qu 16 (.aE .shr 15 (.c (.rv (.one (.aa (.val (.int .u64 (8)))))))),qm 0 16]) (.ai [qm 17 2,qu 18 (.aE .add 17 (qi 8)),qm 2 18])) .skip)) (.seq (.ai [qm 19 2,qm 20 0,qu 21 (.conv .u8 20),qu 22 (.zR (.c (.rv (.one (.aa (.val (.string ⟨#[0,1,2,2,3,3,3,3,4,4,4,4,4,4,4,4,5,5,5,5,5,5,5,5,5,5,5,5,5,5,5,5,6,6,6,6,6,6,6,6,6,6,6,6,6,6,6,6,6,6,6,6,6,6,6,6,6,6,6,6,6,6,6,6,7,7,7,7,7,7,7,7,7,7,7,7,7,7,7,7,7,7,7,7,7,7,7,7,7,7,7,7,7,7,7,7,7,7,7,7,7,7,7,7,7,7,7,7,7,7,7,7,7,7,7,7,7,7,7,7,7,7,7,7,7,7,7,7,8,8,8,8,8,8,8,8,8,8,8,8,8,8,8,8,8,8,8,8,8,8,8,8,8,8,8,8,8,8,8,8,8,8,8,8,8,8,8,8,8,8,8,8,8,8,8,8,8,8,8,8,8,8,8,8,8,8,8,8,8,8,8,8,8,8,8,8,8,8,8,8,8,8,8,8,8,8,8,8,8,8,8,8,8,8,8,8,8,8,8,8,8,8,8,8,8,8,8,8,8,8,8,8,8,8,8,8,8,8,8,8,8,8,8,8,8,8,8,8,8,8,8,8,8,8,8,8]⟩)))))) 21),qu 23 (.conv .i64 22),qu 24 (.aE .add 19 23),qm 2 24]) .ret)))))⟩
theorem l19:bq Tryz.prog Tryz.f19=some c19:=by kernel_rfl
theorem l20:bq Tryz.prog Tryz.f20=some c20:=by kernel_rfl
theorem l42:bq Tryz.prog Tryz.f42=some c42:=by kernel_rfl
theorem l43:bq Tryz.prog Tryz.f43=some c43:=by kernel_rfl
theorem l78:bq Tryz.prog Tryz.f78=some c78:=by kernel_rfl
theorem l87:bq Tryz.prog Tryz.f87=some c87:=by kernel_rfl
theorem l14:bq Tryz.prog Tryz.f14=some c14:=by kernel_rfl
theorem N4{m:Mem}{K:CV->Mem->Prop}(h:K (an .i64 0) m):ar Tryz.prog 87 [an .u64 0] m K:=
 bo (r0:=an .i64 0) Tryz.func87 l87 rfl (T3 rfl) (show body Tryz.prog c87 [an .u64 0] [] (fun r m=>r=an .i64 0)from rfl) rfl rfl h
theorem Rl{m:Mem}{K:CV->Mem->Prop}(h:K (an .i64 0) m):ar Tryz.prog 43 [an .u64 0] m K:=
 bo (r0:=an .i64 0) Tryz.func43 l43 rfl (T3 rfl) (show body Tryz.prog c43 [an .u64 0] [] (fun r m=>r=an .i64 0)from N4 rfl) rfl rfl h
theorem UY{m:Mem}{K:CV->Mem->Prop}(h:K (.bG []) m):ar Tryz.prog 78 [dM [],an .i64 0,an .i64 0,.rv (.one (.fn 21 []))] m K:=by
 refine bo (r0:= .bG []) Tryz.func78 l78 rfl (T3 rfl) ?_ rfl rfl h;refine aX (fun _:Nat=>True) [0,1,2,3,8] (fun _=>[]) (fun _=>[]) (fun _=>0) 0 trivial ?_ (fun _ _=>?_)
 .refine View.o 0 [] [] ?_ (.nil _);repeat(first|exact .nil|refine .aq ?_|refine .eq rfl ?_)
 .rfl
theorem UZ{m:Mem}{K:CV->Mem->Prop}(h:K (.bG []) m):ar Tryz.prog 42 [dM [],an .i64 0,an .i64 0,an .i64 0,.rv (.one (.fn 21 []))] m K:=by
 refine bo (r0:= .bG []) Tryz.func42 l42 rfl (T3 rfl) ?_ rfl rfl h;refine aX (fun _:Nat=>True) [0,1,2,3,4,10,11] (fun _=>[]) (fun _=>[]) (fun _=>0) 0 trivial ?_ (fun _ _=>?_)
 .refine View.o 0 [] [] ?_ (.nil _);repeat(first|exact .nil|refine .aq ?_|refine .eq rfl ?_)
 .refine UY ?_;rfl
theorem N5{m:Mem}{K:CV->Mem->Prop}(h:K (.bG []) m):ar Tryz.prog 20 [dM [],.rv (.one (.fn 21 []))] m K:=by refine bo (r0:= .bG []) Tryz.func20 l20 rfl (T3 rfl) ?_ rfl rfl h;refine Rl ?_;refine UZ ?_;rfl
theorem BQ(l:List cY)(hl:l.length<=4194304):body Tryz.prog c19 [dM l] [] (fun r m=>cw m r (dM l)):=by
 have qK:((([]:List (List CC)).length+((l.map cY.enc).map fun ds=>ds.map CC.aa).length)*32)<=140737488355328:=by simp;omega
 refine ay (fun h=>?_) (fun h=>?_)
 .have hd:l=[]:=XJ (by simpa using XM h)
  subst hd;exact⟨.rv (.one (.aB 2)),qK,.rv (.one (dY.d6 rfl 0 none))⟩
 .exact⟨qK,.rv (.one (dY.d6 rfl 0 none))⟩
theorem Iu(l:List cY)(hl:l.length<=4194304){m:Mem}{K:CV->Mem->Prop}(h:K (dM l) m):ar Tryz.prog 19 [dM l] m K:=
 aY (aW Tryz.func19 l19 (BQ l hl)) (by simp[dM,CV.c7,CC.c7]) fun r m1 hf=>⟨_,hf,h⟩
theorem zl(l:List cY)(eL:l≠[])(hl:l.length<=4194304):body Tryz.prog c19 [dM l] [] (fun r m=>∃r' m',View 0 ⟨[r],m⟩ ⟨[r'],m'⟩/\r'= .rv (.one (.row 0 2 0 none))/\m'=[.row 2 (af (l.map cY.enc))]):=by
 have qK:((([]:List (List CC)).length+((l.map cY.enc).map fun ds=>ds.map CC.aa).length)*32)<=140737488355328:=by simp;omega
 refine sM ?_ ?_
 .have:(l.map cY.enc).length≠0:=by simp[eL]
  cases h:Nat.beq (l.map cY.enc).length 0 with
  |false=>rfl
  |true=>exact absurd (XM h) this
 .refine⟨qK,_,_,View.o 2 [1] [] (.eq rfl .nil) (.pt rfl rfl (.bR (by simp[af,ct])) (.nil _)),rfl,rfl⟩
theorem EL(l:List cY)(eL:l≠[])(hl:l.length<=4194304){m:Mem}{K:CV->Mem->Prop}(h:K (.rv (.one (.row m.length 2 0 none))) (m++ [.row 2 (af (l.map cY.enc))])):ar Tryz.prog 19 [dM l] m K:=by
 refine bv [] m.length rfl rfl rfl rfl (args0:=[dM l]) rfl (fun i b' hi=>by simp at hi) (K0:=fun r m=>r= .rv (.one (.row 0 2 0 none))/\m=[.row 2 (af (l.map cY.enc))])
  (bK (aW Tryz.func19 l19 (zl l eL hl)) fun r m1 h=>h) (fun r m1 hr=>?_)
 obtain⟨rfl,rfl⟩:=hr;refine⟨XL _,?_⟩;show K (.rv (.one (.row (m.length+(0-0)) 2 0 none))) (gX m [Bk.aP _ _]);rw[cg,Bk.jz];exact h
theorem LX{m:Mem}{a b:RV}{f:Int×Int}(h:eh m a b):cw m (.bG [a,.agg [.aa (.val (.int .i64 f.1)),.aa (.val (.int .i64 f.2))]]) (.bG [b,.agg [.aa (.val (.int .i64 f.1)),.aa (.val (.int .i64 f.2))]]):=by
 refine .bG rfl fun i r r' h1 h2=>?_
 match i,h1,h2 with
 |0,h1,h2=>cases h1;cases h2;exact h
 |1,h1,h2=>cases h1;cases h2;exact eh.self rfl
def N6(l:List dS)(f:Int×Int):CV:= .bG [.one (.aa (Uw l)),.agg [.aa (.val (.int .i64 f.1)),.aa (.val (.int .i64 f.2))]]
theorem Iv(l:List cY):body Tryz.prog c14 [dM l] [] (fun r m=>((cT l).1≠0->cw m r (N6 [] (cT l)))/\((cT l).1=0->∃l',l'.Perm l/\nN l'/\cw m r (N6 (ja l') (0,0)))):=by
 refine LQ l ?_;refine bu (fun h=>?_) (fun h=>?_)
 .refine⟨trivial,?_⟩;have h:(cT l).1≠0:=h;exact⟨fun _=>LX (.one (.aB 4)),fun h0=>absurd h0 h⟩
 have h:(cT l).1=0:=h;obtain⟨Z4,hg,hd⟩:=BN h;have mY:∀l':List cY,l'.Perm l->(1+(((gj l'.length l').map dS.enc).map fun ds=>ds.map CC.aa).length)*32<=140737488355328:=by
  intro l' hp;have:=pd (n:=l'.length) (l:=l') (fun p PS=>(hg p (hp.mem_iff.1 PS)).2.2.1) (by rw[hp.length_eq];exact Z4) (QN _)
  simp;omega
 by_cases eL:l=[]
 .subst eL;refine Iu [] (by decide) ?_
  refine N5 ?_;refine Gl 0 [] (by decide) (by decide) aK ?_
  refine⟨by decide,fun h0=>absurd h h0,fun _=>⟨[],.refl _,.nil,LX (f:=(0,0)) (.one (dY.d6 (ds:=(ja []).map dS.enc) rfl 0 none))⟩⟩
 .refine EL l eL om ?_;refine LV l eL om rfl fun l' hp hs=>?_
  have hr:=Is hs (wA hp hd);have GM:l'.length<=30:=by rw[hp.length_eq];exact Z4
  refine ir (lJ:=[dM l']) (m':=[.var [.aa (.val (.int .i64 0)),.aa (.val (.int .i64 0))],.var [.aa (.val (.int .i64 (cT l).1)),.aa (.val (.int .i64 (cT l).2))],.aZ,.row 4 [[.aa (.val (.int .i64 1)),.aa (.val (.int .i64 0)),.aa (.val (.int .i64 0)),.aa (.val (.int .i64 0))]]])
   (View.o 4 [0,1,2,3] [2] (.put (pS.eu 2 (l'.map cY.enc) rfl rfl) .nil) (.pe rfl rfl rfl (.pe rfl rfl rfl (.aZ (.pm rfl rfl rfl))))) ?_
  refine Gl l'.length l' (QN _) GM (fun p PS=>(hg p (hp.mem_iff.1 PS)).2.2.1) ?_
  refine⟨mY l' hp,fun h0=>absurd h h0,fun _=>⟨l',hp,hr,LX (f:=(0,0)) (.one (dY.d6 (ds:=(ja l').map dS.enc) ?_ 0 none))⟩⟩
  rfl
theorem N7(l:List cY){m:Mem}{K:CV->Mem->Prop}(h1:(cT l).1≠0->K (N6 [] (cT l)) m)(h2:(cT l).1=0->∀l':List cY,l'.Perm l->nN l'->K (N6 (ja l') (0,0)) m):ar Tryz.prog 14 [dM l] m K:=by
 refine aY (aW Tryz.func14 l14 (Iv l)) (by simp[dM,CV.c7,CC.c7]) fun r m1 hf=>?_
 by_cases h:(cT l).1=0
 .obtain⟨l',hp,hr,hz⟩:=hf.2 h;exact⟨_,hz,h2 h l' hp hr⟩
 .exact⟨_,hf.1 h,h1 h⟩
end Go.Proofs.YthagjdhjmamakaaGreatDoor
