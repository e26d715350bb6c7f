/- Part 13 of 18. -/
import Derived.Test.YtojhmadmlnfpcaaGreatDoorS10
import Derived.Test.YtojhmadmlnfpcaaGreatDoorS11
import Derived.Test.YtojhmadmlnfpcaaGreatDoorS12
import Derived.Test.YtojhmadmlnfpcaaGreatDoorRows
import Derived.Shelf.Strings.Search3
import Derived.Shelf.Strings.OnBuilder
import Derived.RangeFuncNested
import Derived.RangeFuncCalls
import Derived.Shelf.Abstract
import Derived.WalkKit
import Derived.OwnWalkIn
import Derived.TacticsInMore
import Derived.LoopNIn
import Derived.LoopIn
set_option linter.unusedVariables false
set_option linter.unusedSimpArgs false
set_option linter.unnecessarySimpa false
set_option maxRecDepth 100000
set_option maxHeartbeats 0
namespace Go.Proofs.YtojhmadmlnfpcaaGreatDoor
open Go.AM Go.ChangeShapes Go.WideShapes Go.ChangeAt Go.RowKit
def c84:LF:= ⟨84,[.cell true 3 4,.tmp 5,.tmp 6,.tmp 7],(.seq (.ai [qu 2 (.box 0),qu 4 (.alloc [.aI,.aI,.aI]),qu 5 (.aH (qi 0)),qu 6 (.aH (qi 0)),qu 7 (.aH (qi 0))]) (.seq (.seq (.ai [qL 14 3 2,qm 15 1,qu 16 (qc 35 [14,15]),qu 17 (.un .not 16)]) (.cond 17 (.seq (.ai [qu 18 (.build [.aI,.aI,.aI] []),qw (.store 3 4 18),qu 5 (.aH (qi 0)),qu 6 (.aH (qi 0)),qu 7 (.aH (qi 6))]) .ret) .skip)) (.seq (.ai [qu 19 (qc 125 [2]),qm 8 19]) (.seq (.seq (.ai [qm 20 8,qu 21 (.aF .lss 20 (qi 0))]) (.cond 21 (.seq (.ai [qu 22 (.build [.aI,.aI,.aI] []),qw (.store 3 4 22),qu 5 (.aH (qi 0)),qu 6 (.aH (qi 0)),qu 7 (.aH (qi 15))]) .ret) .skip)) (.seq (.ai [qL 23 3 2,qu 24 (qc 66 [23]),qu 9 (.alloc [.aI,.aI,.aI]),qw (.store 3 9 24)]) (.seq (.seq (.ai [qm 25 8,qf 26 2 9,ql 27 26,qu 28 (.len 1 27),qu 29 (.aF .eql 25 28)]) (.cond 29 (.ai [qf 30 2 9,ql 31 30,qu 32 (.build [(.aa (.val (.bool false))),(.aa (.val (.bool false))),qd 0,.aI] []),qu 33 (.ln 4 [(.aa (.val (.bool false))),(.aa (.val (.bool false))),qd 0,.aI] 1 [(0,32)]),qu 34 (.ni 4 40 31 33),qf 35 2 9,qw (.store 1 35 34)]) .skip)) (.cu (.seq (.bX [qf 36 2 9,ql 37 36,qm 38 8,qf 39 2 2,ql 40 39,qm 41 1,qu 42 (.bW 4 40 41),qf 43 1 42,ql 44 43,qf 45 2 2,ql 46 45,qm 47 1,qu 48 (.bW 4 46 47),qf 49 3 48,ql 50 49,qu 51 (qc 107 [50]),qu 52 (.build [(.aa (.val (.bool false))),(.aa (.val (.bool false))),qd 0,.aI] [(0,1,qb true),(1,1,44),(3,1,51)]),qu 53 (.bW 4 37 38),qw (.store 4 53 52)] [(.cons 0 none (.cons 1 none (.cons 2 none (.cons 3 none (.cons 4 none (.cons 5 none (.cons 6 none (.cons 7 none (.cons 8 none (.cons 9 none (.cons 10 none (.cons 11 none (.cons 12 none (.cons 13 none (.cons 14 none (.cons 15 (some [8,6,4,1]) (.cons 16 none (.cons 17 none (.cons 18 (some []) .nil)))))))))))))))))))]) (.cu (.seq (.ai [qf 55 0 9,ql 56 55,qm 57 8,qu 58 (.build [qd 0,.aI,.aI,(.aa (.val (.string ⟨#[]⟩))),qd 0,.aI,qd 0,qd 0,qd 0] [(0,1,qi 5),(4,1,(qi (-1))),(6,1,57)]),qu 59 (qc 118 [56,58]),qm 54 59,qu 60 (.ext 54 0),qu 61 (.ext 54 1),qu 62 (.ext 54 2),qm 10 60,qm 11 61,qm 12 62]) (.seq (.seq (.ai [qm 63 12,qu 64 (.aF .neq 63 (qi 0))]) (.cond 64 (.seq (.ai [qu 65 (.build [.aI,.aI,.aI] []),qm 66 12,qw (.store 3 4 65),qu 5 (.aH (qi 0)),qu 6 (.aH (qi 0)),qm 7 66]) .ret) .skip)) (.seq (.ai [qm 67 10,qf 68 0 9,qw (.store 1 68 67)]) (.seq (.ai [qL 70 3 9,qm 71 1,qm 72 11,qu 73 (qc 79 [70,71,72,qi 3200]),qm 69 73,qu 74 (.ext 69 0),qu 75 (.ext 69 1),qu 76 (.ext 69 2),qw (.store 3 9 74),qm 13 75,qm 12 76]) (.seq (.seq (.ai [qm 77 12,qu 78 (.aF .neq 77 (qi 0))]) (.cond 78 (.seq (.ai [qu 79 (.build [.aI,.aI,.aI] []),qm 80 12,qw (.store 3 4 79),qu 5 (.aH (qi 0)),qu 6 (.aH (qi 0)),qm 7 80]) .ret) .skip)) (.seq (.ai [qL 81 3 9,qm 82 8,qm 83 13,qw (.store 3 4 81),qm 5 82,qm 6 83,qu 7 (.aH (qi 0))]) .ret)))))))))))))))⟩
theorem l84:bx Tryz.prog Tryz.f84=some c84.er:=by kernel_rfl
def ef(c:Int):Obj:=⟨5,[],[],⟨#[]⟩,-1,[],c,0,0⟩
theorem Ca(c:Int):(ef c).sm:=⟨⟨⟨[],rfl⟩,⟨[],rfl⟩,fun q hq=>by simp[ef]at hq⟩,by simp[ef],by simp[ef],by simp[ef],fun q hq=>by simp[ef]at hq⟩
theorem L9(a:CV)(c:Int):kN [a,.rv (.agg [.aa (.val (.int .i64 5)),.aI,.aI,.aa (.val (.string ⟨#[]⟩)),.aa (.val (.int .i64 (-1))),.aI,.aa (.val (.int .i64 c)),.aa (.val (.int .i64 0)),.aa (.val (.int .i64 0))])] [a,(ef c).cv]:=
 .dn _ (.agg (.cons (.dn _) (.cons (.aI 1) (.cons (.aI 2) (.cons (.dn _) (.cons (.dn _) (.cons (.aI 4) (.cons (.dn _) (.cons (.dn _) (.cons (.dn _) .nil))))))))) .nil)
theorem yA{l:List Obj}{o x:Obj}(h:x∈(aN l o).1):x∈l\/x=o:=by
 unfold aN at h;split at h
 .exact aaX h
 .split at h
  .simp at h
  .simpa using h
theorem Iz(l:List Obj)(o:Obj):(aN l o).1.length<=l.length+1:=by
 unfold aN;split
 .simp
 .split<;>simp
theorem Ma{m:Mem}{a b:RV}{x y z:Int}(h:eT m a b):cJ m (.bK [a,cS x,cS y,cS z]) (.bK [b,cS x,cS y,cS z]):=by
 refine .bK rfl fun i r r' h1 h2=>?_
 match i,h1,h2 with
 |0,h1,h2=>cases h1;cases h2;exact h
 |1,h1,h2=>cases h1;cases h2;exact eT.self rfl
 |2,h1,h2=>cases h1;cases h2;exact eT.self rfl
 |3,h1,h2=>cases h1;cases h2;exact eT.self rfl
 |n+4,h1,h2=>simp at h1
def vX(l:List Obj)(ops:List bi)(P:List aT)(n:Nat)(c:Int):Kr×Int×Int×Int:=
 if(aN l (ef c)).2.2≠0 then(m5,0,0,(aN l (ef c)).2.2)
 else if(aP ⟨(aN l (ef c)).1,ops,P⟩ n (aN l (ef c)).2.1 3200).2.2≠0 then(m5,0,0,(aP ⟨(aN l (ef c)).1,ops,P⟩ n (aN l (ef c)).2.1 3200).2.2)
 else((aP ⟨(aN l (ef c)).1,ops,P⟩ n (aN l (ef c)).2.1 3200).1,c,(aP ⟨(aN l (ef c)).1,ops,P⟩ n (aN l (ef c)).2.1 3200).2.1,0)
def jr(ps:List aT)(n c:Nat):List aT:=match ps[n]? with
 |some x=>if c=ps.length then ps++ [⟨true,x.fenced,0,x.aJ⟩]else ps.set c ⟨true,x.fenced,0,x.aJ⟩
 |none=>ps
def jN(k:Kr)(p:Int):Kr×Int×Int×Int:=
 if fu k.ps p=false then(m5,0,0,6)else if gw k.l k.ps<0 then(m5,0,0,15)
 else vX k.l k.ops (jr k.ps p.toNat (gw k.l k.ps).toNat) p.toNat (gw k.l k.ps)
def GN(a:Kr×Int×Int×Int):CV:= .bK [iM a.1,cS a.2.1,cS a.2.2.1,cS a.2.2.2]
def C36:LC:=bv (bv (bv (bv (bv (bv c84.code)))))
def G36:LC:=lX C36
def C55:LC:=bv G36
def G55:LC:=lX C55
theorem V5(l:List Obj)(ops:List bi)(P:List aT)(hk:dF l ops P)(EB:l.length<=4194303)(n:Nat)(hn:n<P.length)(c:Int):
  aw Tryz.prog 0 G55 (mg Tryz.prog c84.kD (fun r m=>cJ m r (GN (vX l ops P n c))))
   ⟨iL 84 [(1,an .i64 (n:Nat)),(4,.rv (.one (.ptr 0 0))),(8,an .i64 c),(9,.rv (.one (.ptr 1 0)))],[.var [.aI,.aI,.aI],.var ((kC l ops P).map .aa)]⟩:=by
 have hA1:∀x,x∈(aN l (ef c)).1->x.sm:=fun x hx=>by
  rcases yA hx with hx|rfl
  .exact hk.sm x hx
  .exact Ca c
 have ZI:=Iz l (ef c);refine mw (L9 _ _) (zH l ⟨hk.ll,fun o ho=>(hk.sm o ho).mL⟩ (ef c) ?_)
 unfold vX;generalize aN l (ef c)=A at hA1 ZI;obtain⟨A1,k,e⟩:=A;refine bG (fun he=>?_) (fun he=>?_)
 .rw[if_pos he];exact Ma gG
 have he:e=0:=he;subst he;rw[if_neg aG];refine sK ⟨A1,ops,P⟩ ⟨hA1,by have ZI:A1.length<=l.length+1:=ZI;show A1.length<=4194304;omega,hk.lo,hk.lp,hk.sl,hk.ne⟩ n hn k 3200 ?_
 generalize aP ⟨A1,ops,P⟩ n k 3200=B;obtain⟨B1,fd,e2⟩:=B;refine bG (fun oT=>?_) (fun oT=>?_)
 .rw[if_pos oT];exact Ma gG
 have oT:e2=0:=oT;subst oT;rw[if_neg aG];exact Ma (eT.self (zT _))
theorem ot(l:List Obj)(ps:List aT):∀(n p c:Nat),oq l ps n p=(c:Nat)->p<=ps.length->c<=ps.length/\p<=c/\c<p+n/\(c<ps.length->tT l ps c=true)
 |0,p,c,h,_=>by have h:(-1:Int)=(c:Nat):=h;omega
 |n+1,p,c,h,hp=>by
  rw[oq]at h;by_cases h1:p=ps.length
  .rw[if_pos h1]at h;have:p=c:=om;subst this;exact⟨om,om,om,fun h2=>om⟩
  .rw[if_neg h1]at h;by_cases h2:tT l ps p=true
   .rw[if_pos h2]at h;have:p=c:=om;subst this;exact⟨om,om,om,fun _=>h2⟩
   .rw[if_neg h2]at h;obtain⟨a,b,c1,d⟩:=ot l ps n (p+1) c h om;exact⟨a,om,om,d⟩
theorem Q3(k:Kr)(hk:dF k.l k.ops k.ps)(EB:k.l.length<=4194303)(P:List aT)(hP:∀p,p∈P->p.aJ.length<=10)(VZ:P.length<=4194304)(n:Nat)(hn:n<k.ps.length)(hnP:n<P.length)(c:Nat)(hc:c<P.length):
  aw Tryz.prog 0 G36 (mg Tryz.prog c84.kD (fun r m=>cJ m r (GN (vX k.l k.ops (P.set c ⟨true,k.ps[n].fenced,0,k.ps[n].aJ⟩) n (c:Nat)))))
   ⟨iL 84 [(1,an .i64 (n:Nat)),(2,.rv (.one (.ptr 0 0))),(4,.rv (.one (.ptr 1 0))),(8,an .i64 (c:Nat)),(9,.rv (.one (.ptr 5 0)))],
    [.var ((kC k.l k.ops k.ps).map .aa),.var [.aI,.aI,.aI],.row 9 (af (k.l.map Obj.enc)),.row 2 (af (k.ops.map bi.enc)),.row 4 (af (P.map aT.enc)),.var [.row 2 9 0 none,.row 3 2 0 none,.row 4 4 0 none]]⟩:=by
 have hg:=dW hn;have uD:=hk.sl _ (Z0 hn);have hr:=bA aT.enc P hc;generalize k.ps[n]=z at hg uD;obtain⟨aQ,fenced,cd,aJ⟩:=z;have uD:aJ.length<=10:=uD;generalize P[c]=w at hr;obtain⟨wl,wf,wc,ws⟩:=w;refine ag hg ?_;refine ag hg ?_;refine iW aJ om ?_;refine⟨⟨rfl,ag hg rfl,rfl,rfl,trivial⟩,?_⟩;refine ag (lY hc) ?_;refine ag hr ?_;refine⟨trivial,?_⟩;have jT:∀x,x∈P.set c ⟨true,fenced,0,aJ⟩->x.aJ.length<=10:=fun x hx=>by
  rcases aaX hx with hx|rfl
  .exact hP x hx
  .exact uD
 have eA:=V5 k.l k.ops (P.set c ⟨true,fenced,0,aJ⟩) ⟨hk.sm,hk.ll,hk.lo,by rw[aaJ];exact VZ,jT,fun h=>by have:=congrArg List.length h;rw[aaJ,aby]at this;omega⟩ EB n (by rw[aaJ];exact hnP) (c:Nat)
 refine⟨_,View.o1 6 [1,5] [2,3,4] ?_,eA⟩
 .refine .pe rfl rfl rfl (.pt rfl rfl (eP.var (.cons (.e8 (dC.dJ (Z:=fun k=>bz [2,3,4] k=true) rfl rfl 0 none)) (.cons (.e8 (dC.dJ (Z:=fun k=>bz [2,3,4] k=true) rfl rfl 0 none)) (.cons (.e8 (L7 (Z:=fun k=>bz [2,3,4] k=true) (c:=(aT.enc ⟨true,fenced,0,aJ⟩).map .aa) ?_ rfl rfl)) .nil)))) (.nil _))
  exact .cons (.aa _) (.cons (.aa _) (.cons (.aa _) (.cons (.aa _) .nil)))
theorem IA(k:Kr)(hk:dF k.l k.ops k.ps)(EB:k.l.length<=4194303)(p:Int):body Tryz.prog c84 [cP k.l k.ops k.ps,an .i64 p] [] (fun r m=>cJ m r (GN (jN k p))):=by
 refine ol k.l k.ops k.ps p ?_;have h2:=hk.lp;refine aC (fun h1=>?_) (fun h1=>?_)
 .have h1:fu k.ps p=false:=by simpa using h1
  rw[jN,if_pos h1];exact Ma gG
 have h1:fu k.ps p=true:=by simpa using h1
 obtain⟨n,rfl,hn,cX⟩:=oo h1;rw[jN,if_neg (by rw[h1];simp)]
 refine fe (args0:=[.rv (.one (.ptr 0 0))]) (cs:=kC k.l k.ops k.ps) 0 rfl rfl (r0:=an .i64 (gw k.l k.ps)) rfl (fun K hK=>zS k.l hk.ll k.ops k.ps K hK) ?_
 refine ay (fun h3=>?_) (fun h3=>?_)
 .rw[if_pos h3];exact Ma gG
 rw[if_neg h3];obtain⟨c,hc⟩:∃c:Nat,gw k.l k.ps=(c:Int):=⟨(gw k.l k.ps).toNat,om⟩;obtain⟨eJ,_,hc8,_⟩:=ot k.l k.ps 8 0 c hc (Wi _);rw[hc,show((n:Nat):Int).toNat=n from rfl,show((c:Nat):Int).toNat=c from rfl];refine iv k.l k.ops k.ps ⟨hk.ll,fun o ho=>(hk.sm o ho).mL⟩ hk.lo hk.lp hk.sl hk.ne ?_
 refine bI (fun gX=>?_) (fun gX=>?_)
 .have gX:c=k.ps.length:=by have gX:(c:Int)=((af (k.ps.map aT.enc)).length:Int):=gX;rw[aU,Nq]at gX;omega
  have ZJ:jr k.ps n c=(k.ps++ [eR]).set c ⟨true,k.ps[n].fenced,0,k.ps[n].aJ⟩:=by rw[jr,IE hn];simp only[];rw[if_pos gX,gX];simp
  rw[ZJ];refine⟨by simp only[cD,aU,Nq,aar,aby];omega,?_⟩
  have eA:=Q3 k hk EB (k.ps++ [eR]) (fun x hx=>by
   rcases abL.1 hx with hx|hx
   .exact hk.sl x hx
   .simp at hx;subst hx;simp[eR]) (by simp;omega) n hn (by simp;omega) c (by simp;omega)
  refine⟨_,View.o1 8 [0,1,2,3,7,5] [] ?_,eA⟩
  .exact .pt rfl rfl (.eq rfl (by simp[kC])) (.pe rfl rfl rfl (.pr rfl rfl rfl (.pr rfl rfl rfl (.pt rfl rfl (VO k.ps eR (.e8 (.aI 3)) (by simp[cD,af,CC.aO,eR])) (.pm rfl rfl rfl)))))
 .have aB:c<k.ps.length:=by have gX:¬(c:Int)=((af (k.ps.map aT.enc)).length:Int):=gX;rw[aU,Nq]at gX;omega
  have ZJ:jr k.ps n c=k.ps.set c ⟨true,k.ps[n].fenced,0,k.ps[n].aJ⟩:=by rw[jr,IE hn];simp only[];rw[if_neg om]
  rw[ZJ];have eA:=Q3 k hk EB k.ps hk.sl hk.lp n hn hn c aB;refine⟨_,View.o1 6 [0,1,2,3,4,5] [] ?_,eA⟩
  .exact .pt rfl rfl (.eq rfl (by simp[kC])) (.pe rfl rfl rfl (.pr rfl rfl rfl (.pr rfl rfl rfl (.pr rfl rfl rfl (.pm rfl rfl rfl)))))
theorem GO(k:Kr)(hk:dF k.l k.ops k.ps)(EB:k.l.length<=4194303)(p:Int){m:Mem}{K:CV->Mem->Prop}(h:K (GN (jN k p)) m):au Tryz.prog 84 [cP k.l k.ops k.ps,an .i64 p] m K:=
 be (cg Tryz.func84 l84 (IA k hk EB p)) (by simp[cP,cU,d5,ff,an,CV.dm,CC.dm,RV.dm]) fun r m1 hf=>⟨_,hf,h⟩
def c69:LF:= ⟨40,[.tmp 6,.tmp 7],(.seq (.ai [qu 6 (.aH qe),qu 7 (.aH (qi 0))]) (.seq (.ai [qm 12 0,qm 13 1,qu 14 (qc 80 [12,13]),qm 11 14,qu 15 (.ext 11 0),qu 16 (.ext 11 1),qu 8 (.alloc [qd 0,qd 0]),qw (.store 2 8 15),qm 9 16]) (.seq (.block 0 (.seq (.ai [qm 18 9,qu 19 (.aF .neq 18 (qi 0)),qm 17 19]) (.cond 17 (.seq (.ai [qm 20 9,qu 6 (.aH qe),qm 7 20]) .ret) (.seq (.ai [qm 22 2,qu 23 (qc 61 [22]),qu 24 (.un .not 23),qm 21 24]) (.cond 21 (.seq (.ai [qu 6 (.aH qe),qu 7 (.aH (qi 3))]) .ret) (.seq (.ai [qm 26 2,qf 27 1 8,ql 28 27,qu 29 (qc 108 [26,28]),qu 30 (.un .not 29),qm 25 30]) (.cond 25 (.seq (.ai [qu 6 (.aH qe),qu 7 (.aH (qi 10))]) .ret) .skip))))))) (.seq (.ai [qm 31 0,qu 32 (qc 107 [31]),qm 10 32]) (.seq (.ai [qm 33 10,qm 34 1,qm 35 2,qu 36 (.bW 3 33 34),qf 37 1 36,qf 38 1 37,qw (.store 1 38 35)]) (.seq (.ai [qm 39 10,qm 6 39,qu 7 (.aH (qi 0))]) .ret))))))⟩
namespace Tb
theorem l69:bx Tryz.prog Tryz.f69=some c69:=by kernel_rfl
def zW(l:List ct)(fd n:Int):List ct×Int:=
 if(eM l fd).2=0 then
  if eU n=false then([],3)else if j0 n (eM l fd).1.bZ=false then([],10)else(l.set fd.toNat ⟨true,⟨(eM l fd).1.dk,n⟩⟩,0)
 else([],(eM l fd).2)
theorem EC(l:List ct)(hb:l.length<=2097152)(fd n:Int):body Tryz.prog c69 [eH l,an .i64 fd,an .i64 n] [] (fun r m=>cJ m r (.bK [i3 (zW l fd n).1,cS (zW l fd n).2])):=by
 refine vU l fd ?_;refine aC (fun h=>?_) (fun h=>?_)
 .have h:¬(eM l fd).2=0:=by simpa using h
  rw[zW,if_neg h];exact jX (.one (.aI 3))
 .have h:(eM l fd).2=0:=by simpa using h
  rw[zW,if_pos h];refine vV n ?_;refine aC (fun h1=>?_) (fun h1=>?_)
  .have h1:eU n=false:=by simpa using h1
   rw[if_pos h1];exact jX (.one (.aI 3))
  .have h1:eU n=true:=by simpa using h1
   rw[if_neg (by simp[h1])]
   refine yx _ _ ?_;refine aC (fun h2=>?_) (fun h2=>?_)
   .have h2:j0 n (eM l fd).1.bZ=false:=by simpa using h2
    rw[if_pos h2];exact jX (.one (.aI 3))
   .have h2:j0 n (eM l fd).1.bZ=true:=by simpa using h2
    rw[if_neg (by simp[h2])]
    obtain⟨d,rfl,hd,V1,bq⟩:=GJ h;rw[show((d:Nat):Int).toNat=d from rfl];refine o4 l hb (fun hl=>by subst hl;simp at hd) ?_
    refine ag (cn (k:=d) (by simp[cr,lenOf];omega)) ?_
    refine ag (x:=(l[d].enc).map .aa) (by simp[aZ,cr,ib,hd]) ?_
    refine jX (.one ?_);have e:bb (cr l) d [CC.aa (.val (.bool l[d].has)),CC.aa (.val (.int .i64 l[d].cap.dk)),CC.aa (.val (.int .i64 n))]=af ((l.set d ⟨true,⟨(eM l d).1.dk,n⟩⟩).map ct.enc):=by rw[bj,V1,bq];simp[cr,af,ct.enc]
    exact d9.dJ (congrArg (fun x=>some (Bk.row 3 x)) e) 0 none
theorem Mb(l:List ct)(hb:l.length<=2097152)(fd n:Int){m:Mem}{K:CV->Mem->Prop}(h:K (.bK [i3 (zW l fd n).1,cS (zW l fd n).2]) m):au Tryz.prog 69 [eH l,an .i64 fd,an .i64 n] m K:=
 be (aX Tryz.func69 l69 (EC l hb fd n)) (by simp[eH,an,CV.dm,CC.dm]) fun r m1 hf=>⟨_,hf,h⟩
end Tb
def c141:LF:= ⟨49,[.tmp 6,.tmp 7],(.seq (.ai [qu 6 (.aH (qi 0)),qu 7 (.aH (qb false))]) (.seq (.ai [qm 12 0,qu 13 (.len 1 12),qm 8 13]) (.seq (.ai [qm 14 8,qu 9 (.aH (qi 0)),qm 10 14]) (.seq (.block 0 (.loop (.seq (.seq (.ai [qm 15 9,qm 16 10,qu 17 (.aF .lss 15 16)]) (.cond 17 .skip (.exit 0))) (.block 1 (.seq (.ai [qm 18 9,qm 19 10,qu 20 (.aF .add 18 19),qu 21 (.conv .u64 20),qu 22 (.aF .shr 21 (.c (.rv (.one (.aa (.val (.int .u64 (1)))))))),qu 23 (.conv .i64 22),qm 11 23]) (.seq (.ai [qm 24 2,qm 25 0,qm 26 11,qu 27 (.bW 2 25 26),qL 28 2 27,qm 29 1,qu 30 (.call 24 [28,29]),qu 31 (.aF .lss 30 (qi 0))]) (.cond 31 (.ai [qm 32 11,qu 33 (.aF .add 32 (qi 1)),qm 9 33]) (.ai [qm 34 11,qm 10 34])))))))) (.seq (.ai [qm 35 9,qm 36 9,qm 37 8,qu 38 (.aF .lss 36 37),qm 39 38,qg 40 (.aH 2) 39 true,qg 41 (.aH 0) 39 true,qg 42 (.aH 9) 39 true,qg 43 (.bW 2 41 42) 39 true,qg 44 (.load true 2 43) 39 true,qg 45 (.aH 1) 39 true,qg 46 (.call 40 [44,45]) 39 true,qg 47 (.aF .eql 46 (qi 0)) 39 true,qu 48 (.pick 39 47 (qb false)),qm 6 35,qm 7 48]) .ret)))))⟩
def c142:LF:= ⟨9,[.tmp 4],(.seq (.ai [qu 2 (.box 0),qu 4 (.aH (qi 0))]) (.seq (.ai [qf 5 0 2,ql 6 5,qm 7 1,qu 8 (qc 143 [6,7]),qm 4 8]) .ret))⟩
def c143:LF:= ⟨20,[.tmp 4],(.seq (.ai [qu 4 (.aH (qi 0))]) (.seq (.ai [qm 7 0,qu 8 (qc 157 [7]),qm 5 8]) (.seq (.ai [qm 9 1,qu 10 (qc 157 [9]),qm 6 10]) (.seq (.seq (.ai [qm 11 5]) (.cond 11 (.seq (.seq (.ai [qm 12 6]) (.cond 12 (.seq (.ai [qu 4 (.aH (qi 0))]) .ret) .skip)) (.seq (.ai [qu 4 (.aH (qi (-1)))]) .ret)) .skip)) (.seq (.seq (.ai [qm 13 6]) (.cond 13 (.seq (.ai [qu 4 (.aH (qi 1))]) .ret) .skip)) (.seq (.seq (.ai [qm 14 0,qm 15 1,qu 16 (.aF .lss 14 15)]) (.cond 16 (.seq (.ai [qu 4 (.aH (qi (-1)))]) .ret) .skip)) (.seq (.seq (.ai [qm 17 0,qm 18 1,qu 19 (.aF .gtr 17 18)]) (.cond 19 (.seq (.ai [qu 4 (.aH (qi 1))]) .ret) .skip)) (.seq (.ai [qu 4 (.aH (qi 0))]) .ret))))))))⟩
def c157:LF:= ⟨6,[.tmp 2],(.seq (.ai [qu 2 (.aH (qb false))]) (.seq (.ai [qm 3 0,qm 4 0,qu 5 (.aF .neq 3 4),qm 2 5]) .ret))⟩
theorem l157:bx Tryz.prog Tryz.f157=some c157:=by kernel_rfl
theorem l143:bx Tryz.prog Tryz.f143=some c143:=by kernel_rfl
theorem l142:bx Tryz.prog Tryz.f142=some c142:=by kernel_rfl
theorem l141:bx Tryz.prog Tryz.f141=some c141:=by kernel_rfl
def Q4(a b:ByteArray):Bool:=Op.bytesLess a.toList b.toList
def Ud(a b:ByteArray):Bool:= !(Op.bytesLess a.toList b.toList||a.toList==b.toList)
def kV(a b:ByteArray):Int:=if Q4 a b=true then -1 else if Ud a b=true then 1 else 0
theorem Mc(a:ByteArray):body Tryz.prog c157 [eK a] [] (fun r m=>r=ax false):=by show ax (!(a.toList==a.toList))=ax false;simp
theorem Md(a:ByteArray){m:Mem}{K:CV->Mem->Prop}(h:K (ax false) m):au Tryz.prog 157 [eK a] m K:=
 bs Tryz.func157 l157 rfl (X5 rfl) (Mc a) rfl rfl h
theorem Me(a b:ByteArray):body Tryz.prog c143 [eK a,eK b] [] (fun r m=>r=an .i64 (kV a b)):=by
 refine Md a ?_;refine Md b ?_;refine aC (fun h1=>?_) (fun h1=>?_)
 .show an _ _=an _ _;rw[kV,if_pos (show Q4 a b=true from h1)]
 refine aC (fun h2=>?_) (fun h2=>?_)
 .show an _ _=an _ _;rw[kV,if_neg (by rw[show Q4 a b=false from h1];simp),if_pos (show Ud a b=true from h2)]
 .show an _ _=an _ _;rw[kV,if_neg (by rw[show Q4 a b=false from h1];simp),if_neg (by rw[show Ud a b=false from h2];simp)]
theorem Mf(a b:ByteArray){m:Mem}{K:CV->Mem->Prop}(h:K (an .i64 (kV a b)) m):au Tryz.prog 143 [eK a,eK b] m K:=
 bs Tryz.func143 l143 rfl (X5 rfl) (Me a b) rfl rfl h
def de(e:ByteArray×Int):List Dt:=[.val (.string e.1),.val (.int .i64 e.2)]
def vY(e:ByteArray×Int):CV:= .rv (.agg ((de e).map .aa))
theorem ED(e:ByteArray×Int)(s:ByteArray):body Tryz.prog c142 [vY e,eK s] [] (fun r m=>r=an .i64 (kV e.1 s)):=
 Mf e.1 s rfl
theorem Q5(e:ByteArray×Int)(s:ByteArray){m:Mem}{K:CV->Mem->Prop}(h:K (an .i64 (kV e.1 s)) m):au Tryz.prog 142 [vY e,eK s] m K:=
 bs Tryz.func142 l142 rfl (X5 rfl) (ED e s) rfl rfl h
def IB(es:List (ByteArray×Int))(s:ByteArray):Nat->Nat->Nat->Nat
 |0,i,_=>i
 |n+1,i,j=>if i<j then(match es[(i+j)/2]? with
   |some e=>if kV e.1 s<0 then IB es s n ((i+j)/2+1) j else IB es s n i ((i+j)/2)
   |none=>i)else i
def p6(es:List (ByteArray×Int))(s:ByteArray):Nat:=IB es s es.length 0 es.length
def zX(es:List (ByteArray×Int))(s:ByteArray):Bool:=match es[p6 es s]? with|some e=>kV e.1 s==0|none=>false
structure ZK where
 i:Nat
 j:Nat
theorem ou{es:List (ByteArray×Int)}{k:Nat}(h:k<es.length):cR (es.map de) (k:Nat)=some [.val (.string es[k].1),.val (.int .i64 es[k].2)]:=by rw[bn,Q8,IE h];rfl
theorem EE{i j:Nat}(h:i+j<=4294967296):IntKind.i64.wrap ((IntKind.u64.wrap (IntKind.i64.wrap ((i:Int)+(j:Int)))).fdiv (2^(min (1:Int).toNat IntKind.u64.bits)))=(((i+j)/2:Nat):Int):=by
 rw[show(i:Int)+(j:Int)=((i+j:Nat):Int) by omega,np om]
 have hu:IntKind.u64.wrap ((i+j:Nat):Int)=((i+j:Nat):Int):=by simp only[IntKind.wrap,IntKind.bits,IntKind.signed];simp;omega
 rw[hu,show(2:Int)^(min (1:Int).toNat IntKind.u64.bits)=((2:Nat):Int)from rfl];rw[show(((i+j:Nat):Int)).fdiv ((2:Nat):Int)=(((i+j)/2:Nat):Int) by rw[Int.fdiv_eq_ediv_of_nonneg _ om];exact(Int.natCast_ediv _ _).symm]
 rw[np om]
theorem O5(es:List (ByteArray×Int))(hl:es.length<=2147483648)(s:ByteArray)(F:Nat)(hF:∀(e:ByteArray×Int)(m:Mem)(K:CV->Mem->Prop),K (an .i64 (kV e.1 s)) m->au Tryz.prog F [vY e,eK s] m K):
  body Tryz.prog c141 [rf 2 (es.map de),eK s,.rv (.one (.fn F []))] [] (fun r m=>r= .bK [.one (.aa (.val (.int .i64 (p6 es s:Nat)))),.one (.aa (.val (.bool (zX es s))))]):=by
 refine aK (fun a:ZK=>a.i<=a.j/\a.j<=es.length/\∃n,a.j-a.i<=n/\IB es s n a.i a.j=p6 es s) [0,1,2] (fun a=>[(8,an .i64 (es.length:Nat)),(9,an .i64 (a.i:Nat)),(10,an .i64 (a.j:Nat))]) (fun _=>[]) (fun a=>a.j-a.i) ⟨0,es.length⟩ ⟨Wi _,SS _,es.length,aG,rfl⟩ ?_ (fun a ha=>?_)
 .refine View.o 0 [] [] ?_ (.nil _);have hlen:an .i64 (((es.map de).length:Nat):Int)=an .i64 ((es.length:Nat):Int):=by rw[Nq]
  repeat(first|exact .nil|refine .aq ?_|refine .eq rfl ?_|refine .eq hlen.symm ?_)
 obtain⟨i,j⟩:=a;obtain⟨h1,h2,n,h3,h4⟩:=ha;have h1:i<=j:=h1;have h2:j<=es.length:=h2;have h3:j-i<=n:=h3;have h4:IB es s n i j=p6 es s:=h4;refine ay (fun h=>?_) (fun h=>?_)
 .have aB:i<j:=by have h:(i:Int)<(j:Int):=h;omega
  obtain⟨n,rfl⟩:∃n',n=n'+1:=⟨n-1,om⟩;have hh:(i+j)/2<es.length:=om;rw[IB,if_pos aB,IE hh]at h4;have ew:cR (es.map de) (IntKind.i64.wrap ((IntKind.u64.wrap (IntKind.i64.wrap ((i:Int)+(j:Int)))).fdiv (2^(min (1:Int).toNat IntKind.u64.bits))))=some [.val (.string es[(i+j)/2].1),.val (.int .i64 es[(i+j)/2].2)]:=by rw[EE om];exact ou hh
  refine ag ew ?_;refine hF es[(i+j)/2] _ _ ?_;refine ay (fun h5=>?_) (fun h5=>?_)
  .have h5:kV es[(i+j)/2].1 s<0:=h5;simp only[]at h4;rw[if_pos h5]at h4;refine⟨⟨(i+j)/2+1,j⟩,⟨by show(i+j)/2+1<=j;omega,h2,n,by show j-((i+j)/2+1)<=n;omega,h4⟩,(show j-((i+j)/2+1)<j-i by omega),View.o 0 [] [] ?_ (.nil _)⟩
   have e1:an .i64 (IntKind.i64.wrap (IntKind.i64.wrap ((IntKind.u64.wrap (IntKind.i64.wrap ((i:Int)+(j:Int)))).fdiv (2^(min (1:Int).toNat IntKind.u64.bits)))+1))=an .i64 (((i+j)/2+1:Nat):Int):=by
    rw[EE om,show(((i+j)/2:Nat):Int)+1=(((i+j)/2+1:Nat):Int) by omega,np om]
   repeat(first|exact .nil|refine .aq ?_|refine .eq rfl ?_|refine .eq e1.symm ?_)
  .have h5:¬kV es[(i+j)/2].1 s<0:=h5;simp only[]at h4;rw[if_neg h5]at h4;refine⟨⟨i,(i+j)/2⟩,⟨by show i<=(i+j)/2;omega,by show(i+j)/2<=es.length;omega,n,by show(i+j)/2-i<=n;omega,h4⟩,(show(i+j)/2-i<j-i by omega),View.o 0 [] [] ?_ (.nil _)⟩
   have e1:an .i64 (IntKind.i64.wrap ((IntKind.u64.wrap (IntKind.i64.wrap ((i:Int)+(j:Int)))).fdiv (2^(min (1:Int).toNat IntKind.u64.bits))))=an .i64 (((i+j)/2:Nat):Int):=by rw[EE om]
   repeat(first|exact .nil|refine .aq ?_|refine .eq rfl ?_|refine .eq e1.symm ?_)
 .have qy:i=j:=by have h:¬(i:Int)<(j:Int):=h;omega
  subst qy;have hI:p6 es s=i:=by
   rw[<-h4];cases n with
   |zero=>rfl
   |succ n=>rw[IB,if_neg (Nat.lt_irrefl _)]
  rw[zX,hI];refine ay (fun h6=>?_) (fun h6=>?_)
  .have aB:i<es.length:=by have h6:(i:Int)<(es.length:Int):=h6;omega
   refine ag (ou aB) ?_;refine hF es[i] _ _ ?_;show CV.bK _=CV.bK _;rw[IE aB]
  .have ew:¬i<es.length:=by have h6:¬(i:Int)<(es.length:Int):=h6;omega
   show CV.bK _=CV.bK _;rw[abg om]
def XY(es:List (ByteArray×Int))(s:ByteArray):CV:= .bK [.one (.aa (.val (.int .i64 (p6 es s:Nat)))),.one (.aa (.val (.bool (zX es s))))]
theorem Mg(es:List (ByteArray×Int))(hl:es.length<=2147483648)(s:ByteArray)(F:Nat)(hF:∀(e:ByteArray×Int)(m:Mem)(K:CV->Mem->Prop),K (an .i64 (kV e.1 s)) m->au Tryz.prog F [vY e,eK s] m K){m:Mem}{K:CV->Mem->Prop}(h:K (XY es s) m):au Tryz.prog 141 [rf 2 (es.map de),eK s,.rv (.one (.fn F []))] m K:=by
 refine be (K0:=fun r _=>r=XY es s) (aX Tryz.func141 l141 (O5 es hl s F hF)) (by simp[rf,eK,CV.dm,CC.dm,RV.dm]) fun r m1 hr=>?_
 subst hr;exact⟨_,cJ.self rfl,h⟩
theorem SD(es:List (ByteArray×Int))(hl:es.length<=2147483648)(s:ByteArray)(F:Nat)(hF:∀(e:ByteArray×Int)(m:Mem)(K:CV->Mem->Prop),K (an .i64 (kV e.1 s)) m->au Tryz.prog F [vY e,eK s] m K){m:Mem}{id:Nat}(hb:dd m id=some (.row 2 (af (es.map de)))){K:CV->Mem->Prop}(h:K (XY es s) m):au Tryz.prog 141 [.rv (.one (.row id 2 0 none)),eK s,.rv (.one (.fn F []))] m K:=
 BF [id] (args0:=[rf 2 (es.map de),eK s,.rv (.one (.fn F []))]) (Mg es hl s F hF (K:=fun r _=>r=XY es s) rfl) (.put (pW.e8 id (es.map de) (by simp[bz]) hb) (.eq rfl (.eq rfl .nil))) fun r m1 hr=>by subst hr;exact⟨rfl,h⟩
def Tryz.Cb:Go.Shelf.Ren:=⟨fun|143=>156|219=>161|217=>163|225=>164|224=>165|267=>166|266=>168|314=>169|n=>n,fun|9=>9|3=>3|4=>4|5=>5|46=>120|146=>255|51=>179|n=>n,fun|1=>0|n=>n⟩
theorem Tryz.O6:Go.Proofs.Lays.n143 Tryz.prog Tryz.Cb:={
 mixed:=by kernel_rfl,
 f143:=Tryz.func156.trans (congrArg some (by kernel_rfl)),
 f217:=Tryz.func163.trans (congrArg some (by kernel_rfl)),
 f219:=Tryz.func161.trans (congrArg some (by kernel_rfl)),
 f224:=Tryz.func165.trans (congrArg some (by kernel_rfl)),
 f225:=Tryz.func164.trans (congrArg some (by kernel_rfl)),
 f266:=Tryz.func168.trans (congrArg some (by kernel_rfl)),
 f267:=Tryz.func166.trans (congrArg some (by kernel_rfl)),
 f314:=Tryz.func169.trans (congrArg some (by kernel_rfl)),
 t3:=Tryz.underlying3,
 a3:=Tryz.isAgg3,
 z3:=Tryz.sizeOf3,
 v3:=Tryz.zeroValue3,
 t4:=Tryz.underlying4,
 a4:=Tryz.isAgg4,
 z4:=Tryz.sizeOf4,
 v4:=Tryz.zeroValue4,
 t5:=Tryz.underlying5,
 a5:=Tryz.isAgg5,
 z5:=Tryz.sizeOf5,
 v5:=Tryz.zeroValue5,
 t9:=Tryz.underlying9,
 a9:=Tryz.isAgg9,
 z9:=Tryz.sizeOf9,
 v9:=Tryz.zeroValue9,
 t46:=Tryz.underlying120,
 a46:=Tryz.isAgg120,
 z46:=Tryz.sizeOf120,
 v46:=Tryz.zeroValue120,
 t51:=Tryz.underlying179,
 a51:=Tryz.isAgg179,
 z51:=Tryz.sizeOf179,
 v51:=Tryz.zeroValue179,
 t146:=Tryz.underlying255,
 a146:=Tryz.isAgg255,
 z146:=Tryz.sizeOf255,
 v146:=Tryz.zeroValue255,
 g1:=by kernel_rfl}
def Tryz.tU:Go.Shelf.Ren:=⟨fun|156=>71|165=>109|166=>110|169=>111|240=>136|241=>137|276=>152|277=>153|n=>n,fun|31=>138|9=>9|3=>3|4=>4|0=>0|20=>20|72=>190|76=>193|70=>188|37=>33|75=>192|127=>230|164=>240|5=>5|80=>195|n=>n,fun|n=>n⟩
theorem Tryz.GP:Go.Proofs.Lays.n156 Tryz.prog Tryz.tU:={
 mixed:=by kernel_rfl,
 f156:=Tryz.func71.trans (congrArg some (by kernel_rfl)),
 f165:=Tryz.func109.trans (congrArg some (by kernel_rfl)),
 f166:=Tryz.func110.trans (congrArg some (by kernel_rfl)),
 f169:=Tryz.func111.trans (congrArg some (by kernel_rfl)),
 f240:=Tryz.func136.trans (congrArg some (by kernel_rfl)),
 f241:=Tryz.func137.trans (congrArg some (by kernel_rfl)),
 f276:=Tryz.func152.trans (congrArg some (by kernel_rfl)),
 f277:=Tryz.func153.trans (congrArg some (by kernel_rfl)),
 t0:=Tryz.underlying0,
 a0:=Tryz.isAgg0,
 z0:=Tryz.sizeOf0,
 v0:=Tryz.zeroValue0,
 t3:=Tryz.underlying3,
 a3:=Tryz.isAgg3,
 z3:=Tryz.sizeOf3,
 v3:=Tryz.zeroValue3,
 t4:=Tryz.underlying4,
 a4:=Tryz.isAgg4,
 z4:=Tryz.sizeOf4,
 v4:=Tryz.zeroValue4,
 t9:=Tryz.underlying9,
 a9:=Tryz.isAgg9,
 z9:=Tryz.sizeOf9,
 v9:=Tryz.zeroValue9,
 t20:=Tryz.underlying20,
 a20:=Tryz.isAgg20,
 z20:=Tryz.sizeOf20,
 v20:=Tryz.zeroValue20,
 t31:=Tryz.underlying138,
 a31:=Tryz.isAgg138,
 z31:=Tryz.sizeOf138,
 v31:=Tryz.zeroValue138,
 t37:=Tryz.underlying33,
 a37:=Tryz.isAgg33,
 z37:=Tryz.sizeOf33,
 v37:=Tryz.zeroValue33,
 t70:=Tryz.underlying188,
 a70:=Tryz.isAgg188,
 z70:=Tryz.sizeOf188,
 v70:=Tryz.zeroValue188,
 t72:=Tryz.underlying190,
 a72:=Tryz.isAgg190,
 z72:=Tryz.sizeOf190,
 v72:=Tryz.zeroValue190,
 t75:=Tryz.underlying192,
 a75:=Tryz.isAgg192,
 z75:=Tryz.sizeOf192,
 v75:=Tryz.zeroValue192,
 t76:=Tryz.underlying193,
 a76:=Tryz.isAgg193,
 z76:=Tryz.sizeOf193,
 v76:=Tryz.zeroValue193,
 t127:=Tryz.underlying230,
 a127:=Tryz.isAgg230,
 z127:=Tryz.sizeOf230,
 v127:=Tryz.zeroValue230,
 t164:=Tryz.underlying240,
 a164:=Tryz.isAgg240,
 z164:=Tryz.sizeOf240,
 v164:=Tryz.zeroValue240}
theorem Tryz.GQ:Builder.Extra Tryz.prog Tryz.tU:={
 sizeBuilder:=by kernel_rfl,
 liesBuilder:=by kernel_rfl,
 t5:=Tryz.underlying5,
 a5:=Tryz.isAgg5,
 z5:=Tryz.sizeOf5,
 v5:=Tryz.zeroValue5,
 infoByte:=by kernel_rfl,
 cellsByte:=by kernel_rfl,
 sizeByte:=by kernel_rfl,
 neB5:=by decide}
namespace bP
theorem IC(s:ByteArray)(c:UInt8)(w:World):Calls Tryz.prog 156 #[.string s,.string ⟨#[c]⟩] w fun e w'=>e= .returned (.int .i64 (Lib.indexByte s.data.toList c))/\w'=w:=
 Any.strings_Index_one Tryz.O6 s c w
end bP
theorem ID(a:Option Addr)(c:Nat)(sep:ByteArray)(w:World):Calls Tryz.prog 71 #[.slice a 0 c,.string sep] w fun e w'=>e= .returned (.string ⟨#[]⟩)/\w'=w:=
 Any.strings_Join_none Tryz.GP Tryz.GQ a c sep w
theorem O7(bk o c:Nat)(xs:List ByteArray)(sep:ByteArray)(w:World)(ek:∀(j:Nat)x,xs[j]? =some x->w.cell? ⟨bk,o+j,none⟩=some (.string x))(eY:bk<w.heap.size)(hN:xs.length<=140737488355328)(bq:xs.length<=c)(hlen:(Lib.join (xs.map (·.data.toList)) sep.data.toList).length<=140737488355328):
  Calls Tryz.prog 71 #[.slice (some ⟨bk,o,none⟩) xs.length c,.string sep] w fun e w'=>e= .returned (.string ⟨(Lib.join (xs.map (·.data.toList)) sep.data.toList).toArray⟩)/\Below w.heap.size w w':=
 Any.strings_Join Tryz.GP Tryz.GQ bk o c xs sep w ek eY hN bq hlen
namespace bP
attribute [local go_sem] Oper.semAt_some
def gx(c:UInt8):List UInt8->List (List UInt8)
 | []=>[[]]
 |x::r=>if x==c then []::gx c r else match gx c r with
  | []=>[[x]]
  |p::ps=>(x::p)::ps
theorem sL{c:UInt8}:∀{l:List UInt8},Lib.indexByte l c= -1->gx c l=[l]
 | [],_=>rfl
 |x::r,h=>by
  simp only[Lib.indexByte]at h;split at h
  .cases h
  .rename_i hx;split at h
   .rename_i h2;have QO:Lib.indexByte r c= -1:=by simpa using h2
    simp only[gx,hx,sL QO,abV,if_false]
   .have:=Lib.indexByte_ge r c;omega
theorem yB{c:UInt8}:∀{l:List UInt8}{i:Nat},Lib.indexByte l c=i->i<l.length/\gx c l=l.take i::gx c (l.drop (i+1))
 | [],i,h=>by simp[Lib.indexByte]at h
 |x::r,i,h=>by
  simp only[Lib.indexByte]at h;split at h
  .rename_i hx;have:i=0:=om;subst this;simp[gx,hx]
  .rename_i hx;split at h
   .omega
   .cases i with
    |zero=>
     have:=Lib.indexByte_ge r c;rename_i h2;have:Lib.indexByte r c= -1:=om;simp[this]at h2
    |succ i=>
     have h3:Lib.indexByte r c=i:=om;obtain⟨h4,h5⟩:=yB h3;refine⟨by simpa using h4,?_⟩
     simp only[gx,hx,h5,abV,if_false];simp
def cK(l:List UInt8):ByteArray:=⟨l.toArray⟩
def gR(c:UInt8)(s:ByteArray):List ByteArray:=(gx c s.data.toList).map cK
end bP
namespace bP
attribute [local go_sem] Oper.semAt_some
def zY(w:World)(b o:Nat):Nat:=match w.cell? ⟨b,o,none⟩with|some (.string s)=>s.size|_=>0
theorem vZ{w:World}{b o:Nat}{s:ByteArray}(h:w.cell? ⟨b,o,none⟩=some (.string s)):zY w b o=s.size:=by simp[zY,h]
@[simp] theorem o6(r:List UInt8):(cK r).data.toList=r:=rfl
@[simp] theorem mF(r:List UInt8):(cK r).size=r.length:=by simp[cK,ByteArray.size]
theorem ry(r:List UInt8)(a b:Nat)(hb:b<=r.length):(cK r).extract a b=cK ((r.take b).drop a):=by apply ByteArray.ext;simp[cK,ByteArray.data_extract,List.drop_take]
def ZL(F:Fence)(n:Nat)(P:Program)(l:Nat)(args:Array Value)(W:World)(R:Ending->World->Prop):Prop:=
 ∃fn tmps assign body,(Instr.yield l args).run P W= .ok (.round l fn tmps assign body) W/\RoundIn F n P l fn tmps assign body W R
theorem EF(F:Fence)(n:Nat)(h49:F.fn 154)(h51:F.fn 156)(hro:F.round=none)(hn:3<=n)(s:ByteArray)(c:UInt8)(l b1 o1 b2 o2 b3 o3:Nat)(W:World)(J:Nat->World->Prop)(Jx:World->Prop)(n12:b1≠b2)(n13:b1≠b3)(n23:b2≠b3)(hix:∀(s:ByteArray)(w:World),CallsIn F (n-1) Tryz.prog 156 #[.string s,.string ⟨#[c]⟩] w fun e w'=>e= .returned (.int .i64 (Lib.indexByte s.data.toList c))/\w'=w)(c1:W.cell? ⟨b1,o1,none⟩=some (.string ⟨#[c]⟩))(c2:W.cell? ⟨b2,o2,none⟩=some (.string s))(f2:W.frozen? ⟨b2,o2,none⟩=false)(c3:W.cell? ⟨b3,o3,none⟩=some (.int .i64 0))(hJ:∀k W v,J k W->J k (W.setCell ⟨b2,o2,none⟩ v))(hY:∀k y W,(gR c s)[k]? =some y->J k W->ZL F (n-1) Tryz.prog l #[.string y] W fun e W'=>
   (e= .returned (.bool true)/\J (k+1) W'/\W'.heap[b1]? =W.heap[b1]? /\W'.heap[b2]? =W.heap[b2]? /\W'.heap[b3]? =W.heap[b3]?)\/(e= .returned (.bool false)/\Jx W'))(h0:J 0 W)(hsz:(s.size:Int)<4611686018427387904):
  CallsIn F n Tryz.prog 154 #[.func (.yield l) #[] #[],.pointer (some ⟨b1,o1,none⟩),.pointer (some ⟨b2,o2,none⟩),.pointer (some ⟨b3,o3,none⟩)] W fun e W'=>
   (∃v,e= .returned v)/\(J (gR c s).length W'\/Jx W'):=by
 have h1:1<=n:=om;refine callsIn_of_wp Tryz.func154 rfl h49 ?_ hro;simp only[Tryz.ntmps154,List.size_toArray,aar,aby,Nat.reduceAdd,Nat.reduceSub,Array.replicate_succ,Array.replicate_zero,List.push_toArray,List.append_toArray,adp,adj]
 gi_wp2
 gi_loopw [] (fun wr=>∃(k:Nat)(r:List UInt8),wr.cell? ⟨b2,o2,none⟩=some (.string (cK r))/\wr.frozen? ⟨b2,o2,none⟩=false/\wr.cell? ⟨b1,o1,none⟩=some (.string ⟨#[c]⟩)/\
   wr.cell? ⟨b3,o3,none⟩=some (.int .i64 0)/\(gR c s).drop k=(gx c r).map cK/\J k wr/\r.length<=s.size) (fun wr=>zY wr b2 o2)
 case atStart=>
  exact⟨0,s.data.toList,by rw[c2];rfl,f2,c1,c3,rfl,h0,by show s.data.toList.length<=s.data.size;rw[ab9];exact SS _⟩
 case round=>
  obtain⟨k,r,d2,g2,d1,d3,hcut,hj,hlen⟩:=hrel;rcases Int.lt_or_le (Lib.indexByte r c) 0 with hneg|hpos
  .have hm1:Lib.indexByte r c= -1:=by have:=Lib.indexByte_ge r c;omega
   have hix:=(hix (cK r) wr).mono (R':=fun e w'=>e= .returned (.int .i64 (-1))/\w'=wr) fun e w'⟨h1,h2⟩=>⟨by rw[h1,o6,hm1],h2⟩
   have hk:(gR c s)[k]? =some (cK r):=by
    have:=congrArg (fun l=>l[0]?) hcut
    simp only[abG,sL hm1]at this;simpa using this
   have hlen2:(gR c s).length=k+1:=by have h2:=congrArg List.length hcut;have h3:=(Mh.1 hk).1;rw[sL hm1,abK]at h2;simp only[abv,ac0,aar,aby]at h2;omega
   obtain⟨fn,tmps,assign,body,hy,hR⟩:=hY k _ wr hk hj;have hfin:∀W,J (k+1) W->J (gR c s).length W:=fun W h=>hlen2▸h
   clear hY hJ hcut hneg hm1 hk c1 c2 f2 c3 h0 hlen2
   gi_wp2_with (gi_at_call 156;refine hix.mono ?_;rintro e w' ⟨rfl,rfl⟩)
   refine hR.mono ?_;rintro e W' (⟨rfl,hJ',_⟩|⟨rfl,hx⟩)
   .gi_wp2
    go_end0
    exact⟨⟨_,rfl⟩,.inl (hfin _ hJ')⟩
   .gi_wp2
    go_end0
    exact⟨⟨_,rfl⟩,.inr hx⟩
  .obtain⟨i,hi⟩:=Int.eq_ofNat_of_zero_le hpos;obtain⟨hlt,hcut2⟩:=yB hi;have hk:(gR c s)[k]? =some (cK (r.take i)):=by
    have:=congrArg (fun l=>l[0]?) hcut
    simp only[abG,hcut2]at this;simpa using this
   have hnext:(gR c s).drop (k+1)=(gx c (r.drop (i+1))).map cK:=by have:=congrArg List.tail hcut;rw[hcut2,List.tail_drop]at this;simpa using this
   obtain⟨fn,tmps,assign,body,hy,hR⟩:=hY k _ wr hk hj;obtain⟨z,hz⟩:∃z:Int,z=(i:Int):=⟨_,rfl⟩;have hix:=(hix (cK r) wr).mono (R':=fun e w'=>e= .returned (.int .i64 z)/\w'=wr) fun e w'⟨h1,h2⟩=>⟨by rw[h1,o6,hi,hz],h2⟩
   have Hnext:Hid ((gR c s).drop (k+1)=(gx c (r.drop (i+1))).map cK):=hnext;have HJ:Hid (∀k W v,J k W->J k (W.setCell ⟨b2,o2,none⟩ v)):=hJ;have Hz:Hid (z=(i:Int)):=hz;have z0:0<=z:=om;have z0':decide (z<0)=false:=decide_eq_false om;have z1:z<r.length:=om;have hw1:wrap64 z=z:=by unfold wrap64;omega
   have hw2:wrap64 (z+1)=z+1:=by unfold wrap64;omega
   have hs1:(0<=z/\z<=(r.length:Int))=True:=by simp;omega
   have hs2:(0<=z+1/\z+1<=(r.length:Int))=True:=by simp;omega
   have hs3:z<=(r.length:Int):=om;have hs4:0<=z+1:=om;have hs5:z+1<=(r.length:Int):=om;have he1:cK (r.take i)=(cK r).extract 0 z.toNat:=by rw[ry r _ _ om,hz];simp
   have he2:(cK r).extract (z+1).toNat r.length=cK (r.drop (i+1)):=by rw[ry r _ _ (SS _),abp,hz];rfl
   have Hend:Hid (i<r.length/\r.length<=s.size/\(cK r).extract (z+1).toNat r.length=cK (r.drop (i+1))):=⟨hlt,hlen,he2⟩;rw[he1]at hy;clear hJ hY hcut hcut2 hi hk c1 c2 f2 c3 h0 hpos hnext hz hsz he1 he2 hlt hlen
   gi_wp2_with (first
    |(gi_at_call 156;refine hix.mono ?_;rintro e w' ⟨rfl,rfl⟩)
    |(refine wpIn_cond_false (by show Value.bool (decide (z<0))=Value.bool false;rw[z0']) ?_))
   refine hR.mono ?_;rintro e W' (⟨rfl,hJ',e1,e2,e3⟩|⟨rfl,hx⟩)
   .have q1:W'.cell? ⟨b1,o1,none⟩=some (.string ⟨#[c]⟩):=(World.cell?_of_block (a:=⟨b1,o1,none⟩) e1).trans d1;have q2:W'.cell? ⟨b2,o2,none⟩=some (.string (cK r)):=(World.cell?_of_block (a:=⟨b2,o2,none⟩) e2).trans d2;have q3:W'.cell? ⟨b3,o3,none⟩=some (.int .i64 0):=(World.cell?_of_block (a:=⟨b3,o3,none⟩) e3).trans d3;have q4:W'.frozen? ⟨b2,o2,none⟩=false:=by rw[<-g2];simp only[World.frozen?,e2]
    gi_wp2
    obtain⟨hlt,hlen,he2⟩:=Hend.out;have hq:(W'.cell? ⟨b2,o2,none⟩).isSome=true:=by rw[q2];rfl
    have hn2:=World.cell?_setCell_same' W' ⟨b2,o2,none⟩ (.string ((cK r).extract (z+1).toNat r.length)) hq;rw[he2]at hn2⊢;refine⟨⟨k+1,r.drop (i+1),hn2,by rw[World.frozen?_setCell];exact q4,?_,?_,Hnext.out,HJ.out _ _ _ hJ',by simp;omega⟩,?_⟩
    .exact(World.cell?_setCell_other _ _ _ _ fun e=>n12 (congrArg Addr.block e).symm).trans q1
    .exact(World.cell?_setCell_other _ _ _ _ fun e=>n23 (congrArg Addr.block e)).trans q3
    .rw[vZ hn2,vZ d2,mF,mF,abK];omega
   .gi_wp2
    refine bodyPost_ret (results_none rfl _ _ _) rfl ?_;exact⟨⟨_,rfl⟩,.inr hx⟩
theorem p7(W:World)(a:Addr)(v:Value){b:Nat}(h:b≠a.block):(W.setCell a v).heap[b]? =W.heap[b]? :=by simp only[World.setCell,abN];rw[if_neg (fun e=>h e.symm)]
theorem zZ{n:Nat}{P:Program}{l:Nat}{f:FuncId}{tmps:Array Value}{assign body:Code}{w:World}{R:Ending->World->Prop}(h:RoundIn Fence.wide 0 P l f tmps assign body w R):
  RoundIn Fence.wide n P l f tmps assign body w R:=⟨h.1,fun c cs _=>h.2 c cs (room_wide _)⟩
theorem IF(s:ByteArray)(c:UInt8)(hsz:(s.size:Int)<4611686018427387904):Ux Tryz.prog 154 [.string ⟨#[c]⟩,.string s,.int .i64 0] (gR c s):=by
 refine⟨⟨Tryz.f154,Tryz.func154,rfl,by decide⟩,?_⟩
 intro l az W J Jx hlen hnd hcell hJ hJx hY h0
 match az,hlen with
 | [(b1,o1),(b2,o2),(b3,o3)],_=>
 obtain⟨c1,f1⟩:=hcell 0 _ _ rfl rfl;obtain⟨c2,f2⟩:=hcell 1 _ _ rfl rfl;obtain⟨c3,f3⟩:=hcell 2 _ _ rfl rfl;simp only[abv,ac0,acj,abo,acp,or_false,not_or,List.nodup_nil]at hnd;obtain⟨⟨n12,n13⟩,n23,_⟩:=hnd;show CallsIn Fence.wide 0 Tryz.prog 154 #[.func (.yield l) #[] #[],.pointer (some ⟨b1,o1,none⟩),.pointer (some ⟨b2,o2,none⟩),.pointer (some ⟨b3,o3,none⟩)] W _;refine callsIn_wide.2 ((callsIn_wide (n:=5)).1 ?_);refine EF Fence.wide 5 trivial trivial rfl om s c l b1 o1 b2 o2 b3 o3 W J Jx n12 n13 n23 (fun s w=>callsIn_wide.2 (IC s c w)) c1 c2 f2 c3 ?_ ?_ h0 hsz
 .intro k W v hj;exact hJ k W _ hj aG (fun b _ hb=>p7 _ _ _ (hb (b2,o2) aG)) rfl rfl rfl
 .intro k y W hk hj;obtain⟨fn,tmps,assign,body,hy,hR⟩:=hY k y W hk hj;refine⟨fn,tmps,assign,body,hy,(zZ hR).mono fun e W' h=>?_⟩
  rcases h with⟨he,h1,h2,h3⟩|⟨he,h1⟩
  .exact .inl ⟨he,h1,h3 (b1,o1) aG,h3 (b2,o2) aG,h3 (b3,o3) aG⟩
  .exact .inr ⟨he,h1⟩
end bP
def c113:LF:= ⟨52,[.tmp 2],(.seq (.ai [qu 2 (.aH (qb false))]) (.seq (.seq (.ai [qm 5 0,qu 6 (.len 0 5),qu 7 (.aF .lss 6 (qi 1)),qm 8 7,qg 9 (.aH 0) 8 false,qg 10 (.len 0 9) 8 false,qg 11 (.aF .gtr 10 (qi 12)) 8 false,qu 12 (.pick 8 (qb true) 11),qm 13 12,qg 14 (.aH 0) 13 false,qg 15 (.aF .eql 14 (.c (.rv (.one (.aa (.val (.string ⟨#[46]⟩))))))) 13 false,qu 16 (.pick 13 (qb true) 15),qm 17 16,qg 18 (.aH 0) 17 false,qg 19 (.aF .eql 18 (.c (.rv (.one (.aa (.val (.string ⟨#[46,46]⟩))))))) 17 false,qu 20 (.pick 17 (qb true) 19)]) (.cond 20 (.seq (.ai [qu 2 (.aH (qb false))]) .ret) .skip)) (.seq (.seq (.ai [qm 21 0,qu 22 (.len 0 21),qu 23 (.aH (qi 0))]) (.block 0 (.loop (.seq (.ai [qu 24 (.aF .lss 23 22)]) (.seq (.cond 24 .skip (.exit 0)) (.seq (.block 1 (.seq (.ai [qm 25 23,qm 3 25]) (.seq (.ai [qm 26 0,qm 27 3,qu 28 (.A3 26 27),qm 4 28]) (.seq (.ai [qm 29 4,qu 30 (.aF .lss 29 (.c (.rv (.one (.aa (.val (.int .u8 (97)))))))),qm 31 30,qg 32 (.aH 4) 31 false,qg 33 (.aF .gtr 32 (.c (.rv (.one (.aa (.val (.int .u8 (122)))))))) 31 false,qu 34 (.pick 31 (qb true) 33),qm 35 34,qg 36 (.aH 4) 35 true,qg 37 (.aF .lss 36 (.c (.rv (.one (.aa (.val (.int .u8 (48)))))))) 35 true,qg 38 (.aH 37) 35 true,qg 39 (.aH 4) 38 false,qg 40 (.aF .gtr 39 (.c (.rv (.one (.aa (.val (.int .u8 (57)))))))) 38 false,qg 41 (.pick 38 (qb true) 40) 35 true,qu 42 (.pick 35 41 (qb false)),qm 43 42,qg 44 (.aH 4) 43 true,qg 45 (.aF .neq 44 (.c (.rv (.one (.aa (.val (.int .u8 (46)))))))) 43 true,qu 46 (.pick 43 45 (qb false)),qm 47 46,qg 48 (.aH 4) 47 true,qg 49 (.aF .neq 48 (.c (.rv (.one (.aa (.val (.int .u8 (95)))))))) 47 true,qu 50 (.pick 47 49 (qb false))]) (.cond 50 (.seq (.ai [qu 2 (.aH (qb false))]) .ret) .skip))))) (.ai [qu 51 (.aF .add 23 (qi 1)),qm 23 51]))))))) (.seq (.ai [qu 2 (.aH (qb true))]) .ret))))⟩
namespace bP
abbrev dG:=List UInt8
def vT(t:dG):CV:=eK (cK t)
theorem z6(s:ByteArray):∃t:dG,s=cK t:=⟨s.data.toList,rfl⟩
theorem tV(t:dG):(cK t).toList=t:=ByteArray.toList_mk t
theorem kW{a b:dG}{A B:Prop}(ha:a=b->A)(hb:a≠b->B): @Bool.rec (fun _=>Prop) B A ((cK a).toList==(cK b).toList):=by
 rw[tV,tV];cases h:(a==b)
 .exact hb (by simpa using h)
 .exact ha (by simpa using h)
def Mi(n:Nat):Bool:=(decide (97<=n)&&decide (n<=122))||(decide (48<=n)&&decide (n<=57))||decide (n=46)||decide (n=95)
def fI(t:dG):Bool:=decide (1<=t.length)&&decide (t.length<=12)&&decide (t≠[46])&&decide (t≠[46,46])&&t.all fun c=>Mi c.toNat
theorem EG{t:dG}{k:Nat}(hk:k<t.length)(h:Mi t[k].toNat=false):fI t=false:=by
 have:(t.all fun c=>Mi c.toNat)=false:=by
  rw[List.all_eq_false];exact⟨t[k],Z0 hk,by simp[h]⟩
 simp[fI,this]
theorem EH{t:dG}(h1:1<=t.length)(h2:t.length<=12)(h3:t≠[46])(h4:t≠[46,46])(h:∀k(hk:k<t.length),Mi t[k].toNat=true):fI t=true:=by
 have:(t.all fun c=>Mi c.toNat)=true:=by rw[abH];intro c hc;obtain⟨k,hk,rfl⟩:=List.mem_iff_getElem.1 hc;exact h k hk
 simp[fI,this,h1,h2,h3,h4]
theorem V7{n:Nat}(h1:¬(97<=n/\n<=122))(h2:¬(48<=n/\n<=57))(h3:n≠46)(h4:n≠95):Mi n=false:=by
 have a:¬(97<=n)\/¬(n<=122):=om;have b:¬(48<=n)\/¬(n<=57):=om;unfold Mi;rcases a with a|a<;>rcases b with b|b<;>simp[a,b,h3,h4]
theorem V8{n:Nat}(h:(97<=n/\n<=122)\/(48<=n/\n<=57)\/n=46\/n=95):Mi n=true:=by
 unfold Mi;rcases h with⟨a,b⟩|⟨a,b⟩|h|h<;>simp_all
theorem l113:bx Tryz.prog Tryz.f113=some c113:=by kernel_rfl
theorem ZN{t:dG}{k:Nat}(hk:k<t.length):cR (cK t).data.toList (k:Nat)=some t[k]:=by rw[bn,o6,IE hk]
theorem fY(t:dG):(((cK t).size:Nat):Int)=t.length:=by rw[mF]
theorem sM(t:dG):body Tryz.prog c113 [vT t] [] (fun r m=>r=ax (fI t)):=by
 refine ay (fun h=>?_) (fun h=>?_)
 .rw[fY]at h;have:fI t=false:=by simp[fI];omega
  rw[this];rfl
 rw[fY]at h;refine ay (fun h2=>?_) (fun h2=>?_)
 .rw[fY]at h2;have:fI t=false:=by simp[fI];omega
  rw[this];rfl
 rw[fY]at h2;refine kW (b:=[46]) (fun h3=>?_) (fun h3=>?_)
 .subst h3;rfl
 refine kW (b:=[46,46]) (fun h4=>?_) (fun h4=>?_)
 .subst h4;rfl
 refine aK (fun k=>k<=t.length/\∀j(hj:j<t.length),j<k->Mi t[j].toNat=true) [0] (fun k=>[(22,an .i64 (t.length:Nat)),(23,an .i64 (k:Nat))]) (fun _=>[]) (fun k=>t.length-k) 0 ⟨Wi _,fun j _ h=>absurd h (abb _)⟩ ?_ (fun k hk=>?_)
 .refine View.o 0 [] [] ?_ (.nil _);repeat(first|exact .nil|refine .aq ?_|refine .eq rfl ?_|refine .put (.aO (by rw[fY];rfl)) ?_)
 obtain⟨hk,fN⟩:k<=t.length/\∀j(hj:j<t.length),j<k->Mi t[j].toNat=true:=hk;refine ay (fun h5=>?_) (fun h5=>?_)
 .have aB:k<t.length:=by have h5:(k:Int)<(t.length:Int):=h5;omega
  refine ag (ZN aB) ?_;repeat' first|refine ay (fun _=>?_) (fun _=>?_)|refine bG (fun _=>?_) (fun _=>?_)
  all_goals first
   |(show ax false=ax (fI t)
     rw[EG aB (V7 om om om om)])
   |(refine⟨k+1,⟨aB,fun j hj hjk=>?_⟩,(show t.length-(k+1)<t.length-k by omega),View.o 0 [] [] ?_ (.nil _)⟩
     .rcases ZX j k with h|h
      .exact fN j hj h
      .have:j=k:=om;subst this;exact V8 om
     .repeat(first|exact .nil|refine .aq ?_|refine .put (.aO (ap om).symm) ?_|refine .eq rfl ?_))
 .show ax true=ax (fI t);have h5:¬(k:Int)<(t.length:Int):=h5;rw[EH om om h3 h4 fun j hj=>fN j hj om]
theorem z7(t:dG){m:Mem}{K:CV->Mem->Prop}(h:K (ax (fI t)) m):au Tryz.prog 113 [vT t] m K:=
 bs Tryz.func113 l113 rfl (X5 rfl) (sM t) rfl rfl h
end bP
def c73:LF:= ⟨37,[.cell false 1 2,.cell false 1 3,.cell false 1 4],(.seq (.ai [qu 2 (.alloc [.aI]),qu 3 (.alloc [(.aa (.val (.bool false)))]),qu 4 (.alloc [qd 0])]) (.seq (.seq (.ai [qm 7 0,qu 8 (.aF .eql 7 (.c (.rv (.one (.aa (.val (.string ⟨#[]⟩)))))))]) (.cond 8 (.seq (.ai [qw (.store 1 2 qe),qw (.store 1 3 (qb false)),qw (.store 1 4 (qi 2))]) .ret) .skip)) (.seq (.seq (.ai [qm 9 0,qu 10 (.len 0 9),qu 11 (.aF .gtr 10 (qi 60))]) (.cond 11 (.seq (.ai [qw (.store 1 2 qe),qw (.store 1 3 (qb false)),qw (.store 1 4 (qi 4))]) .ret) .skip)) (.seq (.ai [qu 5 (.alloc [.aI])]) (.seq (.seq (.ai [qm 12 0,qu 13 (qc 112 [12,(.c (.rv (.one (.aa (.val (.string ⟨#[47]⟩))))))])]) (.block 0 (.xd 13 14 (.ai [qm 6 14]) (.block 1 (.block 2 (.seq (.ai [qm 16 6,qu 17 (.aF .eql 16 (.c (.rv (.one (.aa (.val (.string ⟨#[]⟩))))))),qm 18 17,qg 19 (.aH 6) 18 false,qg 20 (.aF .eql 19 (.c (.rv (.one (.aa (.val (.string ⟨#[46]⟩))))))) 18 false,qu 21 (.pick 18 (qb true) 20),qm 15 21]) (.cond 15 .skip (.seq (.ai [qm 23 6,qu 24 (.aF .eql 23 (.c (.rv (.one (.aa (.val (.string ⟨#[46,46]⟩))))))),qm 25 24,qg 26 (.aH 6) 25 false,qg 27 (qc 113 [26]) 25 false,qu 28 (.pick 25 (qb true) 27),qm 22 28]) (.cond 22 (.ai [ql 29 5,qm 30 6,qu 31 (.ln 1 [(.aa (.val (.string ⟨#[]⟩)))] 1 [(0,30)]),qu 32 (.ni 1 16 29 31),qw (.store 1 5 32)]) (.seq (.ai [qw (.store 1 2 qe),qw (.store 1 3 (qb false)),qw (.store 1 4 (qi 7))]) .ret)))))))))) (.seq (.bX [ql 33 5,qm 34 0,qu 35 (.A3 34 (qi 0)),qu 36 (.aF .eql 35 (.c (.rv (.one (.aa (.val (.int .u8 (47)))))))),qw (.store 1 2 33),qw (.store 1 3 36),qw (.store 1 4 (qi 0))] [(.cons 0 none (.cons 1 none (.cons 2 none (.cons 3 none (.cons 4 (some []) (.cons 5 (some []) (.cons 6 (some []) .nil)))))))]) .ret))))))⟩
def c112:LF:= ⟨8,[.tmp 4],(.seq (.ai [qu 4 (.aH (.c (.rv (.one (.aa (.val .nilFunc))))))]) (.seq (.ai [qm 5 0,qm 6 1,qu 7 (qc 138 [5,6,qi 0]),qm 4 7]) .ret))⟩
def c138:LF:= ⟨8,[.tmp 6],(.seq (.ai [qu 3 (.box 0),qu 4 (.box 1),qu 5 (.box 2),qu 6 (.aH (.c (.rv (.one (.aa (.val .nilFunc))))))]) (.seq (.ai [qu 7 (.fn 154 [4,3,5]),qm 6 7]) .ret))⟩
namespace bP
theorem l138:bx Tryz.prog Tryz.f138=some c138:=by kernel_rfl
theorem l112:bx Tryz.prog Tryz.f112=some c112:=by kernel_rfl
def V9(s:ByteArray):Bk:= .var [.aa (.val (.string s))]
def sqM(s sep:ByteArray)(b0 b1 b2 b3:Bk):Mem:=[b0,b1,b2,b3,V9 s,V9 sep,.var [.aa (.val (.int .i64 0))]]
theorem ZO(s sep:ByteArray){b0 b1 b2 b3:Bk}{K:CV->Mem->Prop}(h:K (.rv (.one (.fn 154 [5,4,6]))) (sqM s sep b0 b1 b2 b3)):au Tryz.prog 138 [eK s,eK sep,an .i64 0] [b0,b1,b2,b3] K:=
 aX Tryz.func138 l138 h
theorem ZP(s sep:ByteArray){b0 b1 b2 b3:Bk}{K:CV->Mem->Prop}(h:K (.rv (.one (.fn 154 [5,4,6]))) (sqM s sep b0 b1 b2 b3)):au Tryz.prog 112 [eK s,eK sep] [b0,b1,b2,b3] K:=by refine aX Tryz.func112 l112 ?_;exact ZO s sep h
theorem v6(c:UInt8):∀t:dG,(gx c t).length<=t.length+1
 | []=>by simp[gx]
 |x::r=>by
  have ih:=v6 c r;simp only[gx];split
  .simp;exact ih
  .split
   .simp
   .rename_i h;rw[h]at ih;simp at ih⊢;omega
theorem bN(a b:List (List Dt)):af (a++b)=af a++af b:=by simp[af]
theorem O8(c:UInt8)(r:dG):decide ((c::r)[0]? =some 47)=((c.toNat:Int)==47):=by
 by_cases h:c=47
 .subst h;rfl
 .have h2:(c.toNat:Int)≠47:=by
   intro e;have e2:c.toNat=(47:UInt8).toNat:=by show c.toNat=47;omega
   exact h (UInt8.toNat_inj.1 e2)
  simp[h,h2]
theorem l73:bx Tryz.prog Tryz.f73=some c73:=by kernel_rfl
def tD(t:dG):List Dt:=[.val (.string (cK t))]
def X0(l:List dG):Dt:= .sl 1 (l.map tD)
def txV(l:List dG):CV:= .rv (.one (.aa (X0 l)))
def rz(w:dG):Bool:= !(decide (w=[])||decide (w=[46]))
def rA(w:dG):Bool:=decide (w=[])||decide (w=[46])||decide (w=[46,46])||fI w
def z8(t:dG):List dG:=(gx 47 t).filter rz
def cM(t:dG):List dG×Bool×Int:=
 if t=[]then([],false,2)else if 60<t.length then([],false,4)else if(gx 47 t).all rA then(z8 t,decide (t[0]? =some 47),0)else([],false,7)
def SE(p:List dG×Bool×Int):CV:= .bK [.one (.aa (X0 p.1)),.one (.aa (.val (.bool p.2.1))),.one (.aa (.val (.int .i64 p.2.2)))]
def pt(id:Nat):CV:= .rv (.one (.ptr id 0))
def O9(t:dG):List CV:=vT t:: .aq::pt 0::pt 1::pt 2::pt 3::fT 31 .aq
def SF:List dG->Mem
 | []=>[.var [.aI],.var [.aa (.val (.bool false))],.var [.aa (.val (.int .i64 0))],.var [.aI]]
 |x::r=>[.var [.aI],.var [.aa (.val (.bool false))],.var [.aa (.val (.int .i64 0))],.var [.row 4 1 0 none],.row 1 (af ((x::r).map tD))]
theorem EI{c:UInt8}{t:dG}{k:Nat}{y:ByteArray}(h:(gR c (cK t))[k]? =some y):∃w,(gx c t)[k]? =some w/\y=cK w:=by
 simp only[gR,o6,Q8]at h;cases hc:(gx c t)[k]? with
 |none=>rw[hc]at h;cases h
 |some w=>rw[hc]at h;cases h;exact⟨w,rfl,rfl⟩
theorem lW{m:Mem}{c:CC}{l:List dG}{b:Bool}{e:Int}(h:d9 m c (.aa (X0 l))):cJ m (.bK [.one c,.one (.aa (.val (.bool b))),.one (.aa (.val (.int .i64 e)))]) (SE (l,b,e)):=by
 refine .bK rfl fun i r r' h1 h2=>?_
 match i with
 |0=>cases h1;cases h2;exact .one h
 |1=>cases h1;cases h2;exact .one (.aa _)
 |2=>cases h1;cases h2;exact .one (.aa _)
 |n+3=>simp at h1
theorem EJ(t:dG):body Tryz.prog c73 [vT t] [] (fun r m=>cJ m r (SE (cM t))):=by
 refine kW (b:=[]) (fun h=>?_) (fun h0=>?_)
 .subst h;exact lW (.aI 1)
 refine ay (fun h=>?_) (fun h1=>?_)
 .rw[fY]at h;have:cM t=([],false,4):=by rw[cM,if_neg h0,if_pos om]
  rw[this];exact lW (.aI 1)
 rw[fY]at h1;refine ZP (cK t) ⟨#[47]⟩ ?_;refine⟨154,[5,4,6],[.string ⟨#[47]⟩,.string (cK t),.int .i64 0],gR 47 (cK t),List dG,fun k out=>out=((gx 47 t).take k).filter rz/\((gx 47 t).take k).all rA=true,fun out=>⟨O9 t,SF out⟩,rfl,
  ⟨⟨rfl,rfl⟩,⟨rfl,rfl⟩,⟨rfl,rfl⟩,trivial⟩,⟨by decide,aG⟩,IF (cK t) 47 (by rw[fY];omega),⟨[],⟨aG,aG⟩,?_⟩,?_,?_⟩
 .refine View.o1 7 [0,1,2,3] [] ?_
  .repeat(first|exact .nil _|refine .put (by simp[bz]) rfl (.eq rfl aG) ?_)
 .intro k y out hk hJ;obtain⟨w,hw,rfl⟩:=EI hk;obtain⟨ho,hg⟩:=hJ;have LG:(gx 47 t).take (k+1)=(gx 47 t).take k++ [w]:=by rw[abM,hw];rfl
  have skip:w=[]\/w=[46]->out=((gx 47 t).take (k+1)).filter rz/\((gx 47 t).take (k+1)).all rA=true:=by
   intro h;rw[LG,ac9,List.all_append,<-ho,hg];rcases h with rfl|rfl<;>simp[rz,rA]
  have eS:w≠[]->w≠[46]->(w=[46,46]\/fI w=true)->out++ [w]=((gx 47 t).take (k+1)).filter rz/\((gx 47 t).take (k+1)).all rA=true:=by
   intro h1 h2 h3;rw[LG,ac9,List.all_append,<-ho,hg];rcases h3 with rfl|h3
   .simp[rz,rA]
   .simp[rz,rA,h1,h2,h3]
  have bad:w≠[]->w≠[46]->w≠[46,46]->fI w=false->cM t=([],false,7):=by
   intro h1 h2 h3 h4;have:(gx 47 t).all rA=false:=by
    rw[List.all_eq_false];exact⟨w,Rq hw,by simp[rA,h1,h2,h3,h4]⟩
   rw[cM,if_neg h0,if_neg om,this];rfl
  have hlen:out.length<=61:=by
   rw[ho];have h2:=ack rz ((gx 47 t).take k);have h3:=v6 47 t;have h4:((gx 47 t).take k).length<=(gx 47 t).length:=by rw[Z4];omega
   omega
  clear ho hg LG hk;cases out with
  |nil=>
   have dn:View 0 ⟨O9 t,SF []⟩ ⟨O9 t,SF []⟩:=by
    refine View.o1 4 [0,1,2,3] [] ?_
    .repeat(first|exact .nil _|refine .put (by simp[bz]) rfl (.eq rfl aG) ?_)
   have iC:∀m,m=([.var [.aI],.var [.aa (.val (.bool false))],.var [.aa (.val (.int .i64 0))],.var [.row 5 1 0 none],.aW,.row 1 ([]++ [[.aa (.val (.string (cK w)))]])]:Mem)->View 0 ⟨O9 t,m⟩ ⟨O9 t,SF ([]++ [w])⟩:=by
    rintro m rfl;refine View.o1 6 [0,1,2,3,5] [] ?_
    .repeat(first|exact .nil _|refine .put (by simp[bz]) rfl (.eq rfl aG) ?_)
   refine kW (b:=[]) (fun e1=>?_) (fun e1=>?_)
   .exact⟨[],skip (.inl e1),dn⟩
   refine kW (b:=[46]) (fun e2=>?_) (fun e2=>?_)
   .exact⟨[],skip (.inr e2),dn⟩
   refine kW (b:=[46,46]) (fun e3=>?_) (fun e3=>?_)
   .exact⟨(show 1*16<=140737488355328 by omega),_,eS e1 e2 (.inl e3),iC _ rfl⟩
   .refine z7 w ?_;refine aC (fun e4=>?_) (fun e4=>?_)
    .exact⟨(show 1*16<=140737488355328 by omega),_,eS e1 e2 (.inr e4),iC _ rfl⟩
    .rw[bad e1 e2 e3 e4];exact lW (.aI 1)
  |cons x r=>
   have dn:View 0 ⟨O9 t,SF (x::r)⟩ ⟨O9 t,SF (x::r)⟩:=by
    refine View.o1 5 [0,1,2,3,4] [] ?_
    .refine .put (by simp[bz]) rfl (.eq rfl aG) (.put (by simp[bz]) rfl (.eq rfl aG) (.put (by simp[bz]) rfl (.eq rfl aG) (.put (by simp[bz]) rfl (.eq rfl aG) (.put (by simp[bz]) rfl (.bM rfl) (.nil _)))))
   have iC:∀m,m=([.var [.aI],.var [.aa (.val (.bool false))],.var [.aa (.val (.int .i64 0))],.var [.row 6 1 0 none],.aW,.aW,.row 1 (af ((x::r).map tD)++ [[.aa (.val (.string (cK w)))]])]:Mem)->View 0 ⟨O9 t,m⟩ ⟨O9 t,SF ((x::r)++ [w])⟩:=by
    rintro m rfl;refine View.o1 7 [0,1,2,3,6] [] ?_
    .refine .put (by simp[bz]) rfl (.eq rfl aG) (.put (by simp[bz]) rfl (.eq rfl aG) (.put (by simp[bz]) rfl (.eq rfl aG) (.put (by simp[bz]) rfl (.eq rfl aG) (.put (by simp[bz]) rfl (.bM ?_) (.nil _)))))
     show _=af (((x::r)++ [w]).map tD);rw[abn,bN];rfl
   have lJ:((af ((x::r).map tD)).length+1)*16<=140737488355328:=by simp[af];simp at hlen;omega
   refine kW (b:=[]) (fun e1=>?_) (fun e1=>?_)
   .exact⟨_,skip (.inl e1),dn⟩
   refine kW (b:=[46]) (fun e2=>?_) (fun e2=>?_)
   .exact⟨_,skip (.inr e2),dn⟩
   refine kW (b:=[46,46]) (fun e3=>?_) (fun e3=>?_)
   .exact⟨lJ,_,eS e1 e2 (.inl e3),iC _ rfl⟩
   .refine z7 w ?_;refine aC (fun e4=>?_) (fun e4=>?_)
    .exact⟨lJ,_,eS e1 e2 (.inr e4),iC _ rfl⟩
    .rw[bad e1 e2 e3 e4];exact lW (.aI 1)
 .intro out hJ;obtain⟨ho,hg⟩:=hJ;have fW:(gR 47 (cK t)).length=(gx 47 t).length:=by simp[gR]
  rw[fW,abp]at ho hg;have hs:cM t=(out,decide (t[0]? =some 47),0):=by rw[cM,if_neg h0,if_neg om,hg];simp[z8,ho]
  rw[hs];obtain⟨c,r,rfl⟩:∃c r,t=c::r:=by
   cases t with
   |nil=>exact absurd rfl h0
   |cons c r=>exact⟨c,r,rfl⟩
  have hc:decide ((c::r)[0]? =some 47)=((c.toNat:Int)==47):=O8 c r;cases out with
  |nil=>
   rw[hc];refine⟨trivial,trivial,trivial,?_⟩;exact lW (l:=[]) (c:= .aI) (.aI 1)
  |cons x r=>
   rw[hc];refine⟨trivial,trivial,trivial,?_⟩;exact lW (l:=x::r) (c:= .row 4 1 0 none) (d9.dJ (ds:=(x::r).map tD) rfl 0 none)
theorem v7(t:dG){m:Mem}{K:CV->Mem->Prop}(h:K (SE (cM t)) m):au Tryz.prog 73 [vT t] m K:=
 be (aX Tryz.func73 l73 (EJ t)) (by simp[vT,eK,CV.dm,CC.dm]) fun r m1 hf=>⟨_,hf,h⟩
end bP
namespace bP
theorem aU(l:List (List Dt)):(af l).length=l.length:=by simp[af]
end bP
def ZQ:Ob:=⟨0,[],[],⟨#[]⟩,0,noD,0,0,0⟩
def lg(l:List Ob)(n:Nat):Ob:=(l[n]?).getD ZQ
theorem sN{l:List Ob}{n:Nat}(h:n<l.length):lg l n=l[n]:=by rw[lg,IE h];rfl
structure R4 where
 bD:Int
 cT:Int
 name:bP.dG
 js:Int
def R4.no(e:Int):R4:=⟨0,0,[],e⟩
def iw(o:Ob):List NE:=o.ak.map nq
def l3(l:List Ob)(dh:Nat)(w:bP.dG):Int:=fE (iw (lg l dh)) (bP.cK w)
def Aa(l:List Ob)(dh:Nat):Nat:=(lg l dh).up.toNat
def GR(l:List Ob)(aA:Nat)(aE follow:Bool)(rec:Nat->List bP.dG->Nat->R4):List bP.dG->Nat->R4
 | [],a=>⟨a,Aa l a,[],0⟩
 |w::rest,a=>
  if(lg l a).ah≠2 then R4.no 11
  else if w=[46,46]then(if aE=true/\a=aA then R4.no 14 else GR l aA aE follow rec rest (Aa l a))
  else if l3 l a w<0 then(if rest≠[]then R4.no 6 else⟨-1,a,w,0⟩)
  else if(lg l (l3 l a w).toNat).ah=3/\(follow=true\/rest≠[])then rec a rest (l3 l a w).toNat
  else if rest=[]then⟨l3 l a w,a,w,0⟩
  else GR l aA aE follow rec rest (l3 l a w).toNat
def Mj(l:List Ob)(k:Nat):bP.dG:=(lg l k).target.data.toList
def Pa(l:List Ob)(aE:Bool)(wk:List bP.dG->Nat->R4)(a:Nat)(rest:List bP.dG)(k:Nat):R4:=
 if(bP.cM (Mj l k)).2.2≠0 then R4.no (bP.cM (Mj l k)).2.2
 else if(bP.cM (Mj l k)).2.1=true/\aE=true then R4.no 14
 else wk ((bP.cM (Mj l k)).1++rest) (if(bP.cM (Mj l k)).2.1=true then 0 else a)
def AZ(l:List Ob)(aA:Nat)(aE follow:Bool):Nat->List bP.dG->Nat->R4
 |0=>GR l aA aE follow fun _ _ _=>R4.no 13
 |n+1=>GR l aA aE follow (Pa l aE (AZ l aA aE follow n))
def pB(l:List Ob)(aA:Int)(s:bP.dG)(aE follow:Bool):R4:=
 if oc l aA 0=true then
  if(lg l aA.toNat).ah≠2 then R4.no 11
  else if(bP.cM s).2.2≠0 then R4.no (bP.cM s).2.2
  else if(bP.cM s).2.1=true/\aE=true then R4.no 14
  else AZ l aA.toNat aE follow 6 (bP.cM s).1 (if(bP.cM s).2.1=true then 0 else aA.toNat)
 else R4.no 6
structure m6(l:List Ob):Prop where
 len:l.length<=64
 pos:0<l.length
 en:∀o,o∈l->VN l.length o.ah o.ak
 ne:∀o,o∈l->o.ak.length<=64
 up:∀o,o∈l->0<=o.up/\o.up<l.length
theorem m6.SG{l:List Ob}(h:m6 l)(n:Nat):Aa l n<l.length:=by
 rw[Aa,lg];cases hn:l[n]? with
 |none=>show(0:Int).toNat<l.length;have:=h.pos;simpa using this
 |some o=>have:=h.up o (Rq hn);show o.up.toNat<l.length;omega
theorem m6.Ml{l:List Ob}(h:m6 l){n:Nat}(hn:n<l.length):l[n].up=(Aa l n:Nat):=by rw[Aa,sN hn];have:=h.up _ (Z0 hn);omega
theorem m6.d7{l:List Ob}(h:m6 l)(n:Nat):Ea (iw (lg l n))/\(∀e,e∈iw (lg l n)->0<=e.2/\e.2<(l.length:Int))/\(iw (lg l n)).length<=64/\∀hn:n<l.length,l[n].ak=(iw (lg l n)).map eG:=by
 rw[lg];cases hn:l[n]? with
 |none=>
  refine⟨List.Pairwise.nil,by simp[iw,ZQ],by simp[iw,ZQ],fun h=>?_⟩
  rw[IE h]at hn;cases hn
 |some o=>
  obtain⟨es,h1,h2,h3,h4⟩:=(h.en o (Rq hn)).ex;have h5:iw o=es:=by rw[iw,h1,mW]
  show Ea (iw o)/\(∀e,e∈iw o->_)/\(iw o).length<=64/\∀hn:n<l.length,l[n].ak=(iw o).map eG;rw[h5];refine⟨h2,h3,?_,fun h=>?_⟩
  .have:=h.ne o (Rq hn);rw[h1,Nq]at this;exact this
  .rw[IE h]at hn;cases hn;exact h1
theorem m6.SH{l:List Ob}(h:m6 l)(n:Nat)(w:bP.dG)(hf:¬l3 l n w<0):∃k:Nat,l3 l n w=k/\k<l.length:=by
 obtain⟨_,h2,_,_⟩:=h.d7 n;rcases jo (iw (lg l n)) (bP.cK w)with⟨e,he,_,h3⟩|⟨h3,_⟩
 .obtain⟨h4,h5⟩:=h2 e he;exact⟨e.2.toNat,by rw[l3,h3];omega,om⟩
 .rw[l3,h3]at hf;omega
theorem Mm{a b:ByteArray}:kV a b<0↔zI a b:=by
 unfold kV zI;by_cases h:Q4 a b=true
 .rw[if_pos h];exact⟨fun _=>h,fun _=>om⟩
 .rw[if_neg h];refine⟨fun h2=>?_,fun h2=>absurd h2 h⟩
  split at h2<;>omega
theorem v8{a b:ByteArray}:kV a b=0↔a.toList=b.toList:=by
 unfold kV;by_cases h:Q4 a b=true
 .rw[if_pos h];refine⟨fun h2=>om,fun h2=>?_⟩
  rw[Q4,h2,oa]at h;cases h
 .rw[if_neg h];rw[acC]at h;by_cases h2:Ud a b=true
  .rw[if_pos h2];refine⟨fun h3=>om,fun h3=>?_⟩
   unfold Ud at h2;rw[h3]at h2;simp at h2
  .rw[if_neg h2];refine⟨fun _=>?_,fun _=>rfl⟩
   unfold Ud at h2;unfold Q4 at h;rw[h]at h2;simpa using h2
theorem ov{es:List NE}(hs:Ea es)(s:ByteArray):∀(n i j:Nat),j-i<=n->i<=j->j<=es.length->(∀(k:Nat)e,k<i->es[k]? =some e->zI e.1 s)->(∀(k:Nat)e,j<=k->es[k]? =some e->¬zI e.1 s)->
  IB es s n i j<=es.length/\(∀(k:Nat)e,k<IB es s n i j->es[k]? =some e->zI e.1 s)/\∀(k:Nat)e,IB es s n i j<=k->es[k]? =some e->¬zI e.1 s
 |0,i,j,hn,qy,hj,h1,h2=>by have:i=j:=om;subst this;exact⟨hj,h1,h2⟩
 |n+1,i,j,hn,qy,hj,h1,h2=>by
  rw[IB];by_cases aB:i<j
  .rw[if_pos aB];have hh:(i+j)/2<es.length:=om;rw[IE hh];simp only[];have hp:=ab6.1 hs;by_cases hc:kV es[(i+j)/2].1 s<0
   .rw[if_pos hc];refine ov hs s n _ _ om om hj (fun k e hk he=>?_) h2
    have fU:=Mm.1 hc;obtain⟨fj,rfl⟩:=Mh.1 he;rcases ZX k ((i+j)/2)with h3|h3
    .exact rl (hp k _ fj hh h3) fU
    .have:k=(i+j)/2:=om;subst this;exact fU
   .rw[if_neg hc];refine ov hs s n _ _ om om om h1 fun k e hk he hl=>?_
    have fU:¬zI es[(i+j)/2].1 s:=fun h=>hc (Mm.2 h)
    obtain⟨fj,rfl⟩:=Mh.1 he;rcases ZX ((i+j)/2) k with h3|h3
    .exact fU (rl (hp _ k hh fj h3) hl)
    .have:k=(i+j)/2:=om;subst this;exact fU hl
  .rw[if_neg aB];have:i=j:=om;subst this;exact⟨hj,h1,h2⟩
theorem GS{es:List NE}(hs:Ea es)(s:ByteArray):zJ es s (if zX es s=true then(match es[p6 es s]? with|some e=>e.2|none=>0)else -1):=by
 obtain⟨h0,h1,h2⟩:=ov hs s es.length 0 es.length om om om (fun k e hk=>absurd hk (abb k)) (fun k e hk he=>by have:=(Mh.1 he).1;omega)
 have hI:IB es s es.length 0 es.length=p6 es s:=rfl;rw[hI]at h0 h1 h2;unfold zX;cases he:es[p6 es s]? with
 |none=>
  simp only[];rw[if_neg aG];refine .inr ⟨rfl,fun e hm heq=>?_⟩
  obtain⟨k,hk⟩:=Xf hm;have fj:=(Mh.1 hk).1;have:es.length<=p6 es s:=ab0.1 he;have:=h1 k e om hk;rw[zI,heq,oa]at this;cases this
 |some e=>
  simp only[];by_cases hc:kV e.1 s=0
  .rw[if_pos (by rw[hc];rfl)]
   exact .inl ⟨e,Rq he,v8.1 hc,rfl⟩
  .rw[if_neg (by simpa using hc)]
   refine .inr ⟨rfl,fun e' hm heq=>?_⟩
   obtain⟨k,hk⟩:=Xf hm;obtain⟨fj,uj⟩:=Mh.1 hk;obtain⟨JU,mU⟩:=Mh.1 he;rcases acN k (p6 es s)with h3|h3|h3
   .have:=h1 k e' h3 hk;rw[zI,heq,oa]at this;cases this
   .subst h3;rw[he]at hk;cases hk;exact hc (v8.2 heq)
   .have hp:=ab6.1 hs _ k JU fj h3;rw[mU,uj]at hp;have ld:=h2 _ e (SS _) he;apply ld;rw[zI,<-heq];exact hp
theorem Ab(d:List (List Dt))(hb:d.length<=4194304):body Tryz.prog c104 [rf 1 d] [] (fun r m=>∃r' m',View 0 ⟨[r],m⟩ ⟨[r'],m'⟩/\r'= .rv (.one (.row 0 1 0 none))/\m'=[.row 1 (af d)]):=by
 have lJ:((([]:List (List CC)).length+(d.map fun ds=>ds.map CC.aa).length)*1)<=140737488355328:=by simp;omega
 have iC:∃r' m',View 0 ⟨[CV.rv (.one (.row 1 1 0 none))],[.aW,.row 1 (cD ([]:List (List CC)) 0 none++d.map fun ds=>ds.map CC.aa)]⟩ ⟨[r'],m'⟩/\r'=CV.rv (.one (.row 0 1 0 none))/\m'=[Bk.row 1 (af d)]:=
  ⟨_,_,View.o 2 [1] [] (.eq rfl .nil) (.pn rfl rfl rfl),rfl,rfl⟩
 refine aC (fun h=>?_) (fun h=>?_)
 .have hd:d=[]:=Z1 (by simpa using Z2 h)
  refine⟨?_,lJ,iC⟩;subst hd;exact⟨_,_,View.aI 0 1 0 rfl rfl rfl,rfl,rfl⟩
 .exact⟨lJ,iC⟩
theorem gS(σ:Nat->Nat)(ds:List (List Dt)):(af ds).map (fun cs=>cs.map (CC.aO σ))=af ds:=by simp[af,acf,CC.aO]
theorem EK(d:List (List Dt))(hb:d.length<=4194304){m:Mem}{K:CV->Mem->Prop}(h:K (.rv (.one (.row m.length 1 0 none))) (m++ [.row 1 (af d)])):au Tryz.prog 104 [rf 1 d] m K:=by
 refine bu [] m.length rfl rfl rfl rfl (args0:=[rf 1 d]) rfl (fun i b' hi=>by simp at hi) (K0:=fun r m=>r= .rv (.one (.row 0 1 0 none))/\m=[.row 1 (af d)]) (bJ (aX Tryz.func104 l104 (Ab d hb)) fun r m1 h=>h) (fun r m1 hr=>?_)
 obtain⟨rfl,rfl⟩:=hr;refine⟨Wi _,?_⟩;show K (.rv (.one (.row (m.length+(0-0)) 1 0 none))) (gh m [.row 1 ((af d).map (fun cs=>cs.map (CC.aO (sg [] m.length))))])
 rw[gS,b9];exact h
def nG(Q:Nat)(o:Obj):List CC:=[.aa (.val (.int .i64 o.ah)),.row Q 1 0 none,.aa (.sl 2 o.ak),.aa (.val (.string o.target)),.aa (.val (.int .i64 o.aD)),
 .aa (.sl 4 (o.aj.map bw.enc)),.aa (.val (.int .i64 o.aM)),.aa (.val (.int .i64 o.am)),.aa (.val (.int .i64 o.up))]
def ZR(o:Obj):Nat->Mem
 |0=>[.row 9 [],.aW]
 |_+1=>[.row 9 [nG 1 o],.row 1 (af o.data)]
theorem IG(o:Obj)(hf:o.mL):body Tryz.prog c105 [b8 [o]] [] (fun r m=>r= .rv (.one (.row 0 9 0 none))/\m=[.row 9 [nG 1 o],.row 1 (af o.data)]):=by
 obtain⟨ah,data,ak,target,aD,aj,aM,am,up⟩:=o;obtain⟨Lh,D6,N2,JX⟩:=hf;have Lh:data.length<=4194304:=Lh;have D6:ak.length<=4194304:=D6;have N2:aj.length<=4194304:=N2;have JX:∀q,q∈aj->q.data.length<=4194304:=JX;refine aK (fun k=>k<=1) [0,9,10] (fun k=>[(11,an .i64 (k:Nat)),(3,.rv (.one (.row 0 9 0 none)))]) (ZR ⟨ah,data,ak,target,aD,aj,aM,am,up⟩) (fun k=>1-k) 0 (Wi _) ?_ (fun k hk=>?_)
 .refine View.trans (View.aI 2 4 0 rfl rfl rfl) (View.trans (View.aI 3 9 1 rfl rfl rfl) (View.o1 2 [1,0] [] ?_))
  .exact .put (by simp[bz]) rfl (.eq rfl aG) (.aW (.nil _))
 have hk:k<=1:=hk
 match k,hk with
 |0,_=>
  refine EK data Lh ?_;refine⟨⟨rfl,trivial⟩,?_⟩;refine sq ak D6 ?_;refine⟨trivial,?_⟩;refine⟨trivial,?_⟩;refine⟨trivial,?_⟩;refine aK (fun j=>j<=aj.length) [0,3,5,9,10,11,24,25] (fun j=>[(26,an .i64 (j:Nat)),(6,.rv (.one (.row 4 4 0 none)))])
    (fun j=>[.row 9 [],.aW,.var (nG 3 ⟨ah,data,ak,target,aD,aj,aM,am,up⟩),.row 1 (af data),.row 4 (af ((aj.take j).map bw.enc))]) (fun j=>aj.length-j) 0 (Wi _) ?_ (fun j hj=>?_)
  .refine View.trans (View.aI 6 4 4 rfl rfl rfl) (View.o1 5 [0,1,2,3,4] [] ?_)
   .exact .pe rfl rfl rfl (.aW (.pe rfl rfl rfl (.pr rfl rfl rfl (.pn rfl rfl rfl))))
  have hj:j<=aj.length:=hj;refine ay (fun h=>?_) (fun h=>?_)
  .have da:j<aj.length:=by have h:(j:Int)<((aj.map bw.enc).length:Int):=h;rw[Nq]at h;omega
   have xn:=IE da;have Ih:=JX _ (Z0 da);generalize aj[j]=q at xn Ih;obtain⟨qd,qh,qo,qr⟩:=q;have pz:cR (aj.map bw.enc) (j:Nat)=some [.sl 1 qd,.val (.bool qh),.val (.int .i64 qo),.val (.int .i64 qr)]:=by rw[bn,Q8,xn];rfl
   refine ag pz ?_;refine gZ qd Ih ?_;refine⟨?_,?_⟩
   .show((af ((aj.take j).map bw.enc)).length+1)*48<=_;simp[af];omega
   refine⟨j+1,da,(show aj.length-(j+1)<aj.length-j by omega),View.o 8 [0,1,2,3,7] [] ?_ ?_⟩
   .repeat(first|exact .nil|refine .aq ?_|refine .put (.aO (ap om).symm) ?_|refine .eq rfl ?_)
   .refine .pe rfl rfl rfl (.aW (.pe rfl rfl rfl (.pr rfl rfl rfl (.pt rfl rfl (.bM ?_) (.nil _)))));rw[py xn,abn,bN];rfl
  .have ew:¬(j:Int)<((aj.map bw.enc).length:Int):=h;rw[Nq]at ew;have hq:aj.take j=aj:=abS om;refine⟨by show(0+1)*128<=140737488355328;omega,?_⟩
   refine⟨1,SS 1,(show 1-1<1-0 by omega),View.o 7 [6,3] [4] ?_ ?_⟩
   .repeat(first|exact .nil|refine .aq ?_|refine .put (.aO (ap om).symm) ?_|refine .eq rfl ?_)
   .refine .pt rfl rfl (mK.zE (R:=[]) (R':=[]) rfl rfl ?_) (.pn rfl rfl rfl);intro j' c c' h1 h2;have e5:nG 1 ⟨ah,data,ak,target,aD,aj,aM,am,up⟩=[.aa (.val (.int .i64 ah)),.row 1 1 0 none,.aa (.sl 2 ak),.aa (.val (.string target)),.aa (.val (.int .i64 aD)),.aa (.sl 4 ((aj.take j).map bw.enc)),.aa (.val (.int .i64 aM)),.aa (.val (.int .i64 am)),.aa (.val (.int .i64 up))]:=by simp[nG,hq]
    rw[e5]at h2
    match j',h1,h2 with
    |0,h1,h2=>cases h1;cases h2;exact .aO (.aa _)
    |1,h1,h2=>cases h1;cases h2;exact .aO (.row 1 1 0 none)
    |2,h1,h2=>cases h1;cases h2;exact .aO (.aa _)
    |3,h1,h2=>cases h1;cases h2;exact .aO (.aa _)
    |4,h1,h2=>cases h1;cases h2;exact .aO (.aa _)
    |5,h1,h2=>cases h1;cases h2;exact .e8 (dC.dJ (Z:=fun k=>bz [4] k=true) rfl (by rw[<-aZ];rfl) 0 none)
    |6,h1,h2=>cases h1;cases h2;exact .aO (.aa _)
    |7,h1,h2=>cases h1;cases h2;exact .aO (.aa _)
    |8,h1,h2=>cases h1;cases h2;exact .aO (.aa _)
    |n+9,h1,h2=>simp at h1
 |1,_=>exact⟨rfl,rfl⟩
theorem Mn{σ:Nat->Nat}(Q:Nat)(o:Obj):(nG Q o).map (CC.aO σ)=nG (σ Q) o:=by simp[nG,CC.aO]
theorem Pb(o:Obj)(hf:o.mL){m:Mem}{K:CV->Mem->Prop}(h:K (.rv (.one (.row m.length 9 0 none))) (m++ [.row 9 [nG (m.length+1) o],.row 1 (af o.data)])):au Tryz.prog 105 [b8 [o]] m K:=by
 refine bu [] m.length rfl rfl rfl rfl rfl (fun i b' hi=>by simp at hi) (aX Tryz.func105 l105 (IG o hf)) (fun r m1 hr=>?_)
 obtain⟨rfl,rfl⟩:=hr;refine⟨Wi _,?_⟩;show K (.rv (.one (.row (m.length+(0-0)) 9 0 none))) (gh m [.row 9 [(nG 1 o).map (CC.aO (sg [] m.length))],.row 1 ((af o.data).map (fun cs=>cs.map (CC.aO (sg [] m.length))))])
 rw[Mn,gS,b9];exact h
def c64:LF:= ⟨43,[.tmp 6,.tmp 7],(.seq (.ai [qu 3 (.box 0),qu 6 (.aH qe),qu 7 (.aH (qi 0))]) (.seq (.block 0 (.seq (.ai [qf 10 0 3,ql 11 10,qu 12 (.aF .eql 11 (qi 2)),qm 9 12]) (.cond 9 (.seq (.ai [qu 6 (.aH qe),qu 7 (.aH (qi 12))]) .ret) (.seq (.ai [qf 14 0 3,ql 15 14,qu 16 (.aF .neq 15 (qi 1)),qm 13 16]) (.cond 13 (.seq (.ai [qu 6 (.aH qe),qu 7 (.aH (qi 8))]) .ret) (.seq (.ai [qm 18 1,qu 19 (.aF .lss 18 (qi 0)),qm 20 19,qg 21 (.aH 2) 20 false,qg 22 (.aF .lss 21 (qi 0)) 20 false,qu 23 (.pick 20 (qb true) 22),qm 17 23]) (.cond 17 (.seq (.ai [qu 6 (.aH qe),qu 7 (.aH (qi 3))]) .ret) .skip))))))) (.seq (.ai [qm 24 1,qf 25 1 3,ql 26 25,qu 27 (.len 1 26),qu 28 (.ij false [24,27]),qm 8 28]) (.seq (.ai [qf 29 1 3,ql 30 29,qm 31 8,qm 32 8,qm 33 2,qf 34 1 3,ql 35 34,qu 36 (.len 1 35),qm 37 8,qu 38 (.aF .sub 36 37),qu 39 (.ij false [33,38]),qu 40 (.aF .add 32 39),qu 41 (.nh 1 30 (some 31) (some 40) none),qu 42 (qc 104 [41]),qm 6 42,qu 7 (.aH (qi 0))]) .ret))))⟩
theorem l64:bx Tryz.prog Tryz.f64=some c64:=by kernel_rfl
def fg(a b:Nat):Nat:=if b<a then b else a
theorem rB(a b:Nat):(if(b:Int)<(a:Int)then(b:Int)else(a:Int))=((fg a b:Nat):Int):=by unfold fg;split<;>split<;>omega
theorem m7(a b:Nat):fg a b<=a/\fg a b<=b:=by unfold fg;split<;>omega
def IH(d:List (List Dt))(dh n:Nat):List (List Dt):=(d.take (fg dh d.length+fg n (d.length-fg dh d.length))).drop (fg dh d.length)
def ju(ah:Int)(d:List (List Dt))(dh n:Int):List (List Dt)×Int:=
 if ah=2 then([],12)else if ah≠1 then([],8)else if dh<0\/n<0 then([],3)else(IH d dh.toNat n.toNat,0)
def ZS(d:List (List Dt)):RV:= .one (.aa (.sl 1 d))
def c65:LF:= ⟨68,[.cell true 9 6,.tmp 7],(.seq (.ai [qu 3 (.box 0),qu 6 (.alloc [qd 0,.aI,.aI,(.aa (.val (.string ⟨#[]⟩))),qd 0,.aI,qd 0,qd 0,qd 0]),qu 7 (.aH (qi 0))]) (.seq (.block 0 (.seq (.ai [qf 10 0 3,ql 11 10,qu 12 (.aF .eql 11 (qi 2)),qm 9 12]) (.cond 9 (.seq (.ai [qu 13 (.build [qd 0,.aI,.aI,(.aa (.val (.string ⟨#[]⟩))),qd 0,.aI,qd 0,qd 0,qd 0] []),qw (.store 9 6 13),qu 7 (.aH (qi 12))]) .ret) (.seq (.ai [qf 15 0 3,ql 16 15,qu 17 (.aF .neq 16 (qi 1)),qm 14 17]) (.cond 14 (.seq (.ai [qu 18 (.build [qd 0,.aI,.aI,(.aa (.val (.string ⟨#[]⟩))),qd 0,.aI,qd 0,qd 0,qd 0] []),qw (.store 9 6 18),qu 7 (.aH (qi 8))]) .ret) (.seq (.ai [qm 20 1,qu 21 (.aF .lss 20 (qi 0)),qm 19 21]) (.cond 19 (.seq (.ai [qu 22 (.build [qd 0,.aI,.aI,(.aa (.val (.string ⟨#[]⟩))),qd 0,.aI,qd 0,qd 0,qd 0] []),qw (.store 9 6 22),qu 7 (.aH (qi 3))]) .ret) (.seq (.ai [qm 24 1,qu 25 (.aF .gtr 24 (qi 60)),qm 26 25,qg 27 (.aH 2) 26 false,qg 28 (.len 1 27) 26 false,qg 29 (.aH 1) 26 false,qg 30 (.aF .sub (qi 60) 29) 26 false,qg 31 (.aF .gtr 28 30) 26 false,qu 32 (.pick 26 (qb true) 31),qm 23 32]) (.cond 23 (.seq (.ai [qu 33 (.build [qd 0,.aI,.aI,(.aa (.val (.string ⟨#[]⟩))),qd 0,.aI,qd 0,qd 0,qd 0] []),qw (.store 9 6 33),qu 7 (.aH (qi 15))]) .ret) .skip))))))))) (.seq (.ai [qL 34 9 3,qu 35 (.ln 9 [qd 0,.aI,.aI,(.aa (.val (.string ⟨#[]⟩))),qd 0,.aI,qd 0,qd 0,qd 0] 1 [(0,34)]),qu 36 (qc 105 [35]),qu 37 (.bW 9 36 (qi 0)),qL 38 9 37,qu 8 (.alloc [qd 0,.aI,.aI,(.aa (.val (.string ⟨#[]⟩))),qd 0,.aI,qd 0,qd 0,qd 0]),qw (.store 9 8 38)]) (.seq (.block 1 (.loop (.seq (.seq (.ai [qf 39 1 8,ql 40 39,qu 41 (.len 1 40),qm 42 1,qm 43 2,qu 44 (.len 1 43),qu 45 (.aF .add 42 44),qu 46 (.aF .lss 41 45),qm 47 46,qg 48 (.aH 2) 47 true,qg 49 (.len 1 48) 47 true,qg 50 (.aF .gtr 49 (qi 0)) 47 true,qu 51 (.pick 47 50 (qb false))]) (.cond 51 .skip (.exit 1))) (.block 2 (.ai [qf 52 1 8,ql 53 52,qu 54 (.ln 1 [(.aa (.val (.int .u8 (0))))] 1 [(0,(.c (.rv (.one (.aa (.val (.int .u8 (0))))))))]),qu 55 (.ni 1 1 53 54),qf 56 1 8,qw (.store 1 56 55)]))))) (.cu (.seq (.ai [qf 57 1 8,ql 58 57,qm 59 1,qf 60 1 8,ql 61 60,qu 62 (.len 1 61),qu 63 (.ij false [59,62]),qu 64 (.nh 1 58 (some 63) none none),qm 65 2,qu 66 (.copy 1 64 65)]) (.seq (.ai [qL 67 9 8,qw (.store 9 6 67),qu 7 (.aH (qi 0))]) .ret)))))))⟩
theorem l65:bx Tryz.prog Tryz.f65=some c65.er:=by kernel_rfl
def zb:List Dt:=[.val (.int .u8 0)]
def SI(d:List (List Dt))(n:Nat):List (List Dt):=d++List.replicate (n-d.length) zb
def pC(d:List (List Dt))(A:Nat)(b:List (List Dt)):List (List Dt):=if b.length=0 then d else cV (SI d (A+b.length)) A b
def Mo:Obj:=⟨0,[],[],⟨#[]⟩,0,[],0,0,0⟩
def II(o:Obj):RV:= .agg (o.enc.map .aa)
def eV(o:Obj)(dh:Int)(b:List (List Dt)):Obj×Int:=
 if o.ah=2 then(Mo,12)else if o.ah≠1 then(Mo,8)else if dh<0 then(Mo,3)else if dh>60\/(b.length:Int)>60-dh then(Mo,15)
 else({o with data:=pC o.data dh.toNat b},0)
def rC:List CC:=[.aa (.val (.int .i64 0)),.aI,.aI,.aa (.val (.string ⟨#[]⟩)),.aa (.val (.int .i64 0)),.aI,.aa (.val (.int .i64 0)),.aa (.val (.int .i64 0)),.aa (.val (.int .i64 0))]
theorem ow{m:Mem}:eT m (.agg rC) (II Mo):=by
 refine .agg rfl fun i c c' h1 h2=>?_
 match i,h1,h2 with
 |0,h1,h2=>cases h1;cases h2;exact .aa _
 |1,h1,h2=>cases h1;cases h2;exact .aI 1
 |2,h1,h2=>cases h1;cases h2;exact .aI 2
 |3,h1,h2=>cases h1;cases h2;exact .aa _
 |4,h1,h2=>cases h1;cases h2;exact .aa _
 |5,h1,h2=>cases h1;cases h2;exact .aI 4
 |6,h1,h2=>cases h1;cases h2;exact .aa _
 |7,h1,h2=>cases h1;cases h2;exact .aa _
 |8,h1,h2=>cases h1;cases h2;exact .aa _
 |n+9,h1,h2=>simp[rC]at h1
theorem Cc{m:Mem}{Q:Nat}{o:Obj}{D:List (List Dt)}(h:m[Q]? =some (.row 1 (af D))):eT m (.agg (nG Q o)) (II {o with data:=D}):=by
 refine .agg rfl fun i c c' h1 h2=>?_
 match i,h1,h2 with
 |0,h1,h2=>cases h1;cases h2;exact .aa _
 |1,h1,h2=>cases h1;cases h2;exact d9.dJ h 0 none
 |2,h1,h2=>cases h1;cases h2;exact .aa _
 |3,h1,h2=>cases h1;cases h2;exact .aa _
 |4,h1,h2=>cases h1;cases h2;exact .aa _
 |5,h1,h2=>cases h1;cases h2;exact .aa _
 |6,h1,h2=>cases h1;cases h2;exact .aa _
 |7,h1,h2=>cases h1;cases h2;exact .aa _
 |8,h1,h2=>cases h1;cases h2;exact .aa _
 |n+9,h1,h2=>simp[nG]at h1
theorem dL(d:List (List Dt)):(af d).length=d.length:=by simp[af]
theorem Ac(D b:List (List Dt))(A:Nat):cV (af D) A (af b)=af (cV D A b):=by simp[cV,af,acu,ade]
theorem Mp(x:Nat):ib 0 x=x:=by simp[ib]
def mG:LC->LC
 | .seq _ b=>b
 |x=>x
def ZT:LC->LC
 | .cu a=>a
 |x=>x
def C57:LC:=mG (mG (mG (mG c65.code)))
def G57:LC:=ZT C57
theorem SJ(o:Obj)(D b:List (List Dt))(A:Nat)(h:b.length≠0->A+b.length<=D.length):
  aw Tryz.prog 0 G57 (mg Tryz.prog c65.kD (fun r m=>cJ m r (.bK [II {o with data:=if b.length=0 then D else cV D A b},cS 0])))
   ⟨iL 68 [(1,an .i64 (A:Nat)),(2,rf 1 b),(6,.rv (.one (.ptr 0 0))),(8,.rv (.one (.ptr 2 0)))],[.var rC,.row 1 (af D),.var (nG 1 o)]⟩:=by
 have hm:=m7 A D.length;have hmi:nR (an .i64 (if((lenOf (af D).length 0 none:Nat):Int)<(A:Int)then((lenOf (af D).length 0 none:Nat):Int)else(A:Int)))=some (fg A D.length):=by have e:lenOf (af D).length 0 none=D.length:=dL D;rw[e,rB];rfl
 refine ag hmi ?_;refine bY (by show(Nat.ble (fg A D.length) (af D).length&&Nat.ble (af D).length ((af D).length-0))=true;rw[dL];simp[abr];omega) ?_
 by_cases hb:b.length=0
 .rw[if_pos hb];refine bY (by show Nat.beq (af b).length 0=true;rw[dL,hb];rfl) ?_
  exact jX (Cc rfl)
 .rw[if_neg hb];have hle:=h hb;have hmA:fg A D.length=A:=by unfold fg;rw[if_neg om]
  rw[hmA];refine dU (by show Nat.beq (af b).length 0=false;rw[dL];exact Bool.eq_false_iff.2 fun hh=>hb (Z2 hh)) ?_
  refine bY (by have e1:=Mp A;show(Nat.beq 1 1&&(Nat.beq 1 1&&(Nat.ble (ib 0 (af D).length) (af D).length&&(Nat.ble (ib 0 A+(af b).length) (ib 0 (af D).length)&&fp (af b)))))=true;rw[jC,e1,dL,dL,Mp D.length];simp[abr];omega) ?_
  refine jX (Cc ?_);show some (Bk.row 1 (cV (af D) (ib 0 A) (af b)))=_;rw[Mp A,Ac]
theorem EL(o:Obj)(hf:o.mL)(dh:Int)(b:List (List Dt))(hb:b.length<=4194304):body Tryz.prog c65 [o.cv,an .i64 dh,rf 1 b] [] (fun r m=>cJ m r (.bK [II (eV o dh b).1,cS (eV o dh b).2])):=by
 refine bI (fun h1=>?_) (fun h1=>?_)
 .have h1:o.ah=2:=h1;rw[eV,if_pos h1];exact jX ow
 have h1:¬o.ah=2:=h1;refine bG (fun h2=>?_) (fun h2=>?_)
 .have h2:o.ah≠1:=h2;rw[eV,if_neg h1,if_pos h2];exact jX ow
 have h2:¬o.ah≠1:=by simpa using h2
 refine ay (fun h3=>?_) (fun h3=>?_)
 .rw[eV,if_neg h1,if_neg h2,if_pos h3];exact jX ow
 have h3:¬dh<0:=h3;refine ay (fun h4=>?_) (fun h4=>?_)
 .rw[eV,if_neg h1,if_neg h2,if_neg h3,if_pos (.inl h4)];exact jX ow
 have h4:¬dh>60:=h4;have hw:IntKind.i64.wrap (60-dh)=60-dh:=by obtain⟨z,hz⟩:∃z:Nat,60-dh=(z:Int):=⟨(60-dh).toNat,om⟩;rw[hz,np om]
 refine ay (fun h5=>?_) (fun h5=>?_)
 .have h5:(b.length:Int)>IntKind.i64.wrap (60-dh):=h5;rw[hw]at h5;rw[eV,if_neg h1,if_neg h2,if_neg h3,if_pos (.inr h5)];exact jX ow
 have h5:¬(b.length:Int)>IntKind.i64.wrap (60-dh):=h5;rw[hw]at h5;rw[eV,if_neg h1,if_neg h2,if_neg h3,if_neg (fun h=>h.elim h4 h5)]
 obtain⟨A,rfl⟩:∃A:Nat,dh=A:=⟨dh.toNat,om⟩;rw[show((A:Nat):Int).toNat=A from rfl];have lH:=hf.1;refine my (lI:=[b8 [o]]) (m':=[.var (o.enc.map .aa),.var rC,.aW]) (View.o 3 [0,1,2] [2] (.put (.rv (.one (.e8 (dC.dJ (Z:=fun k=>bz [2] k=true) (ds:=[o.enc]) rfl rfl 0 none)))) .nil)
  (.pe rfl rfl rfl (.pe rfl rfl rfl (.aW (.nil _))))) ?_
 refine Pb o hf ?_;obtain⟨N,hN⟩:∃N:Nat,N=if b.length=0 then 0 else A+b.length-o.data.length:=⟨_,rfl⟩
 have hN0:b.length=0->N=0:=fun h0=>by rw[hN,if_pos h0]
 have hN1:b.length≠0->N=A+b.length-o.data.length:=fun h0=>by rw[hN,if_neg h0]
 have aeq:N<=A+b.length-o.data.length:=by
  by_cases h0:b.length=0
  .rw[hN0 h0];exact Wi _
  .rw[hN1 h0];exact SS _
 clear hN;have SK:∀j,j<=N->(o.data++List.replicate j zb).length=o.data.length+j:=fun j _=>aG
 have hwA:IntKind.i64.wrap ((A:Int)+(b.length:Int))=((A+b.length:Nat):Int):=by
  rw[show(A:Int)+(b.length:Int)=((A+b.length:Nat):Int) by omega,np om]
 refine aK (fun j=>j<=N) [1,2] (fun j=>[(6,.rv (.one (.ptr 0 0))),(8,.rv (.one (.ptr 2 0)))]) (fun j=>[.var rC,.row 1 (af (o.data++List.replicate j zb)),.var (nG 1 o)]) (fun j=>N-j) 0 (Wi _) ?_ (fun j hj=>?_)
 .refine View.o1 6 [1,4,5] [] ?_
  .exact .pe rfl rfl rfl (.pt rfl rfl (.bM aG) (.pm rfl rfl rfl))
 have hj:j<=N:=hj;have hlen:lenOf (af (o.data++List.replicate j zb)).length 0 none=o.data.length+j:=by show(af (o.data++List.replicate j zb)).length=_;rw[dL,SK j hj]
 have iC:∀(D:List (List Dt)),D=o.data++List.replicate j zb->(b.length≠0->A+b.length<=o.data.length+j)->aw Tryz.prog 0 G57 (mg Tryz.prog c65.kD (fun r m=>cJ m r (.bK [II {o with data:=pC o.data A b},cS 0])))
   ⟨iL 68 [(1,an .i64 (A:Nat)),(2,rf 1 b),(6,.rv (.one (.ptr 0 0))),(8,.rv (.one (.ptr 2 0)))],[.var rC,.row 1 (af D),.var (nG 1 o)]⟩:=fun D hD hh=>by
  have hs:=SJ o D b A (fun h0=>by rw[hD,SK j hj];exact hh h0)
  have e:pC o.data A b=if b.length=0 then D else cV D A b:=by
   unfold pC;by_cases h0:b.length=0
   .rw[if_pos h0,if_pos h0,hD];have:=hN0 h0;have ej:j=0:=om;rw[ej];simp
   .rw[if_neg h0,if_neg h0,hD];have:=hh h0;have ej:j=A+b.length-o.data.length:=om;rw[SI,ej]
  rw[e];exact hs
 have out:∀e,ir (sg [0,1,2] 3) [.var rC,.row 1 (af (o.data++List.replicate j zb)),.var (nG 1 o)] (fun k=>bz [] k=true) e (iL 68 [(1,an .i64 (A:Nat)),(2,rf 1 b),(6,.rv (.one (.ptr 0 0))),(8,.rv (.one (.ptr 2 0)))])->
   View 0 ⟨e,[.var rC,.row 1 (af (o.data++List.replicate j zb)),.var (nG 1 o)]⟩ ⟨iL 68 [(1,an .i64 (A:Nat)),(2,rf 1 b),(6,.rv (.one (.ptr 0 0))),(8,.rv (.one (.ptr 2 0)))],[.var rC,.row 1 (af (o.data++List.replicate j zb)),.var (nG 1 o)]⟩:=fun e he=>
  View.o 3 [0,1,2] [] he (.pe rfl rfl rfl (.pr rfl rfl rfl (.pm rfl rfl rfl)))
 refine ay (fun h6=>?_) (fun h6=>?_)
 .have h6:((lenOf (af (o.data++List.replicate j zb)).length 0 none:Nat):Int)<IntKind.i64.wrap ((A:Int)+(b.length:Int)):=h6;rw[hlen,hwA]at h6;refine ay (fun h7=>?_) (fun h7=>?_)
  .have h7:(b.length:Int)>0:=h7;have:=hN1 om;refine⟨by simp only[cD,dL,aar,aby,SK j hj];omega,?_⟩
   refine⟨j+1,(show j+1<=N by omega),(show N-(j+1)<N-j by omega),View.o1 5 [0,4,2] [] ?_⟩
   .refine .pe rfl rfl rfl (.pt rfl rfl (.bM ?_) (.pm rfl rfl rfl));rw[List.replicate_succ'];simp[cD,af,zb]
  .have h7:¬(b.length:Int)>0:=h7;refine⟨_,out _ ?_,iC _ rfl (fun h0=>om)⟩
   repeat(first|exact .nil|refine .aq ?_|refine .eq rfl ?_)
 .have h6:¬((lenOf (af (o.data++List.replicate j zb)).length 0 none:Nat):Int)<IntKind.i64.wrap ((A:Int)+(b.length:Int)):=h6;rw[hlen,hwA]at h6;refine⟨_,out _ ?_,iC _ rfl (fun h0=>om)⟩
  repeat(first|exact .nil|refine .aq ?_|refine .eq rfl ?_)
theorem Cd(o:Obj)(hf:o.mL)(dh:Int)(b:List (List Dt))(hb:b.length<=4194304){m:Mem}{K:CV->Mem->Prop}(h:K (.bK [II (eV o dh b).1,cS (eV o dh b).2]) m):au Tryz.prog 65 [o.cv,an .i64 dh,rf 1 b] m K:=
 be (cg Tryz.func65 l65 (EL o hf dh b hb)) (by simp[Obj.cv,Obj.enc,rf,an,CV.dm,CC.dm,RV.dm]) fun r m1 hf=>⟨_,hf,h⟩
def j8(p Q k:Nat)(o:Obj):List CC:=[.aa (.val (.int .i64 o.ah)),.aa (.sl 1 o.data),(if k=p then .row Q 2 0 none else .aa (.sl 2 o.ak)),.aa (.val (.string o.target)),.aa (.val (.int .i64 o.aD)),
 .aa (.sl 4 (o.aj.map bw.enc)),.aa (.val (.int .i64 o.aM)),.aa (.val (.int .i64 o.am)),.aa (.val (.int .i64 o.up))]
def bT(p Q:Nat):Nat->List Obj->List (List CC)
 |_,[]=>[]
 |k,o::r=>j8 p Q k o::bT p Q (k+1) r
theorem rD(p Q:Nat):∀(a:List Obj)(k:Nat)(b:List Obj),bT p Q k (a++b)=bT p Q k a++bT p Q (k+a.length) b
 | [],k,b=>rfl
 |o::r,k,b=>by simp[bT,rD p Q r (k+1) b,abA,Nat.add_comm 1]
theorem fL(p Q:Nat):∀(l:List Obj)(k:Nat),(bT p Q k l).length=l.length
 | [],_=>rfl
 |o::r,k=>by simp[bT,fL p Q r (k+1)]
theorem wa(p Q:Nat):∀(l:List Obj)(k:Nat),(p<k\/k+l.length<=p)->bT p Q k l=af (l.map Obj.enc)
 | [],_,_=>rfl
 |o::r,k,h=>by simp only[aar]at h;have hk:¬k=p:=om;simp only[bT,j8,if_neg hk,wa p Q r (k+1) om];rfl
theorem fM(p Q:Nat):∀(l:List Obj)(k i:Nat),(bT p Q k l)[i]? =(l[i]?).map (j8 p Q (k+i))
 | [],k,i=>by simp[bT]
 |o::r,k,0=>by simp[bT]
 |o::r,k,i+1=>by
  simp only[bT,abY,fM p Q r (k+1) i];rw[show k+1+i=k+(i+1) by omega]
theorem Mq{σ:Nat->Nat}{p Q k:Nat}(o:Obj):(j8 p Q k o).map (CC.aO σ)=j8 p (σ Q) k o:=by
 by_cases h:k=p<;>simp[j8,h,CC.aO]
theorem mH{σ:Nat->Nat}(p Q:Nat):∀(l:List Obj)(k:Nat),(bT p Q k l).map (fun cs=>cs.map (CC.aO σ))=bT p (σ Q) k l
 | [],_=>rfl
 |o::r,k=>by simp only[bT,abv,mH p Q r (k+1)];rw[Mq]
theorem Ad(d:List (List Dt))(hb:d.length<=4194304):body Tryz.prog c135 [rf 2 d] [] (fun r m=>∃r' m',View 0 ⟨[r],m⟩ ⟨[r'],m'⟩/\r'= .rv (.one (.row 0 2 0 none))/\m'=[.row 2 (af d)]):=by
 have lJ:((([]:List (List CC)).length+(d.map fun ds=>ds.map CC.aa).length)*24)<=140737488355328:=by simp;omega
 have iC:∃r' m',View 0 ⟨[CV.rv (.one (.row 1 2 0 none))],[.aW,.row 2 (cD ([]:List (List CC)) 0 none++d.map fun ds=>ds.map CC.aa)]⟩ ⟨[r'],m'⟩/\r'=CV.rv (.one (.row 0 2 0 none))/\m'=[Bk.row 2 (af d)]:=
  ⟨_,_,View.o 2 [1] [] (.eq rfl .nil) (.pn rfl rfl rfl),rfl,rfl⟩
 refine aC (fun h=>?_) (fun h=>?_)
 .have hd:d=[]:=Z1 (by simpa using Z2 h)
  refine⟨?_,lJ,iC⟩;subst hd;exact⟨_,_,View.aI 0 2 0 rfl rfl rfl,rfl,rfl⟩
 .exact⟨lJ,iC⟩
theorem EM(d:List (List Dt))(hb:d.length<=4194304){m:Mem}{K:CV->Mem->Prop}(h:K (.rv (.one (.row m.length 2 0 none))) (m++ [.row 2 (af d)])):au Tryz.prog 135 [rf 2 d] m K:=by
 refine bu [] m.length rfl rfl rfl rfl (args0:=[rf 2 d]) rfl (fun i b' hi=>by simp at hi) (K0:=fun r m=>r= .rv (.one (.row 0 2 0 none))/\m=[.row 2 (af d)]) (bJ (aX Tryz.func135 l135 (Ad d hb)) fun r m1 h=>h) (fun r m1 hr=>?_)
 obtain⟨rfl,rfl⟩:=hr;refine⟨Wi _,?_⟩;show K (.rv (.one (.row (m.length+(0-0)) 2 0 none))) (gh m [.row 2 ((af d).map (fun cs=>cs.map (CC.aO (sg [] m.length))))])
 rw[gS,b9];exact h
def Ae(l:List Obj)(p k:Nat):Bk:=match Nat.blt p k with|true=>.row 2 (af (match l[p]? with|some o=>o.ak|none=>[]))|false=>.aW
theorem uI{σ:Nat->Nat}(l:List Obj)(p k:Nat):(Ae l p k).aO σ=Ae l p k:=by
 unfold Ae;split
 .exact Bk.kn _ _
 .rfl
theorem wb{p Q:Nat}{l:List Obj}{k:Nat}{o:Obj}(h:l[k]? =some o):bT p Q 0 (l.take (k+1))=bT p Q 0 (l.take k)++ [j8 p Q k o]:=by have hk:=(Mh.1 h).1;rw[py h,rD,Z4,acZ om,abx];rfl
theorem IJ(l:List Obj)(hf:jW l)(p:Nat):body Tryz.prog c105 [b8 l] [] (fun r m=>r= .rv (.one (.row 0 9 0 none))/\m=[.row 9 (bT p 1 0 l),Ae l p l.length]):=by
 obtain⟨hl,TU⟩:=hf;refine aK (fun k=>k<=l.length) [0,9,10] (fun k=>[(11,an .i64 (k:Nat)),(3,.rv (.one (.row 0 9 0 none)))]) (fun k=>[.row 9 (bT p 1 0 (l.take k)),Ae l p k]) (fun k=>l.length-k) 0 (Wi _) ?_ (fun k hk=>?_)
 .refine View.trans (View.aI 2 4 0 rfl rfl rfl) (View.trans (View.aI 3 9 1 rfl rfl rfl) (View.o1 2 [1,0] [] ?_))
  .exact .put (by simp[bz]) rfl (.eq rfl aG) (.aW (.nil _))
 .refine ay (fun h=>?_) (fun h=>?_)
  .have aB:k<l.length:=by have h:(k:Int)<((l.map Obj.enc).length:Int):=h;rw[Nq]at h;omega
   have hi:=IE aB;have N1:=TU _ (Z0 aB);have hg:cR (l.map Obj.enc) (k:Nat)=some (l[k].enc):=by rw[bn,Q8,IE aB];rfl
   generalize l[k]=o at hi N1 hg;obtain⟨ah,data,ak,target,aD,aj,aM,am,up⟩:=o;obtain⟨Lh,D6,N2,JX⟩:=N1;have Lh:data.length<=4194304:=Lh;have D6:ak.length<=4194304:=D6;have N2:aj.length<=4194304:=N2;have JX:∀q,q∈aj->q.data.length<=4194304:=JX;have hg:cR (l.map Obj.enc) (k:Nat)=some [.val (.int .i64 ah),.sl 1 data,.sl 2 ak,.val (.string target),.val (.int .i64 aD),.sl 4 (aj.map bw.enc),.val (.int .i64 aM),.val (.int .i64 am),.val (.int .i64 up)]:=hg;refine ag hg ?_;refine gZ data Lh ?_;refine⟨⟨rfl,trivial⟩,?_⟩;by_cases RQ:k=p
   .subst RQ;refine EM ak D6 ?_;refine⟨trivial,?_⟩;refine⟨trivial,?_⟩;refine⟨trivial,?_⟩;have hR:∀Q,bT k Q 0 (l.take k)=af ((l.take k).map Obj.enc):=fun Q=>wa k Q _ 0 (.inr (by simp;omega))
    have hd:Ae l k k= .aW:=by
     have:Nat.blt k k=false:=Bool.eq_false_iff.2 fun h=>by rw[abU]at h;omega
     simp only[Ae,this]
    rw[hd,hR];refine aK (fun j=>j<=aj.length) [0,3,5,9,10,11,24,25] (fun j=>[(26,an .i64 (j:Nat)),(6,.rv (.one (.row 4 4 0 none)))])
     (fun j=>[.row 9 (af ((l.take k).map Obj.enc)),.aW,.var [.aa (.val (.int .i64 ah)),.aa (.sl 1 data),.row 3 2 0 none,.aa (.val (.string target)),.aa (.val (.int .i64 aD)),.aa (.sl 4 (aj.map bw.enc)),.aa (.val (.int .i64 aM)),.aa (.val (.int .i64 am)),.aa (.val (.int .i64 up))],.row 2 (af ak),.row 4 (af ((aj.take j).map bw.enc))]) (fun j=>aj.length-j) 0 (Wi _) ?_ (fun j hj=>?_)
    .refine View.trans (View.aI 6 4 4 rfl rfl rfl) (View.o1 5 [0,1,2,3,4] [] ?_)
     .exact .pr rfl rfl rfl (.aW (.pe rfl rfl rfl (.pr rfl rfl rfl (.pn rfl rfl rfl))))
    .have hj:j<=aj.length:=hj;refine ay (fun h=>?_) (fun h=>?_)
     .have da:j<aj.length:=by have h:(j:Int)<((aj.map bw.enc).length:Int):=h;rw[Nq]at h;omega
      have xn:=IE da;have Ih:=JX _ (Z0 da);generalize aj[j]=q at xn Ih;obtain⟨qd,qh,qo,qr⟩:=q;have pz:cR (aj.map bw.enc) (j:Nat)=some [.sl 1 qd,.val (.bool qh),.val (.int .i64 qo),.val (.int .i64 qr)]:=by rw[bn,Q8,xn];rfl
      refine ag pz ?_;refine gZ qd Ih ?_;refine⟨?_,?_⟩
      .show((af ((aj.take j).map bw.enc)).length+1)*48<=_;simp[af];omega
      refine⟨j+1,da,(show aj.length-(j+1)<aj.length-j by omega),View.o 8 [0,1,2,3,7] [] ?_ ?_⟩
      .repeat(first|exact .nil|refine .aq ?_|refine .put (.aO (ap om).symm) ?_|refine .eq rfl ?_)
      .refine .pr rfl rfl rfl (.aW (.pe rfl rfl rfl (.pr rfl rfl rfl (.pt rfl rfl (.bM ?_) (.nil _)))));rw[py xn,abn,bN];rfl
     .have ew:¬(j:Int)<((aj.map bw.enc).length:Int):=h;rw[Nq]at ew;have hq:aj.take j=aj:=abS om;refine⟨?_,?_⟩
      .show((af ((l.take k).map Obj.enc)).length+1)*128<=_;simp[af];omega
      have Sg:Ae l k (k+1)= .row 2 (af ak):=by
       have:Nat.blt k (k+1)=true:=by rw[abU];omega
       simp only[Ae,this,hi]
      refine⟨k+1,aB,(show l.length-(k+1)<l.length-k by omega),View.o 7 [6,3] [4] ?_ ?_⟩
      .repeat(first|exact .nil|refine .aq ?_|refine .put (.aO (ap om).symm) ?_|refine .eq rfl ?_)
      .rw[wb hi,Sg,hR];refine .pt rfl rfl (.zE (gS _ _) rfl ?_) (.pn rfl rfl rfl);intro j' c c' h1 h2;have e5:j8 k 1 k ⟨ah,data,ak,target,aD,aj,aM,am,up⟩=[.aa (.val (.int .i64 ah)),.aa (.sl 1 data),.row 1 2 0 none,.aa (.val (.string target)),.aa (.val (.int .i64 aD)),.aa (.sl 4 ((aj.take j).map bw.enc)),.aa (.val (.int .i64 aM)),.aa (.val (.int .i64 am)),.aa (.val (.int .i64 up))]:=by simp[j8,hq]
       rw[e5]at h2
       match j',h1,h2 with
       |0,h1,h2=>cases h1;cases h2;exact .aO (.aa _)
       |1,h1,h2=>cases h1;cases h2;exact .aO (.aa _)
       |2,h1,h2=>cases h1;cases h2;exact .aO (.row 1 2 0 none)
       |3,h1,h2=>cases h1;cases h2;exact .aO (.aa _)
       |4,h1,h2=>cases h1;cases h2;exact .aO (.aa _)
       |5,h1,h2=>cases h1;cases h2;exact .e8 (dC.dJ (Z:=fun k=>bz [4] k=true) rfl (by rw[<-aZ];rfl) 0 none)
       |6,h1,h2=>cases h1;cases h2;exact .aO (.aa _)
       |7,h1,h2=>cases h1;cases h2;exact .aO (.aa _)
       |8,h1,h2=>cases h1;cases h2;exact .aO (.aa _)
       |n+9,h1,h2=>simp at h1
   .refine sq ak D6 ?_;refine⟨trivial,?_⟩;refine⟨trivial,?_⟩;refine⟨trivial,?_⟩;refine aK (fun j=>j<=aj.length) [0,3,5,9,10,11,24,25] (fun j=>[(26,an .i64 (j:Nat)),(6,.rv (.one (.row 3 4 0 none)))])
     (fun j=>[.row 9 (bT p 1 0 (l.take k)),Ae l p k,.var ((⟨ah,data,ak,target,aD,aj,aM,am,up⟩:Obj).enc.map .aa),.row 4 (af ((aj.take j).map bw.enc))]) (fun j=>aj.length-j) 0 (Wi _) ?_ (fun j hj=>?_)
    .refine View.trans (View.aI 6 4 3 rfl rfl rfl) (View.o1 4 [0,1,2,3] [] ?_)
     .exact .pt rfl rfl (.eq (congrArg (Bk.row 9) (mH p 1 _ _)) aG) (.yi (e9 rfl) rfl (uI l p k) (.pe rfl rfl rfl (.pn rfl rfl rfl)))
    .have hj:j<=aj.length:=hj;refine ay (fun h=>?_) (fun h=>?_)
     .have da:j<aj.length:=by have h:(j:Int)<((aj.map bw.enc).length:Int):=h;rw[Nq]at h;omega
      have xn:=IE da;have Ih:=JX _ (Z0 da);generalize aj[j]=q at xn Ih;obtain⟨qd,qh,qo,qr⟩:=q;have pz:cR (aj.map bw.enc) (j:Nat)=some [.sl 1 qd,.val (.bool qh),.val (.int .i64 qo),.val (.int .i64 qr)]:=by rw[bn,Q8,xn];rfl
      refine ag pz ?_;refine gZ qd Ih ?_;refine⟨?_,?_⟩
      .show((af ((aj.take j).map bw.enc)).length+1)*48<=_;simp[af];omega
      refine⟨j+1,da,(show aj.length-(j+1)<aj.length-j by omega),View.o 7 [0,1,2,6] [] ?_ ?_⟩
      .repeat(first|exact .nil|refine .aq ?_|refine .put (.aO (ap om).symm) ?_|refine .eq rfl ?_)
      .refine .pt rfl rfl (.eq (congrArg (Bk.row 9) (mH p 1 _ _)) aG) (.yi (e9 rfl) rfl (uI l p k) (.pe rfl rfl rfl (.pt rfl rfl (.bM ?_) (.nil _))));rw[py xn,abn,bN];rfl
     .have ew:¬(j:Int)<((aj.map bw.enc).length:Int):=h;rw[Nq]at ew;have hq:aj.take j=aj:=abS om;refine⟨?_,?_⟩
      .show((bT p 1 0 (l.take k)).length+1)*128<=_;rw[fL];simp;omega
      have Sg:Ae l p (k+1)=Ae l p k:=by
       have:Nat.blt p (k+1)=Nat.blt p k:=by rw[ac2,abU,abU];omega
       simp only[Ae,this]
      refine⟨k+1,aB,(show l.length-(k+1)<l.length-k by omega),View.o 6 [5,1] [3] ?_ ?_⟩
      .repeat(first|exact .nil|refine .aq ?_|refine .put (.aO (ap om).symm) ?_|refine .eq rfl ?_)
      .rw[wb hi,Sg];refine .pt rfl rfl (.zE (mH p 1 _ _) rfl ?_) (.yi (e9 rfl) rfl (uI l p k) (.nil _));intro j' c c' h1 h2;have e5:j8 p 1 k ⟨ah,data,ak,target,aD,aj,aM,am,up⟩=[.aa (.val (.int .i64 ah)),.aa (.sl 1 data),.aa (.sl 2 ak),.aa (.val (.string target)),.aa (.val (.int .i64 aD)),.aa (.sl 4 ((aj.take j).map bw.enc)),.aa (.val (.int .i64 aM)),.aa (.val (.int .i64 am)),.aa (.val (.int .i64 up))]:=by simp[j8,RQ,hq]
       rw[e5]at h2
       match j',h1,h2 with
       |0,h1,h2=>cases h1;cases h2;exact .aO (.aa _)
       |1,h1,h2=>cases h1;cases h2;exact .aO (.aa _)
       |2,h1,h2=>cases h1;cases h2;exact .aO (.aa _)
       |3,h1,h2=>cases h1;cases h2;exact .aO (.aa _)
       |4,h1,h2=>cases h1;cases h2;exact .aO (.aa _)
       |5,h1,h2=>cases h1;cases h2;exact .e8 (dC.dJ (Z:=fun k=>bz [3] k=true) rfl (by rw[<-aZ];rfl) 0 none)
       |6,h1,h2=>cases h1;cases h2;exact .aO (.aa _)
       |7,h1,h2=>cases h1;cases h2;exact .aO (.aa _)
       |8,h1,h2=>cases h1;cases h2;exact .aO (.aa _)
       |n+9,h1,h2=>simp at h1
  .have ew:¬(k:Int)<((l.map Obj.enc).length:Int):=h;rw[Nq]at ew;have fj:k=l.length:=by have:k<=l.length:=hk;omega
   subst fj;rw[abp];exact⟨rfl,rfl⟩
theorem Af(l:List Obj)(hf:jW l)(p:Nat){m:Mem}{K:CV->Mem->Prop}(h:K (.rv (.one (.row m.length 9 0 none))) (m++ [.row 9 (bT p (m.length+1) 0 l),Ae l p l.length])):au Tryz.prog 105 [b8 l] m K:=by
 refine bu [] m.length rfl rfl rfl rfl rfl (fun i b' hi=>by simp at hi) (aX Tryz.func105 l105 (IJ l hf p)) (fun r m1 hr=>?_)
 obtain⟨h1,h2⟩:=hr;subst h1;subst h2;refine⟨Wi _,?_⟩;show K (.rv (.one (.row (m.length+(0-0)) 9 0 none))) (gh m [.row 9 ((bT p 1 0 l).map (fun cs=>cs.map (CC.aO (sg [] m.length)))),(Ae l p l.length).aO (sg [] m.length)])
 rw[mH,uI,b9];exact h
def c115:LF:= ⟨46,[.tmp 6],(.seq (.ai [qu 6 (.aH (qi 0))]) (.seq (.seq (.ai [qm 9 1,qu 10 (.aF .lss 9 (qi 0)),qm 11 10,qg 12 (.aH 1) 11 false,qg 13 (.aH 0) 11 false,qg 14 (.len 1 13) 11 false,qg 15 (.aF .geq 12 14) 11 false,qu 16 (.pick 11 (qb true) 15),qm 17 16,qg 18 (.aH 0) 17 false,qg 19 (.aH 1) 17 false,qg 20 (.bW 9 18 19) 17 false,qg 21 (.br 0 20) 17 false,qg 22 (.load false 1 21) 17 false,qg 23 (.aF .neq 22 (qi 2)) 17 false,qu 24 (.pick 17 (qb true) 23)]) (.cond 24 (.seq (.ai [qu 6 (.aH (qi (-1)))]) .ret) .skip)) (.seq (.ai [qm 26 0,qm 27 1,qu 28 (.bW 9 26 27),qf 29 2 28,ql 30 29,qm 31 2,qu 32 (qc 141 [30,31,(.c (.rv (.one (.fn 142 []))))]),qm 25 32,qu 33 (.ext 25 0),qu 34 (.ext 25 1),qm 7 33,qm 8 34]) (.seq (.seq (.ai [qm 35 8,qu 36 (.un .not 35)]) (.cond 36 (.seq (.ai [qu 6 (.aH (qi (-1)))]) .ret) .skip)) (.seq (.ai [qm 37 0,qm 38 1,qu 39 (.bW 9 37 38),qf 40 2 39,ql 41 40,qm 42 7,qu 43 (.bW 2 41 42),qf 44 1 43,ql 45 44,qm 6 45]) .ret)))))⟩
def c146:LF:= ⟨9,[.tmp 4],(.seq (.ai [qu 2 (.box 0),qu 4 (.aH (qi 0))]) (.seq (.ai [qf 5 0 2,ql 6 5,qm 7 1,qu 8 (qc 143 [6,7]),qm 4 8]) .ret))⟩
theorem l146:bx Tryz.prog Tryz.f146=some c146:=by kernel_rfl
theorem l115:bx Tryz.prog Tryz.f115=some c115:=by kernel_rfl
theorem Ce(e:ByteArray×Int)(s:ByteArray):body Tryz.prog c146 [vY e,eK s] [] (fun r m=>r=an .i64 (kV e.1 s)):=
 Mf e.1 s rfl
theorem SL(e:ByteArray×Int)(s:ByteArray){m:Mem}{K:CV->Mem->Prop}(h:K (an .i64 (kV e.1 s)) m):au Tryz.prog 146 [vY e,eK s] m K:=
 bs Tryz.func146 l146 rfl (X5 rfl) (Ce e s) rfl rfl h
def wd(l:List Obj)(es:List (ByteArray×Int))(cT:Nat)(s:ByteArray):Int:=if zX es s=true then(match es[p6 es s]? with|some e=>e.2|none=>0)else -1
theorem EN(l:List Obj)(cT:Nat)(hd:cT<l.length)(hk:l[cT].ah=2)(es:List (ByteArray×Int))(he:l[cT].ak=es.map de)(hl:es.length<=2147483648)(s:ByteArray):body Tryz.prog c115 [b8 l,an .i64 (cT:Nat),eK s] [] (fun r m=>r=an .i64 (wd l es cT s)):=by
 have hg:cR (l.map Obj.enc) (cT:Nat)=some l[cT].enc:=by rw[bn,Q8,IE hd];rfl
 generalize l[cT]=o at hg hk he;obtain⟨ah,data,ak,target,aD,aj,aM,am,up⟩:=o;have hk:ah=2:=hk;have he:ak=es.map de:=he;subst hk he;have hg:cR (l.map Obj.enc) (cT:Nat)=some [.val (.int .i64 2),.sl 1 data,.sl 2 (es.map de),.val (.string target),.val (.int .i64 aD),.sl 4 (aj.map bw.enc),.val (.int .i64 aM),.val (.int .i64 am),.val (.int .i64 up)]:=hg;refine ay (fun h1=>?_) (fun h1=>?_)
 .exfalso;have h1:(cT:Int)>=((l.map Obj.enc).length:Int):=h1;rw[Nq]at h1;omega
 refine ag hg ?_;refine ag hg ?_;refine Mg es hl s 142 (fun e m K h=>Q5 e s h) ?_
 refine aC (fun h2=>?_) (fun h2=>?_)
 .have h2:zX es s=false:=by simpa using h2
  show an _ _=an _ _;rw[wd,if_neg (by rw[h2];simp)]
 .have h2:zX es s=true:=by simpa using h2
  refine ag hg ?_;have aB:p6 es s<es.length:=by
   unfold zX at h2;split at h2
   .rename_i e he;exact(Mh.1 he).1
   .cases h2
  refine ag (ou aB) ?_;show an _ _=an _ _;rw[wd,if_pos h2,IE aB]
theorem Cf(l:List Obj)(cT:Nat)(hd:cT<l.length)(hk:l[cT].ah=2)(es:List (ByteArray×Int))(he:l[cT].ak=es.map de)(hl:es.length<=2147483648)(s:ByteArray){m:Mem}{K:CV->Mem->Prop}(h:K (an .i64 (wd l es cT s)) m):au Tryz.prog 115 [b8 l,an .i64 (cT:Nat),eK s] m K:=
 bs Tryz.func115 l115 rfl (X5 rfl) (EN l cT hd hk es he hl s) (by simp[b8,an,eK,CV.dm,CC.dm,RV.dm]) rfl h
theorem EO(l:List Ob)(ok:m6 l)(cT:Nat)(hd:cT<l.length)(hk:l[cT].ah=2)(w:bP.dG):body Tryz.prog c115 [zK l,an .i64 (cT:Nat),bP.vT w] [] (fun r m=>r=an .i64 (l3 l cT w)):=by
 obtain⟨Ag,aer,hlen,DC⟩:=ok.d7 cT;have DC:=DC hd;have hf:l3 l cT w=(if zX (iw (lg l cT)) (bP.cK w)=true then(match (iw (lg l cT))[p6 (iw (lg l cT)) (bP.cK w)]? with|some e=>e.2|none=>0)else -1):=tR Ag (jo _ _) (GS Ag _)
 rw[hf];have hg:=mD hd;generalize iw (lg l cT)=es at*
 generalize l[cT]=o at hg hk DC;obtain⟨ah,data,ak,target,aD,aj,aM,am,up⟩:=o;have hk:ah=2:=hk;have he:ak=es.map de:=DC;subst hk he;refine ay (fun h1=>?_) (fun h1=>?_)
 .exfalso;have h1:(cT:Int)>=((l.map Ob.enc).length:Int):=h1;rw[Nq]at h1;omega
 refine ag hg ?_;refine ag hg ?_;refine Mg es om (bP.cK w) 142 (fun e m K h=>Q5 e (bP.cK w) h) ?_
 refine aC (fun h2=>?_) (fun h2=>?_)
 .have h2:zX es (bP.cK w)=false:=by simpa using h2
  show an _ _=an _ _;rw[if_neg (by rw[h2];simp)]
 .have h2:zX es (bP.cK w)=true:=by simpa using h2
  refine ag hg ?_;have aB:p6 es (bP.cK w)<es.length:=by
   unfold zX at h2;split at h2
   .rename_i e he;exact(Mh.1 he).1
   .cases h2
  refine ag (ou aB) ?_;show an _ _=an _ _;rw[if_pos h2,IE aB]
theorem Mr(l:List Ob)(ok:m6 l)(cT:Nat)(hd:cT<l.length)(hk:l[cT].ah=2)(w:bP.dG){m:Mem}{K:CV->Mem->Prop}(h:K (an .i64 (l3 l cT w)) m):au Tryz.prog 115 [zK l,an .i64 (cT:Nat),bP.vT w] m K:=
 bs Tryz.func115 l115 rfl (X5 rfl) (EO l ok cT hd hk w) rfl rfl h
def Ue(l:List Ob)(aA:Int):Nat->Int->Bool
 |0,_=>false
 |n+1,d=>if oc l d 2=false then false else if d=aA then true else if d=0 then false else Ue l aA n (lg l d.toNat).up
def Pc:RV:= .one (.aa (.val (.bool true)))
def fh(n:Nat):ME:=⟨.int .i64 (n:Nat),Pc⟩
def sO(L:List Nat)(z:Int):Bool:=L.any fun n=>z==(n:Int)
theorem o7(z:Int):∀L:List Nat,nM (.int .i64 z) (L.map fh)=some (if sO L z=true then some Pc else none)
 | []=>rfl
 |n::r=>by
  have ih:=o7 z r;simp only[abv,nM,fh,nk,decide_true];simp only[sO,acv]at ih⊢;by_cases h:z=(n:Int)
  .subst h;simp
  .have h1:(z==(n:Int))=false:=by simpa using h
   simp only[h1,ab2];exact ih
theorem Ms(z:Int):∀L:List Nat,sO L z=false->uQ (.int .i64 z) Pc (L.map fh)=some (L.map fh++ [⟨.int .i64 z,Pc⟩])
 | [],_=>rfl
 |n::r,h=>by simp only[sO,acv,acB]at h;obtain⟨h1,h2⟩:=h;have ih:=Ms z r h2;simp only[abv,uQ,fh,nk,decide_true,h1];rw[ih];rfl
theorem cY{σ:Nat->Nat}(L:List Nat):(Bk.mp (L.map fh)).aO σ= .mp (L.map fh):=by simp[Bk.aO,RV.aO,CC.aO,fh,Pc,acf]
theorem ix{L:List Nat}{n:Nat}:sO L (n:Int)=true↔n∈L:=by
 rw[sO,abt];constructor
 .rintro⟨x,hx,h⟩;have:(n:Int)=x:=by simpa using h
  have:n=x:=om;rw[this];exact hx
 .intro h;exact⟨n,h,aG⟩
theorem we{l:List Ob}{aA:Int}(V:List Nat)(h:∀x,x∈V->(x:Int)≠aA/\∃y,y∈V/\(lg l x).up=(y:Nat)):∀(n x:Nat),x∈V->Ue l aA n (x:Nat)=false
 |0,_,_=>rfl
 |n+1,x,hx=>by
  obtain⟨h1,y,hy,h2⟩:=h x hx;rw[Ue];by_cases hI:oc l x 2=false
  .rw[if_pos hI]
  rw[if_neg hI,if_neg h1];by_cases h0:(x:Int)=0
  .rw[if_pos h0]
  rw[if_neg h0,Z3,h2];exact we V h n y hy
theorem wg:∀{N:Nat}{V:List Nat},V.Nodup->(∀x,x∈V->x<N)->V.length<=N
 |0,V,_,h=>by
  cases V with
  |nil=>exact SS _
  |cons x r=>exact absurd (h x aG) (abb x)
 |N+1,V,hd,h=>by
  by_cases hm:N∈V
  .have h1:=List.length_erase_of_mem hm;have h2:=wg (N:=N) (hd.erase N) fun x hx=>by rw[hd.mem_erase_iff]at hx;have:=h x hx.2;have:=hx.1;omega
   have:=List.length_pos_of_mem hm;omega
  .have:=wg (N:=N) hd fun x hx=>by
    have h1:=h x hx;have:x≠N:=fun e=>hm (e▸hx)
    omega
   omega
structure SM where
 d:Int
 V:List Nat
structure Pd(l:List Ob)(aA cT:Int)(a:SM):Prop where
 nd:a.V.Nodup
 rg:∀x,x∈a.V->x<l.length
 cl:∀x,x∈a.V->(x:Int)≠aA/\((lg l x).up=a.d\/∃y,y∈a.V/\(lg l x).up=(y:Nat))
 eq:Ue l aA (l.length+1-a.V.length) a.d=Ue l aA (l.length+1) cT
theorem Pd.le{l:List Ob}{aA cT:Int}{a:SM}(h:Pd l aA cT a):a.V.length<=l.length:=wg h.nd h.rg
theorem Pd.ub{l:List Ob}{aA cT:Int}{a:SM}(h:Pd l aA cT a){n:Nat}(hn:a.d=n)(hm:n∈a.V):Ue l aA (l.length+1) cT=false:=by
 rw[<-h.eq,hn];refine we a.V (fun x hx=>?_) _ n hm
 obtain⟨h1,h2⟩:=h.cl x hx;refine⟨h1,?_⟩;rcases h2 with h2|h2
 .exact⟨n,hm,h2.trans hn⟩
 .exact h2
def c139:LF:= ⟨32,[.tmp 2],(.seq (.ai [qu 2 (.aH (qb false))]) (.seq (.seq (.bX [qm 3 0,qu 4 (.aY 3),qf 5 4 4,ql 6 5,qm 7 0,qu 8 (.aY 7),qf 9 1 8,ql 10 9,qu 11 (.aF .eql 6 10),qm 12 11,qg 13 (.aH 0) 12 true,qg 14 (.aY 13) 12 true,qg 15 (.br 2 14) 12 true,qg 16 (.load false 1 15) 12 true,qu 17 (.pick 12 16 (qb false))] [(.cons 0 none (.cons 1 none (.cons 2 none (.cons 3 none (.cons 4 none (.cons 5 none (.cons 6 none (.cons 7 none (.cons 8 none (.cons 9 none (.cons 10 none (.cons 11 none (.cons 12 none (.cons 13 none (.cons 14 none .nil)))))))))))))))]) (.cond 17 (.seq (.ai [qu 2 (.aH (qb false))]) .ret) .skip)) (.seq (.bX [qm 18 0,qm 19 0,qu 20 (.aY 19),qf 21 0 20,ql 22 21,qm 23 0,qu 24 (.aY 23),qf 25 4 24,ql 26 25,qu 27 (.bW 9 22 26),qf 28 8 27,ql 29 28,qu 30 (.aY 18),qf 31 4 30,qw (.store 1 31 29)] [(.cons 0 none (.cons 1 none (.cons 2 none (.cons 3 none (.cons 4 none (.cons 5 none (.cons 6 none (.cons 7 none (.cons 8 none (.cons 9 none (.cons 10 none (.cons 11 none (.cons 12 none (.cons 13 none (.cons 14 (some []) .nil)))))))))))))))]) (.seq (.ai [qu 2 (.aH (qb true))]) .ret))))⟩
def c140:LF:= ⟨48,[.tmp 4],(.seq (.ai [qu 4 (.aH (qi 0))]) (.seq (.seq (.ai [qm 8 0,qu 9 (.aY 8),qf 10 3 9,ql 11 10,qu 12 (.aF .eql 11 (qi 6))]) (.cond 12 (.seq (.ai [qu 4 (.aH (qi 13))]) .ret) .skip)) (.seq (.ai [qm 13 0,qu 14 (.aY 13),qf 15 3 14,ql 16 15,qu 17 (.aF .add 16 (qi 1)),qu 18 (.aY 13),qf 19 3 18,qw (.store 1 19 17)]) (.seq (.ai [qm 21 1,qu 22 (qc 73 [21]),qm 20 22,qu 23 (.ext 20 0),qu 24 (.ext 20 1),qu 25 (.ext 20 2),qm 5 23,qm 6 24,qm 7 25]) (.seq (.seq (.ai [qm 26 7,qu 27 (.aF .neq 26 (qi 0))]) (.cond 27 (.seq (.ai [qm 28 7,qm 4 28]) .ret) .skip)) (.seq (.seq (.ai [qm 29 6]) (.cond 29 (.seq (.seq (.ai [qm 30 0,qu 31 (.aY 30),qf 32 2 31,ql 33 32]) (.cond 33 (.seq (.ai [qu 4 (.aH (qi 14))]) .ret) .skip)) (.ai [qm 34 0,qu 35 (.aY 34),qf 36 4 35,qw (.store 1 36 (qi 0))])) .skip)) (.seq (.bX [qm 37 0,qu 38 (.ln 1 [(.aa (.val (.string ⟨#[]⟩)))] 0 []),qm 39 5,qu 40 (.ni 1 16 38 39),qm 41 0,qu 42 (.aY 41),qf 43 5 42,ql 44 43,qu 45 (.ni 1 16 40 44),qu 46 (.aY 37),qf 47 5 46,qw (.store 1 47 45)] [(.cons 0 none (.cons 2 none (.cons 4 none (.cons 5 none (.cons 6 none (.cons 7 none (.cons 1 (some [7]) (.cons 3 (some [7]) (.cons 8 (some []) (.cons 9 none (.cons 10 none (.cons 11 (some []) .nil))))))))))))]) (.seq (.ai [qu 4 (.aH (qi 0))]) .ret))))))))⟩
theorem l139:bx Tryz.prog Tryz.f139=some c139:=by kernel_rfl
theorem l140:bx Tryz.prog Tryz.f140=some c140:=by kernel_rfl
def sP(l:List Ob)(aA:Nat)(aE:Bool)(h a:Nat)(t:List bP.dG):Bk:= .var [.aa (ON l),.aa (.val (.int .i64 (aA:Nat))),.aa (.val (.bool aE)),.aa (.val (.int .i64 (h:Nat))),.aa (.val (.int .i64 (a:Nat))),.aa (bP.X0 t)]
theorem wh(l:List Ob)(aA:Nat)(aE:Bool)(h a:Nat)(t:List bP.dG):sP l aA aE h a t≠.aW:=by intro x;cases x
theorem Mt{f:Nat}{args:List CV}(ha:∀σ,args.map (CV.aO σ)=args){l:List Ob}{aA:Nat}{aE:Bool}{h a:Nat}{t:List bP.dG}{Q:CV->Nat->Nat->List bP.dG->Prop}(hr:∀r h a t,Q r h a t->∀σ,r.aO σ=r)(hc:au Tryz.prog f (.rv (.one (.ptr 0 0))::args) [sP l aA aE h a t] (fun r m=>∃h' a' t',m=[sP l aA aE h' a' t']/\Q r h' a' t')){m:Mem}(id:Nat)(hb:dd m id=some (sP l aA aE h a t)){K:CV->Mem->Prop}(hK:∀r h' a' t',Q r h' a' t'->K r (bb m id (sP l aA aE h' a' t'))):au Tryz.prog f (.rv (.one (.ptr id 0))::args) m K:=by
 have hid:id<m.length:=by rw[aZ]at hb;exact(Mh.1 hb).1
 refine bu [id] m.length rfl rfl rfl (by simp[eO,hid]) (args0:= .rv (.one (.ptr 0 0))::args) (by rw[abv,ha];rfl) (fun i b' hi=>?_) hc (fun r1 m1 AW=>?_)
 .cases i with
  |zero=>
   simp at hi;subst hi;refine .inr ⟨fun h=>h,_,?_,.eq rfl (wh _ _ _ _ _ _)⟩
   rw[aZ]at hb;exact hb
  |succ i=>simp at hi
 .obtain⟨h',a',t',rfl,hq⟩:=AW;refine⟨SS _,?_⟩;rw[hr _ _ _ _ hq];show K r1 (dp m [id] [sP l aA aE h' a' t']);rw[BM];exact hK _ _ _ _ hq
theorem IK{r:CV}{l:List Ob}{aA:Nat}{aE:Bool}{h a:Nat}{t:List bP.dG}{X:Mem}(hr:∀σ,r.aO σ=r):View 1 ⟨[r],sP l aA aE h a t::X⟩ ⟨[r],[sP l aA aE h a t]⟩:=
 View.of (X.length+1) [0] [] rfl rfl rfl rfl rfl (by simp[eO,Nat.blt]) (.eq (hr _) .nil) (.pt rfl rfl (.eq rfl (wh _ _ _ _ _ _)) (.nil _))
def upR(l:List Ob)(aA:Nat)(aE:Bool)(h a:Nat)(t:List bP.dG)(r:CV)(h' a':Nat)(t':List bP.dG):Prop:=
 h'=h/\t'=t/\((aE=true/\a=aA)/\r=ax false/\a'=a\/¬(aE=true/\a=aA)/\r=ax true/\a'=Aa l a)
theorem Pe(l:List Ob)(ok:m6 l)(aA:Nat)(aE:Bool)(h a:Nat)(ha:a<l.length)(t:List bP.dG):body Tryz.prog c139 [.rv (.one (.ptr 0 0))] [sP l aA aE h a t] (fun r m=>∃h' a' t',m=[sP l aA aE h' a' t']/\upR l aA aE h a t r h' a' t'):=by
 have hg:=mD ha;have hu:=ok.Ml ha;refine bI (fun h1=>?_) (fun h1=>?_)
 .cases aE with
  |true=>exact⟨_,_,_,rfl,rfl,rfl,.inl ⟨⟨rfl,om⟩,rfl,rfl⟩⟩
  |false=>
   refine ag hg ?_;refine⟨trivial,?_⟩;rw[hu];exact⟨_,_,_,rfl,rfl,rfl,.inr ⟨aG,rfl,rfl⟩⟩
 .refine ag hg ?_;refine⟨trivial,?_⟩;rw[hu];exact⟨_,_,_,rfl,rfl,rfl,.inr ⟨fun h=>h1 (by rw[h.2]),rfl,rfl⟩⟩
theorem Wa(l:List Ob)(ok:m6 l)(aA:Nat)(aE:Bool)(h a:Nat)(ha:a<l.length)(t:List bP.dG){m:Mem}(id:Nat)(hb:dd m id=some (sP l aA aE h a t)){K:CV->Mem->Prop}(Vm:(aE=true/\a=aA)->K (ax false) (bb m id (sP l aA aE h a t)))(hK2:¬(aE=true/\a=aA)->K (ax true) (bb m id (sP l aA aE h (Aa l a) t))):au Tryz.prog 139 [.rv (.one (.ptr id 0))] m K:=by
 refine Mt (args:=[]) (fun _=>rfl) (Q:=upR l aA aE h a t) (fun r h a t hq σ=>?_) (aX Tryz.func139 l139 (Pe l ok aA aE h a ha t)) id hb (fun r h' a' t' hq=>?_)
 .rcases hq.2.2 with⟨_,rfl,_⟩|⟨_,rfl,_⟩<;>rfl
 .obtain⟨rfl,rfl,hq⟩:=hq;rcases hq with⟨h1,rfl,rfl⟩|⟨h1,rfl,rfl⟩
  .exact Vm h1
  .exact hK2 h1
theorem p8(t:bP.dG):(bP.cM t).1.length<=61:=by
 unfold bP.cM;split
 .simp
 .split
  .simp
  .split
   .show(bP.z8 t).length<=61;have h1:=ack bP.rz (bP.gx 47 t);have h2:=bP.v6 47 t;unfold bP.z8;omega
   .simp
inductive N6(p:List bP.dG×Bool×Int)(aE:Bool)(h a:Nat)(t:List bP.dG):CV->Nat->Nat->List bP.dG->Prop
 |loop (h' a':Nat) (t':List bP.dG) (h6:h=6):N6 p aE h a t (an .i64 13) h' a' t'
 |js (h' a':Nat) (t':List bP.dG) (h6:h≠6) (he:p.2.2≠0):N6 p aE h a t (an .i64 p.2.2) h' a' t'
 |out (h' a':Nat) (t':List bP.dG) (h6:h≠6) (he:p.2.2=0) (hr:p.2.1=true) (hf:aE=true):N6 p aE h a t (an .i64 14) h' a' t'
 |ok (h6:h≠6) (he:p.2.2=0) (hr:¬(p.2.1=true/\aE=true)):N6 p aE h a t (an .i64 0) (h+1) (if p.2.1=true then 0 else a) (p.1++t)
theorem N6.data{p:List bP.dG×Bool×Int}{aE:Bool}{h a:Nat}{t:List bP.dG}{r:CV}{h' a':Nat}{t':List bP.dG}(x:N6 p aE h a t r h' a' t')(σ:Nat->Nat):r.aO σ=r:=by cases x<;>rfl
def TV1(Q:CV->Mem->Prop)(r:CV)(m:Mem):Prop:=∃r' m',View 1 ⟨[r],m⟩ ⟨[r'],m'⟩/\Q r' m'
theorem Pf(a b:List bP.dG):af (a.map bP.tD)++af (b.map bP.tD)=af ((a++b).map bP.tD):=by rw[abn,bP.bN]
theorem Wb{m:Mem}{Z:Nat->Prop}{id:Nat}{p:Option Nat}{X:List (List CC)}{ds:List (List Dt)}(hz:Z id)(hm:m[id]? =some (.row 1 X))(hX:X=af ds):dC m Z p (.row id 1 0 none) (.sl 1 ds):=by
 subst hX;refine dC.row id 1 0 none (af ds) ds hz hm (by simp[af]) (fun i cs es h1 h2=>?_) (fun i cs es j c d h1 h2 h3 h4=>?_)
 .simp only[af,Q8,h2,aaG,aag]at h1;subst h1;simp
 .simp only[af,Q8,h2,aaG,aag]at h1;subst h1;rw[Q8,h4]at h3;cases h3;exact .aa _
theorem Wc{l:List Ob}{aA:Nat}{aE:Bool}{h a:Nat}{t parts:List bP.dG}{m:Mem}{σ:Nat->Nat}(hm:m[3]? =some (.row 1 ((([]:List (List CC))++af (parts.map bP.tD))++af (t.map bP.tD)))):
  mK σ m (fun k=>bz [3] k=true) 0 (.var [.aa (ON l),.aa (.val (.int .i64 (aA:Nat))),.aa (.val (.bool aE)),.aa (.val (.int .i64 (h:Nat))),.aa (.val (.int .i64 (a:Nat))),.row 3 1 0 none]) (sP l aA aE h a (parts++t)):=
 eP.var (.cons (.aO (.aa _)) (.cons (.aO (.aa _)) (.cons (.aO (.aa _)) (.cons (.aO (.aa _)) (.cons (.aO (.aa _)) (.cons (.e8 (Wb rfl hm (by rw[adp];exact Pf parts t))) .nil))))))
theorem IL(l:List Ob)(aA:Nat)(aE:Bool)(h a:Nat)(hh:h<=6)(t:List bP.dG)(ht:t.length<=1000)(s:bP.dG):
  body Tryz.prog c140 [.rv (.one (.ptr 0 0)),bP.vT s] [sP l aA aE h a t] (TV1 fun r m=>∃h' a' t',m=[sP l aA aE h' a' t']/\N6 (bP.cM s) aE h a t r h' a' t'):=by
 refine bI (fun h1=>?_) (fun h1=>?_)
 .exact⟨_,_,IK (X:=[]) (fun _=>rfl),_,_,_,rfl,.loop _ _ _ om⟩
 have h6:h≠6:=fun e=>h1 (by rw[e];rfl)
 refine bP.v7 s ?_;have hp:=p8 s;generalize bP.cM s=p at hp⊢;obtain⟨parts,ar,er⟩:=p;have hp:parts.length<=61:=hp;have e1:IntKind.i64.wrap ((h:Int)+1)=((h+1:Nat):Int):=by
  rw[show(h:Int)+1=((h+1:Nat):Int) by omega,np om]
 rw[e1];refine bG (fun h2=>?_) (fun h2=>?_)
 .exact⟨_,_,IK (h:=h+1) (X:=[]) (fun _=>rfl),_,_,_,rfl,.js _ _ _ h6 h2⟩
 have h2:er=0:=by simpa using h2
 subst h2;cases ar with
 |true=>
  cases aE with
  |true=>exact⟨_,_,IK (h:=h+1) (X:=[]) (fun _=>rfl),_,_,_,rfl,.out _ _ _ h6 rfl rfl rfl⟩
  |false=>
   refine⟨⟨rfl,trivial⟩,?_⟩;refine⟨?_,?_⟩
   .show(0+(af (parts.map bP.tD)).length)*16<=_;rw[bP.aU,Nq];omega
   refine⟨⟨rfl,trivial⟩,?_⟩;refine⟨?_,?_⟩
   .show((([]:List (List CC))++af (parts.map bP.tD)).length+(af (t.map bP.tD)).length)*16<=_;rw[abO,bP.aU,bP.aU,Nq,Nq];show(0+parts.length+t.length)*16<=_;omega
   refine⟨trivial,?_⟩;refine⟨trivial,?_⟩;exact⟨_,_,View.o 4 [0] [3] (.eq rfl .nil) (.pt rfl rfl (Wc (t:=t) (parts:=parts) rfl) (.nil _)),_,_,_,rfl,.ok h6 rfl aG⟩
 |false=>
  refine⟨⟨rfl,trivial⟩,?_⟩;refine⟨?_,?_⟩
  .show(0+(af (parts.map bP.tD)).length)*16<=_;rw[bP.aU,Nq];omega
  refine⟨⟨rfl,trivial⟩,?_⟩;refine⟨?_,?_⟩
  .show((([]:List (List CC))++af (parts.map bP.tD)).length+(af (t.map bP.tD)).length)*16<=_;rw[abO,bP.aU,bP.aU,Nq,Nq];show(0+parts.length+t.length)*16<=_;omega
  refine⟨trivial,?_⟩;refine⟨trivial,?_⟩;exact⟨_,_,View.o 4 [0] [3] (.eq rfl .nil) (.pt rfl rfl (Wc (t:=t) (parts:=parts) rfl) (.nil _)),_,_,_,rfl,.ok h6 rfl aG⟩
theorem GU(l:List Ob)(aA:Nat)(aE:Bool)(h a:Nat)(hh:h<=6)(t:List bP.dG)(ht:t.length<=1000)(s:bP.dG){m:Mem}(id:Nat)(hb:dd m id=some (sP l aA aE h a t)){K:CV->Mem->Prop}(hK:∀r h' a' t',N6 (bP.cM s) aE h a t r h' a' t'->K r (bb m id (sP l aA aE h' a' t'))):au Tryz.prog 140 [.rv (.one (.ptr id 0)),bP.vT s] m K:=
 Mt (args:=[bP.vT s]) (fun _=>rfl) (Q:=N6 (bP.cM s) aE h a t) (fun r h a t hq σ=>hq.data σ)
  (bJ (aX Tryz.func140 l140 (IL l aA aE h a hh t ht s)) fun r m1⟨r',m',hv,hq⟩=>⟨r',m',hv,hq⟩) id hb hK
def c114:LF:= ⟨118,[.cell true 3 4,.tmp 5,.tmp 6],(.seq (.ai [qu 4 (.alloc [qd 0,qd 0,(.aa (.val (.string ⟨#[]⟩)))]),qu 5 (.aH (qb false)),qu 6 (.aH (qi 0))]) (.seq (.ai [qm 10 0,qu 11 (.aY 10),qf 12 5 11,ql 13 12,qu 14 (.bW 1 13 (qi 0)),ql 15 14,qm 7 15]) (.seq (.ai [qm 16 0,qm 17 0,qu 18 (.aY 17),qf 19 5 18,ql 20 19,qu 21 (.nh 1 20 (some (qi 1)) none none),qu 22 (.aY 16),qf 23 5 22,qw (.store 1 23 21)]) (.seq (.seq (.bX [qm 24 0,qu 25 (.aY 24),qf 26 0 25,ql 27 26,qm 28 0,qu 29 (.aY 28),qf 30 4 29,ql 31 30,qu 32 (.bW 9 27 31),qf 33 0 32,ql 34 33,qu 35 (.aF .neq 34 (qi 2))] [(.cons 0 none (.cons 1 none (.cons 2 none (.cons 3 none (.cons 4 none (.cons 5 none (.cons 6 none (.cons 7 none (.cons 8 none (.cons 9 none (.cons 10 none (.cons 11 none .nil))))))))))))]) (.cond 35 (.seq (.ai [qu 36 (.build [qd 0,qd 0,(.aa (.val (.string ⟨#[]⟩)))] []),qw (.store 3 4 36),qu 5 (.aH (qb false)),qu 6 (.aH (qi 11))]) .ret) .skip)) (.seq (.seq (.ai [qm 37 7,qu 38 (.aF .eql 37 (.c (.rv (.one (.aa (.val (.string ⟨#[46,46]⟩)))))))]) (.cond 38 (.seq (.seq (.ai [qm 39 0,qu 40 (qc 139 [39]),qu 41 (.un .not 40)]) (.cond 41 (.seq (.ai [qu 42 (.build [qd 0,qd 0,(.aa (.val (.string ⟨#[]⟩)))] []),qw (.store 3 4 42),qu 5 (.aH (qb false)),qu 6 (.aH (qi 14))]) .ret) .skip)) (.seq (.ai [qu 43 (.build [qd 0,qd 0,(.aa (.val (.string ⟨#[]⟩)))] []),qw (.store 3 4 43),qu 5 (.aH (qb false)),qu 6 (.aH (qi 0))]) .ret)) .skip)) (.seq (.bX [qm 44 0,qu 45 (.aY 44),qf 46 0 45,ql 47 46,qm 48 0,qu 49 (.aY 48),qf 50 4 49,ql 51 50,qm 52 7,qu 53 (qc 115 [47,51,52]),qm 8 53] [(.cons 0 none (.cons 1 none (.cons 2 none (.cons 3 none (.cons 4 none (.cons 5 none (.cons 6 none (.cons 7 none (.cons 8 none (.cons 9 (some []) (.cons 10 none .nil)))))))))))]) (.seq (.ai [qm 54 0,qu 55 (.aY 54),qf 56 5 55,ql 57 56,qu 58 (.len 1 57),qu 59 (.aF .eql 58 (qi 0)),qm 9 59]) (.seq (.block 0 (.seq (.ai [qm 61 8,qu 62 (.aF .lss 61 (qi 0)),qm 63 62,qg 64 (.aH 9) 63 true,qu 65 (.pick 63 64 (qb false)),qm 60 65]) (.cond 60 (.seq (.ai [qm 66 0,qu 67 (.aY 66),qf 68 4 67,ql 69 68,qm 70 7,qu 71 (.build [qd 0,qd 0,(.aa (.val (.string ⟨#[]⟩)))] [(0,1,(qi (-1))),(1,1,69),(2,1,70)]),qw (.store 3 4 71),qu 5 (.aH (qb true)),qu 6 (.aH (qi 0))]) .ret) (.seq (.ai [qm 73 8,qu 74 (.aF .lss 73 (qi 0)),qm 72 74]) (.cond 72 (.seq (.ai [qu 75 (.build [qd 0,qd 0,(.aa (.val (.string ⟨#[]⟩)))] []),qw (.store 3 4 75),qu 5 (.aH (qb false)),qu 6 (.aH (qi 6))]) .ret) (.seq (.ai [qm 77 0,qu 78 (.aY 77),qf 79 0 78,ql 80 79,qm 81 8,qu 82 (.bW 9 80 81),qf 83 0 82,ql 84 83,qu 85 (.aF .eql 84 (qi 3)),qm 86 85,qg 87 (.aH 9) 86 true,qg 88 (.un .not 87) 86 true,qg 89 (.aH 88) 86 true,qg 90 (.aH 1) 89 false,qg 91 (.pick 89 (qb true) 90) 86 true,qu 92 (.pick 86 91 (qb false)),qm 76 92]) (.cond 76 (.seq (.ai [qu 93 (.build [qd 0,qd 0,(.aa (.val (.string ⟨#[]⟩)))] []),qm 94 0,qm 95 0,qu 96 (.aY 95),qf 97 0 96,ql 98 97,qm 99 8,qu 100 (.bW 9 98 99),qf 101 3 100,ql 102 101,qu 103 (qc 140 [94,102]),qw (.store 3 4 93),qu 5 (.aH (qb false)),qm 6 103]) .ret) (.seq (.ai [qm 105 9,qm 104 105]) (.cond 104 (.seq (.ai [qm 106 8,qm 107 0,qu 108 (.aY 107),qf 109 4 108,ql 110 109,qm 111 7,qu 112 (.build [qd 0,qd 0,(.aa (.val (.string ⟨#[]⟩)))] [(0,1,106),(1,1,110),(2,1,111)]),qw (.store 3 4 112),qu 5 (.aH (qb true)),qu 6 (.aH (qi 0))]) .ret) .skip))))))))) (.seq (.ai [qm 113 0,qm 114 8,qu 115 (.aY 113),qf 116 4 115,qw (.store 1 116 114)]) (.seq (.ai [qu 117 (.build [qd 0,qd 0,(.aa (.val (.string ⟨#[]⟩)))] []),qw (.store 3 4 117),qu 5 (.aH (qb false)),qu 6 (.aH (qi 0))]) .ret))))))))))⟩
theorem l114:bx Tryz.prog Tryz.f114=some c114:=by kernel_rfl
def Mu(l:List Ob)(aA:Nat)(aE follow:Bool):Nat->Nat->List bP.dG->Nat->R4
 |0=>fun _ _ _=>R4.no 13
 |n+1=>Pa l aE (AZ l aA aE follow n)
theorem SN(l:List Ob)(aA:Nat)(aE follow:Bool)(n:Nat):AZ l aA aE follow n=GR l aA aE follow (Mu l aA aE follow n):=by
 cases n<;>rfl
def Uf(r:R4):List Dt:=[.val (.int .i64 r.bD),.val (.int .i64 r.cT),.val (.string (bP.cK r.name))]
def ZU(r:R4)(ok:Bool):CV:= .bK [.agg ((Uf r).map .aa),.one (.aa (.val (.bool ok))),.one (.aa (.val (.int .i64 r.js)))]
inductive Q7(l:List Ob)(aA:Nat)(aE follow:Bool)(h a:Nat)(s:bP.dG)(t:List bP.dG):CV->Nat->Nat->List bP.dG->Prop
 |done (r:R4) (ok:Bool) (h' a':Nat) (t':List bP.dG) (hd:ok=true\/r.js≠0) (he:AZ l aA aE follow (6-h) (s::t) a=r):Q7 l aA aE follow h a s t (ZU r ok) h' a' t'
 |go (h' a':Nat) (t':List bP.dG) (he:AZ l aA aE follow (6-h) (s::t) a=AZ l aA aE follow (6-h') t' a') (ha:a'<l.length) (hm:h'=h/\t'=t\/h'=h+1/\h<6/\t'.length<=61+t.length):Q7 l aA aE follow h a s t (ZU (R4.no 0) false) h' a' t'
theorem Q7.data{l:List Ob}{aA:Nat}{aE follow:Bool}{h a:Nat}{s:bP.dG}{t:List bP.dG}{r:CV}{h' a':Nat}{t':List bP.dG}(x:Q7 l aA aE follow h a s t r h' a' t')(σ:Nat->Nat):r.aO σ=r:=by cases x<;>rfl
theorem IM(t:List bP.dG):((t.map bP.tD).length:Int)=t.length:=by rw[Nq]
theorem IN(l:List Ob)(ok:m6 l)(aA:Nat)(aE follow:Bool)(h a:Nat)(hh:h<=6)(ha:a<l.length)(s:bP.dG)(t:List bP.dG)(ht:t.length<=1000):
  body Tryz.prog c114 [.rv (.one (.ptr 0 0)),ax follow] [sP l aA aE h a (s::t)] (TV1 fun r m=>∃h' a' t',m=[sP l aA aE h' a' t']/\Q7 l aA aE follow h a s t r h' a' t'):=by
 have hg:=mD ha;have hw:=SN l aA aE follow (6-h);have hS:∀r,GR l aA aE follow (Mu l aA aE follow (6-h)) (s::t) a=r->AZ l aA aE follow (6-h) (s::t) a=r:=fun r e=>by rw[hw];exact e
 refine bY (by rw[ZM,abr,abr,Nq,aar];exact⟨Nat.succ_le_succ (Wi _),SS _⟩) ?_
 rw[show List.drop 1 (List.take (List.map bP.tD (s::t)).length (List.map bP.tD (s::t)))=t.map bP.tD by rw[abp];rfl]
 refine ag hg ?_;refine bG (fun h1=>?_) (fun h1=>?_)
 .exact⟨_,_,IK (fun _=>rfl),_,_,_,rfl,.done (R4.no 11) false _ _ _ (.inr (by simp[R4.no])) (hS _ (by rw[GR,if_pos (by rw[sN ha];exact h1)]))⟩
 have h1:l[a].ah=2:=by simpa using h1
 have pd:¬(lg l a).ah≠2:=by rw[sN ha,h1];simp
 refine bP.kW (b:=[46,46]) (fun h2=>?_) (fun h2=>?_)
 .subst h2;refine Wa l ok aA aE h a ha t 0 rfl (fun h3=>?_) (fun h3=>?_)
  .exact⟨_,_,IK (fun _=>rfl),_,_,_,rfl,.done (R4.no 14) false _ _ _ (.inr (by simp[R4.no])) (hS _ (by rw[GR,if_neg pd,if_pos rfl,if_pos h3]))⟩
  .exact⟨_,_,IK (fun _=>rfl),_,_,_,rfl,.go h (Aa l a) t (hS _ (by rw[GR,if_neg pd,if_pos rfl,if_neg h3,hw])) (ok.SG a) (.inl ⟨rfl,rfl⟩)⟩
 refine Mr l ok a ha h1 s ?_;refine⟨trivial,?_⟩;have hf:=ok.SH a s;have V6:l3 l a s<0->l3 l a s= -1:=fun h=>by
  rcases jo (iw (lg l a)) (bP.cK s)with⟨e,he,_,h3⟩|⟨h3,_⟩
  .have:=(ok.d7 a).2.1 e he;rw[l3,h3]at h;omega
  .exact h3
 have hW:∀r,(if l3 l a s<0 then(if t≠[]then R4.no 6 else⟨-1,a,s,0⟩)else if(lg l (l3 l a s).toNat).ah=3/\(follow=true\/t≠[])then Mu l aA aE follow (6-h) a t (l3 l a s).toNat
  else if t=[]then⟨l3 l a s,a,s,0⟩else GR l aA aE follow (Mu l aA aE follow (6-h)) t (l3 l a s).toNat)=r->AZ l aA aE follow (6-h) (s::t) a=r:=fun r e=>hS r (by rw[GR,if_neg pd,if_neg h2];exact e)
 refine ay (fun h3=>?_) (fun h3=>?_)
 .refine bI (fun h4=>?_) (fun h4=>?_)
  .rw[IM]at h4;have h4:t=[]:=Z1 om;exact⟨_,_,IK (fun _=>rfl),_,_,_,rfl,.done ⟨-1,a,s,0⟩ true _ _ _ (.inl rfl) (hW _ (by rw[if_pos h3,if_neg (by simp[h4])]))⟩
  .rw[IM]at h4;have h4:t≠[]:=fun e=>h4 (by rw[e];rfl)
   refine bY (decide_eq_true h3) ?_;exact⟨_,_,IK (fun _=>rfl),_,_,_,rfl,.done (R4.no 6) false _ _ _ (.inr (by simp[R4.no])) (hW _ (by rw[if_pos h3,if_pos h4]))⟩
 obtain⟨k,Vw,hk⟩:=hf h3;rw[if_neg h3]at hW;refine dU (decide_eq_false h3) ?_;rw[Vw,Z3,sN hk]at hW;have SO:=mD hk;have htg:l[k].target=bP.cK (Mj l k):=by obtain⟨tg,e⟩:=bP.z6 l[k].target;rw[Mj,sN hk,e];rfl
 rw[htg]at SO;rw[Vw];have Wd:¬(l[k].ah=3/\(follow=true\/t≠[]))->∀r,(if t=[]then⟨(k:Int),a,s,0⟩else GR l aA aE follow (Mu l aA aE follow (6-h)) t k)=r->AZ l aA aE follow (6-h) (s::t) a=r:=fun hn r e=>hW r (by rw[if_neg hn];exact e)
 refine ag SO ?_;refine bI (fun h6=>?_) (fun h6=>?_)
 .have h6:l[k].ah=3:=h6;have We:(follow=true\/t≠[])->∀r h' a' t',N6 (bP.cM (Mj l k)) aE h a t r h' a' t'->∃e,r=an .i64 e/\Q7 l aA aE follow h a s t (ZU (R4.no e) false) h' a' t':=by
   intro UJ;rw[if_pos ⟨h6,UJ⟩]at hW;intro r h' a' t' hq;cases hq with
   |loop _ _ _ e6=>exact⟨13,rfl,.done (R4.no 13) false _ _ _ (.inr (by simp[R4.no])) (hW _ (by rw[e6];rfl))⟩
   |js _ _ _ e6 he=>exact⟨_,rfl,.done (R4.no _) false _ _ _ (.inr he) (hW _ (by rw[show 6-h=(5-h)+1 by omega];show Pa _ _ _ _ _ _=_;rw[Pa,if_pos he]))⟩
   |out _ _ _ e6 he hr hf'=>exact⟨14,rfl,.done (R4.no 14) false _ _ _ (.inr (by simp[R4.no])) (hW _ (by rw[show 6-h=(5-h)+1 by omega];show Pa _ _ _ _ _ _=_;rw[Pa,if_neg (by simp[he]),if_pos ⟨hr,hf'⟩]))⟩
   |ok e6 he hr=>exact⟨0,rfl,.go _ _ _ (hW _ (by rw[show 6-h=(5-h)+1 by omega];show Pa _ _ _ _ _ _=_;rw[Pa,if_neg (by simp[he]),if_neg hr,show 6-(h+1)=5-h by omega])) (by split;exact ok.pos;exact ha) (.inr ⟨rfl,om,by rw[abO];have:=p8 (Mj l k);omega⟩)⟩
  refine aC (fun h5=>?_) (fun h5=>?_)
  .have h5:t≠[]:=fun e=>by subst e;cases h5
   refine ag SO ?_;refine GU l aA aE h a hh t ht (Mj l k) 0 rfl fun r h' a' t' hq=>?_
   obtain⟨e,rfl,N5⟩:=We (.inr h5) _ _ _ _ hq;exact⟨_,_,IK (fun _=>rfl),_,_,_,rfl,N5⟩
  .have h5:t=[]:=by
    cases t with
    |nil=>rfl
    |cons x r=>cases h5
   cases follow with
   |true=>
    refine ag SO ?_;refine GU l aA aE h a hh t ht (Mj l k) 0 rfl fun r h' a' t' hq=>?_
    obtain⟨e,rfl,N5⟩:=We (.inl rfl) _ _ _ _ hq;exact⟨_,_,IK (fun _=>rfl),_,_,_,rfl,N5⟩
   |false=>
    have iC:=Wd (by rw[h5];simp)
    rw[if_pos h5]at iC;subst h5;exact⟨_,_,IK (fun _=>rfl),_,_,_,rfl,.done ⟨(k:Nat),a,s,0⟩ true _ _ _ (.inl rfl) (iC _ rfl)⟩
 .have h6:l[k].ah≠3:=h6;have iC:=Wd (fun h=>h6 h.1)
  refine bI (fun h7=>?_) (fun h7=>?_)
  .rw[IM]at h7;have h7:t=[]:=Z1 om;rw[if_pos h7]at iC;exact⟨_,_,IK (fun _=>rfl),_,_,_,rfl,.done ⟨(k:Nat),a,s,0⟩ true _ _ _ (.inl rfl) (iC _ rfl)⟩
  .rw[IM]at h7;have h7:t≠[]:=fun e=>h7 (by rw[e];rfl)
   rw[if_neg h7,<-hw]at iC;exact⟨_,_,IK (fun _=>rfl),_,_,_,rfl,.go h k t (iC _ rfl) hk (.inl ⟨rfl,rfl⟩)⟩
theorem Pg(l:List Ob)(ok:m6 l)(aA:Nat)(aE follow:Bool)(h a:Nat)(hh:h<=6)(ha:a<l.length)(s:bP.dG)(t:List bP.dG)(ht:t.length<=1000){m:Mem}(id:Nat)(hb:dd m id=some (sP l aA aE h a (s::t))){K:CV->Mem->Prop}(hK:∀r h' a' t',Q7 l aA aE follow h a s t r h' a' t'->K r (bb m id (sP l aA aE h' a' t'))):au Tryz.prog 114 [.rv (.one (.ptr id 0)),ax follow] m K:=
 Mt (args:=[ax follow]) (fun _=>rfl) (Q:=Q7 l aA aE follow h a s t) (fun r h a t hq σ=>hq.data σ)
  (bJ (aX Tryz.func114 l114 (IN l ok aA aE follow h a hh ha s t ht)) fun r m1⟨r',m',hv,hq⟩=>⟨r',m',hv,hq⟩) id hb hK
def c74:LF:= ⟨102,[.cell true 3 10,.tmp 11],(.seq (.ai [qu 10 (.alloc [qd 0,qd 0,(.aa (.val (.string ⟨#[]⟩)))]),qu 11 (.aH (qi 0))]) (.seq (.seq (.ai [qm 19 1,qu 20 (.aF .lss 19 (qi 0)),qm 21 20,qg 22 (.aH 1) 21 false,qg 23 (.aH 0) 21 false,qg 24 (.len 1 23) 21 false,qg 25 (.aF .geq 22 24) 21 false,qu 26 (.pick 21 (qb true) 25),qm 27 26,qg 28 (.aH 0) 27 false,qg 29 (.aH 1) 27 false,qg 30 (.bW 9 28 29) 27 false,qg 31 (.br 0 30) 27 false,qg 32 (.load false 1 31) 27 false,qg 33 (.aF .eql 32 (qi 0)) 27 false,qu 34 (.pick 27 (qb true) 33)]) (.cond 34 (.seq (.ai [qu 35 (.build [qd 0,qd 0,(.aa (.val (.string ⟨#[]⟩)))] []),qw (.store 3 10 35),qu 11 (.aH (qi 6))]) .ret) .skip)) (.seq (.seq (.ai [qm 36 0,qm 37 1,qu 38 (.bW 9 36 37),qf 39 0 38,ql 40 39,qu 41 (.aF .neq 40 (qi 2))]) (.cond 41 (.seq (.ai [qu 42 (.build [qd 0,qd 0,(.aa (.val (.string ⟨#[]⟩)))] []),qw (.store 3 10 42),qu 11 (.aH (qi 11))]) .ret) .skip)) (.seq (.ai [qm 44 2,qu 45 (qc 73 [44]),qm 43 45,qu 46 (.ext 43 0),qu 47 (.ext 43 1),qu 48 (.ext 43 2),qm 12 46,qm 13 47,qm 14 48]) (.seq (.seq (.ai [qm 49 14,qu 50 (.aF .neq 49 (qi 0))]) (.cond 50 (.seq (.ai [qu 51 (.build [qd 0,qd 0,(.aa (.val (.string ⟨#[]⟩)))] []),qm 52 14,qw (.store 3 10 51),qm 11 52]) .ret) .skip)) (.seq (.ai [qm 53 0,qm 54 1,qm 55 3,qm 56 1,qm 57 12,qu 58 (.build [.aI,qd 0,(.aa (.val (.bool false))),qd 0,qd 0,.aI] [(0,1,53),(1,1,54),(2,1,55),(4,1,56),(5,1,57)]),qu 59 (.box 58),qm 15 59]) (.seq (.seq (.ai [qm 60 13]) (.cond 60 (.seq (.seq (.ai [qm 61 3]) (.cond 61 (.seq (.ai [qu 62 (.build [qd 0,qd 0,(.aa (.val (.string ⟨#[]⟩)))] []),qw (.store 3 10 62),qu 11 (.aH (qi 14))]) .ret) .skip)) (.ai [qm 63 15,qu 64 (.aY 63),qf 65 4 64,qw (.store 1 65 (qi 0))])) .skip)) (.cu (.seq (.block 0 (.loop (.seq (.seq (.ai [qm 66 15,qu 67 (.aY 66),qf 68 5 67,ql 69 68,qu 70 (.len 1 69),qu 71 (.aF .gtr 70 (qi 0))]) (.cond 71 .skip (.exit 0))) (.block 1 (.seq (.ai [qm 73 15,qm 74 4,qu 75 (qc 114 [73,74]),qm 72 75,qu 76 (.ext 72 0),qu 77 (.ext 72 1),qu 78 (.ext 72 2),qu 16 (.alloc [qd 0,qd 0,(.aa (.val (.string ⟨#[]⟩)))]),qw (.store 3 16 76),qm 17 77,qm 18 78]) (.seq (.ai [qm 79 17,qm 80 79,qg 81 (.aH 18) 80 false,qg 82 (.aF .neq 81 (qi 0)) 80 false,qu 83 (.pick 80 (qb true) 82)]) (.cond 83 (.seq (.ai [qL 84 3 16,qm 85 18,qw (.store 3 10 84),qm 11 85]) .ret) .skip))))))) (.seq (.bX [qm 86 15,qu 87 (.aY 86),qf 88 4 87,ql 89 88,qm 90 15,qu 91 (.aY 90),qf 92 0 91,ql 93 92,qm 94 15,qu 95 (.aY 94),qf 96 4 95,ql 97 96,qu 98 (.bW 9 93 97),qf 99 8 98,ql 100 99,qu 101 (.build [qd 0,qd 0,(.aa (.val (.string ⟨#[]⟩)))] [(0,1,89),(1,1,100)]),qw (.store 3 10 101),qu 11 (.aH (qi 0))] [(.cons 0 none (.cons 1 none (.cons 2 none (.cons 3 none (.cons 4 none (.cons 5 none (.cons 6 none (.cons 7 none (.cons 8 none (.cons 9 none (.cons 10 none (.cons 11 none (.cons 12 none (.cons 13 none (.cons 14 none (.cons 15 none (.cons 16 (some []) (.cons 17 none .nil))))))))))))))))))]) .ret))))))))))⟩
theorem l74:bx Tryz.prog Tryz.f74=some c74.er:=by kernel_rfl
def Ug(r:R4):CV:= .bK [.agg ((Uf r).map .aa),.one (.aa (.val (.int .i64 r.js)))]
theorem Wf(r:R4):(Ug r).BA=true:=rfl
structure StP where
 h:Nat
 a:Nat
 t:List bP.dG
theorem Ph(l:List Ob)(aA:Nat)(aE follow:Bool)(n a:Nat):AZ l aA aE follow n [] a=⟨a,Aa l a,[],0⟩:=by
 cases n<;>rfl
def G9:LC:=lX (bv (bv (bv (bv (bv (bv (bv c74.code)))))))
def Wg:Bk:= .var ((Uf (R4.no 0)).map .aa)
theorem Cg(l:List Ob)(ok:m6 l)(b:Nat)(aE follow:Bool)(a0:Nat)(Uh:a0<l.length)(parts:List bP.dG)(hp:parts.length<=61):
  aw Tryz.prog 0 G9 (mg Tryz.prog c74.kD (fun r m=>r=Ug (AZ l b aE follow 6 parts a0))) ⟨iL 102 [(0,zK l),(4,ax follow),(10,.rv (.one (.ptr 0 0))),(15,.rv (.one (.ptr 1 0)))],[Wg,sP l b aE 0 a0 parts]⟩:=by
 refine aK (fun a:StP=>a.h<=6/\a.a<l.length/\a.t.length<=61*(a.h+1)/\AZ l b aE follow (6-a.h) a.t a.a=AZ l b aE follow 6 parts a0) [0,4,10,15] (fun _=>[]) (fun a=>[Wg,sP l b aE a.h a.a a.t]) (fun a=>(6-a.h)*1000+a.t.length) ⟨0,a0,parts⟩ ⟨Wi _,Uh,by simpa using hp,rfl⟩ ?_ (fun a ha=>?_)
 .refine View.o 2 [0,1] [] ?_ (.pt rfl rfl (.eq rfl (by intro x;cases x)) (.pt rfl rfl (.eq rfl (wh _ _ _ _ _ _)) (.nil _)))
  repeat(first|exact .nil|refine .aq ?_|refine .eq rfl ?_)
 obtain⟨h,a,t⟩:=a;obtain⟨hh,ha,ht,he⟩:=ha;have hh:h<=6:=hh;have ha:a<l.length:=ha;have ht:t.length<=61*(h+1):=ht;have he:AZ l b aE follow (6-h) t a=AZ l b aE follow 6 parts a0:=he;refine ay (fun h1=>?_) (fun h1=>?_)
 .have h1:((t.map bP.tD).length:Int)>0:=h1;rw[IM]at h1;obtain⟨s,t',rfl⟩:∃s t',t=s::t':=by
   cases t with
   |nil=>simp at h1
   |cons s t'=>exact⟨s,t',rfl⟩
  have ht:t'.length+1<=61*(h+1):=by simpa using ht
  refine Pg l ok b aE follow h a hh ha s t' om 1 rfl fun r h' a' Wh hq=>?_
  cases hq with
  |done r okk h' a' Wh hd hr=>
   rw[<-he,hr];cases okk with
   |true=>exact rfl
   |false=>
    have hd:r.js≠0:=by simpa using hd
    refine bG (fun h2=>?_) (fun h2=>?_)
    .exact rfl
    .exact absurd h2 hd
  |go h' a' Wh hr X1 hm=>
   refine⟨⟨h',a',Wh⟩,⟨?_,X1,?_,hr.symm.trans he⟩,?_,View.o 3 [0,1] [] ?_ (.pt rfl rfl (.eq rfl (by intro x;cases x)) (.pt rfl rfl (.eq rfl (wh _ _ _ _ _ _)) (.nil _)))⟩
   .show h'<=6;omega
   .show Wh.length<=61*(h'+1);rcases hm with⟨rfl,rfl⟩|⟨rfl,h6,hl⟩
    .omega
    .omega
   .show(6-h')*1000+Wh.length<(6-h)*1000+(s::t').length;rw[aar];rcases hm with⟨rfl,rfl⟩|⟨rfl,h6,hl⟩
    .omega
    .omega
   .repeat(first|exact .nil|refine .aq ?_|refine .eq rfl ?_)
 .have h1:¬((t.map bP.tD).length:Int)>0:=h1;rw[IM]at h1;have h1:t=[]:=Z1 om;subst h1;rw[Ph]at he;refine ag (mD ha) ?_;refine⟨trivial,?_⟩;rw[<-he,ok.Ml ha];exact rfl
theorem IP(l:List Ob)(ok:m6 l)(aA:Int)(s:bP.dG)(aE follow:Bool):body Tryz.prog c74 [zK l,an .i64 aA,bP.vT s,ax aE,ax follow] [] (fun r m=>r=Ug (pB l aA s aE follow)):=by
 have jc:oc l aA 0=false->pB l aA s aE follow=R4.no 6:=fun h=>by rw[pB,h];rfl
 refine ay (fun h1=>?_) (fun h1=>?_)
 .rw[jc (by rw[oc,decide_eq_false om];rfl)];rfl
 obtain⟨b,rfl⟩:∃b:Nat,aA=b:=⟨aA.toNat,om⟩;refine ay (fun h2=>?_) (fun h2=>?_)
 .have h2:(b:Int)>=((l.map Ob.enc).length:Int):=h2;rw[Nq]at h2;rw[jc (by rw[oc,decide_eq_false (p:=(b:Int)<l.length) om];simp)];rfl
 have h2:¬(b:Int)>=((l.map Ob.enc).length:Int):=h2;rw[Nq]at h2;have hb:b<l.length:=om;have hg:=mD hb;refine ag hg ?_;refine bI (fun h3=>?_) (fun h3=>?_)
 .have h3:l[b].ah=0:=h3;rw[jc (by unfold oc;rw[Z3,IE hb];simp[h3])];rfl
 have h3:l[b].ah≠0:=h3;have hI:oc l b 0=true:=by unfold oc;rw[Z3,IE hb];simp[h3,hb]
 have hL:∀r,(if l[b].ah≠2 then R4.no 11 else if(bP.cM s).2.2≠0 then R4.no (bP.cM s).2.2 else if(bP.cM s).2.1=true/\aE=true then R4.no 14
  else AZ l b aE follow 6 (bP.cM s).1 (if(bP.cM s).2.1=true then 0 else b))=r->pB l b s aE follow=r:=fun r e=>by
  rw[pB,if_pos hI,Z3,sN hb];exact e
 refine ag hg ?_;refine bG (fun h4=>?_) (fun h4=>?_)
 .rw[hL _ (if_pos h4)];rfl
 have h4:l[b].ah=2:=by simpa using h4
 rw[if_neg (by rw[h4];simp)]at hL
 refine bP.v7 s ?_;have hp:=p8 s;generalize bP.cM s=p at hp hL⊢;obtain⟨parts,ar,er⟩:=p;have hp:parts.length<=61:=hp;refine bG (fun h5=>?_) (fun h5=>?_)
 .rw[hL _ (if_pos h5)];rfl
 have h5:er=0:=by simpa using h5
 rw[if_neg (by simp[h5])]at hL
 have view:∀a0:Nat,∀e,ir (sg [0,1] 2) [Wg,sP l b aE 0 a0 parts] (fun k=>bz [] k=true) e (iL 102 [(0,zK l),(4,ax follow),(10,.rv (.one (.ptr 0 0))),(15,.rv (.one (.ptr 1 0)))])->
   View 0 ⟨e,[Wg,sP l b aE 0 a0 parts]⟩ ⟨iL 102 [(0,zK l),(4,ax follow),(10,.rv (.one (.ptr 0 0))),(15,.rv (.one (.ptr 1 0)))],[Wg,sP l b aE 0 a0 parts]⟩:=fun a0 e he=>
  View.o 2 [0,1] [] he (.pt rfl rfl (.eq rfl (by intro x;cases x)) (.pt rfl rfl (.eq rfl (wh _ _ _ _ _ _)) (.nil _)))
 cases ar with
 |true=>
  cases aE with
  |true=>
   rw[hL _ (if_pos ⟨rfl,rfl⟩)];rfl
  |false=>
   rw[hL _ (by rw[if_neg aG,if_pos rfl])]
   refine⟨_,view 0 _ ?_,Cg l ok b false follow 0 ok.pos parts hp⟩;repeat(first|exact .nil|refine .aq ?_|refine .eq rfl ?_)
 |false=>
  rw[hL _ (by rw[if_neg aG,if_neg aG])]
  refine⟨_,view b _ ?_,Cg l ok b aE follow b hb parts hp⟩;repeat(first|exact .nil|refine .aq ?_|refine .eq rfl ?_)
theorem Pi(l:List Ob)(ok:m6 l)(aA:Int)(s:bP.dG)(aE follow:Bool){m:Mem}{K:CV->Mem->Prop}(h:K (Ug (pB l aA s aE follow)) m):au Tryz.prog 74 [zK l,an .i64 aA,bP.vT s,ax aE,ax follow] m K:=by
 refine be (K0:=fun r _=>r=Ug (pB l aA s aE follow)) (cg Tryz.func74 l74 (IP l ok aA s aE follow)) (by simp[zK,an,ax,bP.vT,eK,CV.dm,CC.dm]) fun r m1 hr=>?_
 subst hr;exact⟨_,cJ.self (Wf _),h⟩
theorem SP{es:List NE}(hs:Ea es){s:ByteArray}(hf:zX es s=false)(n:Int):iF (s,n) es=es.take (p6 es s)++(s,n)::es.drop (p6 es s):=by
 obtain⟨h0,h1,h2⟩:=ov hs s es.length 0 es.length om om om (fun k e hk=>absurd hk (abb k)) (fun k e hk he=>by have:=(Mh.1 he).1;omega)
 have hI:IB es s es.length 0 es.length=p6 es s:=rfl;rw[hI]at h0 h1 h2;have e1:∀e,e∈es.take (p6 es s)->Eb e.1 s=false:=fun e he=>by obtain⟨k,hk⟩:=Xf he;have fj:=(Mh.1 hk).1;rw[Z4]at fj;rw[abm,if_pos om]at hk;have h3:=h1 k e om hk;unfold Eb;unfold zI at h3;rw[h3];rfl
 have:=BN (x:=(s,n)) (a:=es.take (p6 es s)) (b:=es.drop (p6 es s)) e1;rw[acT]at this;rw[this];congr 1;cases hd:es.drop (p6 es s)with
 |nil=>rfl
 |cons e r=>
  have mi:es[p6 es s]? =some e:=by
   have:(es.drop (p6 es s))[0]? =some e:=by rw[hd];rfl
   rw[abG]at this;simpa using this
  refine OM ?_;have h3:=h2 (p6 es s) e (SS _) mi;unfold zX at hf;rw[mi]at hf;have fc:¬kV e.1 s=0:=by simpa using hf
  have fc:e.1.toList≠s.toList:=fun h=>fc (v8.2 h)
  show Eb e.1 s=true;unfold Eb;unfold zI at h3;have h3:Op.bytesLess e.1.toList s.toList=false:=by simpa using h3
  rw[h3];simp[fc]
theorem yC{es:List NE}(hs:Ea es)(s:ByteArray):(if zX es s=true then(match es[p6 es s]? with|some e=>e.2|none=>0)else -1)=fE es s:=tR hs (GS hs s) (jo es s)
def c72:LF:= ⟨20,[.tmp 2],(.seq (.ai [qu 1 (.box 0),qu 2 (.aH qe)]) (.seq (.ai [qu 3 (.aH qe)]) (.seq (.seq (.ai [qf 6 2 1,ql 7 6,qu 8 (.len 1 7),qu 9 (.aH (qi 0))]) (.block 0 (.loop (.seq (.ai [qu 10 (.aF .lss 9 8)]) (.seq (.cond 10 .skip (.exit 0)) (.seq (.block 1 (.seq (.ai [qu 11 (.bW 2 7 9),qL 12 2 11,qu 5 (.alloc [(.aa (.val (.string ⟨#[]⟩))),qd 0]),qw (.store 2 5 12)]) (.ai [qm 13 3,qf 14 0 5,ql 15 14,qu 16 (.ln 1 [(.aa (.val (.string ⟨#[]⟩)))] 1 [(0,15)]),qu 17 (.ni 1 16 13 16),qm 3 17]))) (.ai [qu 18 (.aF .add 9 (qi 1)),qm 9 18]))))))) (.seq (.ai [qm 19 3,qm 2 19]) .ret))))⟩
def c119:LF:= ⟨128,[.tmp 8,.tmp 9],(.seq (.ai [qu 8 (.aH qe),qu 9 (.aH (qi 0))]) (.seq (.block 0 (.seq (.ai [qm 14 1,qu 15 (.aF .lss 14 (qi 0)),qm 16 15,qg 17 (.aH 1) 16 false,qg 18 (.aH 0) 16 false,qg 19 (.len 1 18) 16 false,qg 20 (.aF .geq 17 19) 16 false,qu 21 (.pick 16 (qb true) 20),qm 22 21,qg 23 (.aH 0) 22 false,qg 24 (.aH 1) 22 false,qg 25 (.bW 9 23 24) 22 false,qg 26 (.br 0 25) 22 false,qg 27 (.load false 1 26) 22 false,qg 28 (.aF .eql 27 (qi 0)) 22 false,qu 29 (.pick 22 (qb true) 28),qm 30 29,qg 31 (.aH 3) 30 false,qg 32 (.aF .lss 31 (qi 0)) 30 false,qu 33 (.pick 30 (qb true) 32),qm 34 33,qg 35 (.aH 3) 34 false,qg 36 (.aH 0) 34 false,qg 37 (.len 1 36) 34 false,qg 38 (.aF .geq 35 37) 34 false,qu 39 (.pick 34 (qb true) 38),qm 40 39,qg 41 (.aH 0) 40 false,qg 42 (.aH 3) 40 false,qg 43 (.bW 9 41 42) 40 false,qg 44 (.br 0 43) 40 false,qg 45 (.load false 1 44) 40 false,qg 46 (.aF .eql 45 (qi 0)) 40 false,qu 47 (.pick 40 (qb true) 46),qm 13 47]) (.cond 13 (.seq (.ai [qu 8 (.aH qe),qu 9 (.aH (qi 6))]) .ret) (.seq (.ai [qm 49 0,qm 50 1,qu 51 (.bW 9 49 50),qf 52 0 51,ql 53 52,qu 54 (.aF .neq 53 (qi 2)),qm 48 54]) (.cond 48 (.seq (.ai [qu 8 (.aH qe),qu 9 (.aH (qi 11))]) .ret) (.seq (.ai [qm 56 0,qm 57 1,qu 58 (.bW 9 56 57),qf 59 7 58,ql 60 59,qu 61 (.aF .eql 60 (qi 0)),qm 55 61]) (.cond 55 (.seq (.ai [qu 8 (.aH qe),qu 9 (.aH (qi 6))]) .ret) (.seq (.ai [qm 63 2,qu 64 (qc 113 [63]),qu 65 (.un .not 64),qm 66 65,qg 67 (.aH 0) 66 false,qg 68 (.aH 1) 66 false,qg 69 (.aH 2) 66 false,qg 70 (qc 115 [67,68,69]) 66 false,qg 71 (.aF .geq 70 (qi 0)) 66 false,qu 72 (.pick 66 (qb true) 71),qm 62 72]) (.cond 62 (.seq (.ai [qu 8 (.aH qe),qu 9 (.aH (qi 7))]) .ret) (.seq (.ai [qm 74 0,qm 75 1,qu 76 (.bW 9 74 75),qf 77 2 76,ql 78 77,qu 79 (.len 1 78),qu 80 (.aF .geq 79 (qi 8)),qm 73 80]) (.cond 73 (.seq (.ai [qu 8 (.aH qe),qu 9 (.aH (qi 15))]) .ret) .skip))))))))))) (.seq (.ai [qm 81 0,qu 82 (qc 105 [81]),qm 10 82]) (.seq (.ai [qm 84 10,qm 85 1,qu 86 (.bW 9 84 85),qf 87 2 86,ql 88 87,qm 89 2,qu 90 (qc 141 [88,89,(.c (.rv (.one (.fn 146 []))))]),qm 83 90,qu 91 (.ext 83 0),qu 92 (.ext 83 1),qm 11 91,qm 12 92]) (.seq (.ai [qm 93 10,qm 94 1,qm 95 10,qm 96 1,qu 97 (.bW 9 95 96),qf 98 2 97,ql 99 98,qm 100 11,qm 101 2,qm 102 3,qu 103 (.build [(.aa (.val (.string ⟨#[]⟩))),qd 0] [(0,1,101),(1,1,102)]),qu 104 (.ln 2 [(.aa (.val (.string ⟨#[]⟩))),qd 0] 1 [(0,103)]),qu 105 (qc 147 [99,100,104]),qu 106 (.bW 9 93 94),qf 107 2 106,qw (.store 1 107 105)]) (.seq (.ai [qm 108 10,qm 109 3,qu 110 (.bW 9 108 109),qf 111 7 110,ql 112 111,qu 113 (.aF .add 112 (qi 1)),qu 114 (.bW 9 108 109),qf 115 7 114,qw (.store 1 115 113)]) (.seq (.seq (.ai [qm 116 10,qm 117 3,qu 118 (.bW 9 116 117),qf 119 0 118,ql 120 119,qu 121 (.aF .eql 120 (qi 2))]) (.cond 121 (.ai [qm 122 10,qm 123 3,qm 124 1,qu 125 (.bW 9 122 123),qf 126 8 125,qw (.store 1 126 124)]) .skip)) (.cu (.seq (.ai [qm 127 10,qm 8 127,qu 9 (.aH (qi 0))]) .ret)))))))))⟩
def c147:LF:= ⟨95,[.tmp 6],(.seq (.ai [qu 6 (.aH qe)]) (.seq (.ai [qm 10 0,qm 11 1,qu 12 (.nh 2 10 (some 11) none none)]) (.seq (.ai [qm 13 2,qu 14 (.len 1 13),qm 7 14]) (.seq (.seq (.ai [qm 15 7,qu 16 (.aF .eql 15 (qi 0))]) (.cond 16 (.seq (.ai [qm 17 0,qm 6 17]) .ret) .skip)) (.seq (.ai [qm 18 0,qu 19 (.len 1 18),qm 8 19]) (.seq (.seq (.ai [qm 20 1,qm 21 8,qu 22 (.aF .eql 20 21)]) (.cond 22 (.seq (.ai [qm 23 0,qm 24 2,qu 25 (.ni 2 24 23 24),qm 6 25]) .ret) .skip)) (.seq (.seq (.ai [qm 26 8,qm 27 7,qu 28 (.aF .add 26 27),qm 29 0,qu 30 (.ij true []),qu 31 (.aF .gtr 28 30)]) (.cond 31 (.seq (.ai [qm 32 0,qm 33 1,qu 34 (.nh 2 32 none (some 33) none),qm 35 8,qm 36 7,qu 37 (.aF .add 35 36),qm 38 1,qu 39 (.aF .sub 37 38),qu 40 (.ij true []),qm 9 40]) (.seq (.ai [qm 41 9,qm 42 1,qu 43 (.nh 2 41 (some 42) none none),qm 44 2,qu 45 (.copy 2 43 44)]) (.seq (.bX [qm 46 9,qm 47 1,qm 48 7,qu 49 (.aF .add 47 48),qu 50 (.nh 2 46 (some 49) none none),qm 51 0,qm 52 1,qu 53 (.nh 2 51 (some 52) none none),qu 54 (.copy 2 50 53)] [(.cons 0 none (.cons 1 none (.cons 2 none (.cons 3 none (.cons 4 none (.cons 5 none (.cons 6 none (.cons 7 none (.cons 8 (some []) .nil)))))))))]) (.seq (.ai [qm 55 9,qm 6 55]) .ret)))) .skip)) (.seq (.ai [qm 56 0,qm 57 8,qm 58 7,qu 59 (.aF .add 57 58),qu 60 (.nh 2 56 none (some 59) none),qm 0 60]) (.seq (.seq (.ai [qm 61 2,qm 62 0,qm 63 1,qm 64 7,qu 65 (.aF .add 63 64),qu 66 (.nh 2 62 (some 65) none none),qu 67 (qc 158 [61,66]),qu 68 (.un .not 67)]) (.cond 68 (.seq (.bX [qm 69 0,qm 70 1,qm 71 7,qu 72 (.aF .add 70 71),qu 73 (.nh 2 69 (some 72) none none),qm 74 0,qm 75 1,qu 76 (.nh 2 74 (some 75) none none),qu 77 (.copy 2 73 76)] [(.cons 0 none (.cons 1 none (.cons 2 none (.cons 3 none (.cons 4 none (.cons 5 none (.cons 6 none (.cons 7 none (.cons 8 (some []) .nil)))))))))]) (.seq (.ai [qm 78 0,qm 79 1,qu 80 (.nh 2 78 (some 79) none none),qm 81 2,qu 82 (.copy 2 80 81)]) (.seq (.ai [qm 83 0,qm 6 83]) .ret))) .skip)) (.seq (.ai [qm 84 0,qm 85 8,qu 86 (.nh 2 84 (some 85) none none),qm 87 2,qu 88 (.copy 2 86 87)]) (.seq (.ai [qm 89 0,qm 90 1,qu 91 (.nh 2 89 (some 90) none none),qm 92 7,qu 93 (qc 159 [91,92])]) (.seq (.ai [qm 94 0,qm 6 94]) .ret))))))))))))⟩
theorem l72:bx Tryz.prog Tryz.f72=some c72:=by kernel_rfl
theorem l147:bx Tryz.prog Tryz.f147=some c147:=by kernel_rfl
theorem l119:bx Tryz.prog Tryz.f119=some c119.er:=by kernel_rfl
def X2(e:ByteArray×Int):List Dt:=[.val (.string e.1)]
theorem EP(o:Obj)(es:List (ByteArray×Int))(he:o.ak=es.map de)(hl:es.length<=4194304):body Tryz.prog c72 [o.cv] [] (fun r m=>cJ m r (rf 1 (es.map X2))):=by
 obtain⟨ah,data,ak,target,aD,aj,aM,am,up⟩:=o;have he:ak=es.map de:=he;subst he;refine aK (fun k=>k<=es.length) [7,8] (fun k=>[(9,an .i64 (k:Nat)),(3,.rv (.one (.row 0 1 0 none)))]) (fun k=>[.row 1 (af ((es.take k).map X2))]) (fun k=>es.length-k) 0 (Wi _) ?_ (fun k hk=>?_)
 .refine View.trans (View.aI 3 1 1 rfl rfl rfl) (View.o1 2 [1] [] ?_)
  .exact .pn rfl rfl rfl
 have hk:k<=es.length:=hk;refine ay (fun h=>?_) (fun h=>?_)
 .have aB:k<es.length:=by have h:(k:Int)<((es.map de).length:Int):=h;rw[Nq]at h;omega
  refine ag (ou aB) ?_;refine⟨by simp[cD,af];omega,?_⟩
  refine⟨k+1,aB,(show es.length-(k+1)<es.length-k by omega),View.o 4 [3] [] ?_ ?_⟩
  .repeat(first|exact .nil|refine .aq ?_|refine .put (.aO (ap om).symm) ?_|refine .eq rfl ?_)
  .refine .pt rfl rfl (.bM ?_) (.nil _);rw[py (IE aB),abn,bN];rfl
 .have uj:k=es.length:=by have h:¬(k:Int)<((es.map de).length:Int):=h;rw[Nq]at h;omega
  subst uj;rw[abp];exact .rv (.one (d9.dJ rfl 0 none))
theorem Mv(o:Obj)(es:List (ByteArray×Int))(he:o.ak=es.map de)(hl:es.length<=4194304){m:Mem}{K:CV->Mem->Prop}(h:K (rf 1 (es.map X2)) m):au Tryz.prog 72 [o.cv] m K:=
 be (aX Tryz.func72 l72 (EP o es he hl)) (by simp[Obj.cv,Obj.enc,CV.dm,CC.dm,RV.dm]) fun r m1 hf=>⟨_,hf,h⟩
theorem Mw(S:List (List Dt))(e:List Dt)(hl:S.length<=4194304):body Tryz.prog c147 [.rv (.one (.row 0 2 0 none)),an .i64 (S.length:Nat),.rv (.one (.row 1 2 0 none))] [.row 2 (af S),.row 2 (af [e])]
  (fun r m=>r= .rv (.one (.row 2 2 0 none))/\m=[.aW,.aW,.row 2 (af (S++ [e]))]):=by
 have hlen:lenOf (af S).length 0 none=S.length:=dL S;refine bY (by show(Nat.ble S.length (lenOf (af S).length 0 none)&&Nat.ble (lenOf (af S).length 0 none) ((af S).length-0))=true;rw[hlen,dL];simp[abr]) ?_
 refine bI (fun h=>?_) (fun h=>?_)
 .refine⟨by simp[cD,af];omega,rfl,?_⟩
  show [Bk.aW,.aW,.row 2 (cD (af S) 0 none++cD (af [e]) 0 none)]=_;simp[cD,af]
 .exfalso;apply h;show((S.length:Nat):Int)=((lenOf (af S).length 0 none:Nat):Int);rw[hlen]
theorem SQ(S:List (List Dt))(e:List Dt)(hl:S.length<=4194304){m:Mem}{K:CV->Mem->Prop}(a b:Nat)(Dd:gu [a,b]=true)(aB:eO m.length [a,b]=true)(ha:dd m a=some (.row 2 (af S)))(hb:dd m b=some (.row 2 (af [e])))(h:K (.rv (.one (.row m.length 2 0 none))) (dp m [a,b] [.aW,.aW,.row 2 (af (S++ [e]))])):au Tryz.prog 147 [.rv (.one (.row a 2 0 none)),an .i64 (S.length:Nat),.rv (.one (.row b 2 0 none))] m K:=by
 refine bu [a,b] m.length rfl rfl Dd aB (args0:=[.rv (.one (.row 0 2 0 none)),an .i64 (S.length:Nat),.rv (.one (.row 1 2 0 none))]) rfl (m0:=[.row 2 (af S),.row 2 (af [e])]) (fun i b' hi=>?_) (aX Tryz.func147 l147 (Mw S e hl)) (fun r1 m1 hr=>?_)
 .match i,hi with
  |0,hi=>cases hi;exact .inr ⟨fun h=>h,_,by rw[aZ]at ha;exact ha,.bM rfl⟩
  |1,hi=>cases hi;exact .inr ⟨fun h=>h,_,by rw[aZ]at hb;exact hb,.bM rfl⟩
  |n+2,hi=>simp at hi
 .obtain⟨rfl,rfl⟩:=hr;refine⟨aG,?_⟩;show K (.rv (.one (.row (m.length+(2-2)) 2 0 none))) (dp m [a,b] [.aW,.aW,.row 2 ((af (S++ [e])).map (fun cs=>cs.map (CC.aO (sg [a,b] m.length))))])
  rw[gS];exact h
def ZV:LC:=ZT (mG (mG (mG (mG (mG (mG (mG c119.code)))))))
end Go.Proofs.YtojhmadmlnfpcaaGreatDoor
