/- Part 13 of 16. -/
import Derived.Test.YtodckkkbiidffaaGreatDoorK11
import Derived.Test.YtodckkkbiidffaaGreatDoorK12
import Derived.Test.YtodckkkbiidffaaGreatDoorRows
import Derived.Shelf.Strings.Search3
import Derived.Shelf.Strings.OnBuilder
import Derived.RangeFuncNested
import Derived.RangeFuncCalls
import Derived.Shelf.Abstract
import Derived.WalkKit
import Derived.OwnWalkIn
import Derived.TacticsInMore
import Derived.LoopNIn
import Derived.LoopIn
import Derived.Shelf.Spec.SlicesInsert
import Derived.Lib.AppendZerosOnto
import Derived.Laws.NewBlocks
set_option linter.unusedVariables false
set_option linter.unusedSimpArgs false
set_option maxRecDepth 100000
set_option maxHeartbeats 0
namespace Go.Proofs.YtodckkkbiidffaaGreatDoor
open Proofs.Tryz
open Go.AM Go.ChangeShapes Go.WideShapes Go.ChangeAt Go.RowKit
def c54:LF:= ⟨9,[.tmp 2],(.seq (.ai [qu 2 (.aM (qb false))]) (.seq (.ai [qm 3 0,qu 4 (.aJ .geq 3 (qi 0)),qm 5 4,qg 6 (.aM 0) 5 true,qg 7 (.aJ .leq 6 (qi 4095)) 5 true,qu 8 (.pick 5 7 (qb false)),qm 2 8]) .ret))⟩
def c61:LF:= ⟨24,[.tmp 4,.tmp 5,.tmp 6],(.seq (.ai [qu 4 (.aM qe),qu 5 (.aM (qi 0)),qu 6 (.aM (qi 0))]) (.seq (.ai [qm 10 0,qm 11 1,qu 12 (qc 73 [10,11]),qm 9 12,qu 13 (.ext 9 0),qu 14 (.ext 9 1),qu 7 (.alloc [qd 0,qd 0]),qw (.store 2 7 13),qm 8 14]) (.seq (.seq (.ai [qm 15 8,qu 16 (.aJ .neq 15 (qi 0))]) (.cond 16 (.seq (.ai [qm 17 8,qu 4 (.aM qe),qu 5 (.aM (qi 0)),qm 6 17]) .ret) .skip)) (.seq (.ai [qm 18 0,qL 19 2 7,qu 20 (qc 76 [18,19]),qu 21 (.ext 20 0),qu 22 (.ext 20 1),qu 23 (.ext 20 2),qm 4 21,qm 5 22,qm 6 23]) .ret))))⟩
def c73:LF:= ⟨28,[.cell true 2 4,.tmp 5],(.seq (.ai [qu 4 (.alloc [qd 0,qd 0]),qu 5 (.aM (qi 0))]) (.seq (.seq (.ai [qm 6 1,qu 7 (.aJ .lss 6 (qi 0)),qm 8 7,qg 9 (.aM 1) 8 false,qg 10 (.aM 0) 8 false,qg 11 (.len 1 10) 8 false,qg 12 (.aJ .geq 9 11) 8 false,qu 13 (.pick 8 (qb true) 12),qm 14 13,qg 15 (.aM 0) 14 false,qg 16 (.aM 1) 14 false,qg 17 (.cz 3 15 16) 14 false,qg 18 (.b8 0 17) 14 false,qg 19 (.load false 1 18) 14 false,qg 20 (.un .not 19) 14 false,qu 21 (.pick 14 (qb true) 20)]) (.cond 21 (.seq (.ai [qu 22 (.build [qd 0,qd 0] []),qw (.store 2 4 22),qu 5 (.aM (qi 6))]) .ret) .skip)) (.seq (.ai [qm 23 0,qm 24 1,qu 25 (.cz 3 23 24),qf 26 1 25,qL 27 2 26,qw (.store 2 4 27),qu 5 (.aM (qi 0))]) .ret)))⟩
def c76:LF:= ⟨44,[.tmp 4,.tmp 5,.tmp 6],(.seq (.ai [qu 3 (.box 1),qu 4 (.aM qe),qu 5 (.aM (qi 0)),qu 6 (.aM (qi 0))]) (.seq (.seq (.ai [qf 9 1 3,ql 10 9,qu 11 (qc 54 [10]),qu 12 (.un .not 11),qm 13 12,qg 14 (.b8 0 3) 13 false,qg 15 (.load false 1 14) 13 false,qg 16 (.aJ .lss 15 (qi 0)) 13 false,qu 17 (.pick 13 (qb true) 16)]) (.cond 17 (.seq (.ai [qu 4 (.aM qe),qu 5 (.aM (qi 0)),qu 6 (.aM (qi 3))]) .ret) .skip)) (.seq (.ai [qm 18 0,qu 19 (qc 116 [18,(.c (.rv (.one (.fn 117 []))))]),qm 7 19]) (.seq (.seq (.ai [qm 20 7,qu 21 (.aJ .lss 20 (qi 0))]) (.cond 21 (.seq (.seq (.ai [qm 22 0,qu 23 (.len 1 22),qu 24 (.aJ .geq 23 (qi 10))]) (.cond 24 (.seq (.ai [qu 4 (.aM qe),qu 5 (.aM (qi 0)),qu 6 (.aM (qi 15))]) .ret) .skip)) (.ai [qm 25 0,qu 26 (.len 1 25),qm 7 26])) .skip)) (.seq (.ai [qm 27 0,qu 28 (qc 100 [27]),qm 8 28]) (.seq (.seq (.ai [qm 29 7,qm 30 8,qu 31 (.len 1 30),qu 32 (.aJ .eql 29 31)]) (.cond 32 (.ai [qm 33 8,qu 34 (.build [(.ah (.val (.bool false))),qd 0,qd 0] []),qu 35 (.od 3 [(.ah (.val (.bool false))),qd 0,qd 0] 1 [(0,34)]),qu 36 (.pO 3 24 33 35),qm 8 36]) .skip)) (.seq (.ai [qm 37 8,qm 38 7,qL 39 2 3,qu 40 (.build [(.ah (.val (.bool false))),qd 0,qd 0] [(0,1,qb true),(1,2,39)]),qu 41 (.cz 3 37 38),qw (.store 3 41 40)]) (.seq (.ai [qm 42 8,qm 43 7,qm 4 42,qm 5 43,qu 6 (.aM (qi 0))]) .ret))))))))⟩
def c116:LF:= ⟨19,[.tmp 4],(.seq (.ai [qu 4 (.aM (qi 0))]) (.seq (.seq (.ai [qm 6 0,qu 7 (.len 1 6),qu 8 (.aM (qi 0))]) (.block 0 (.loop (.seq (.ai [qu 9 (.aJ .lss 8 7)]) (.seq (.cond 9 .skip (.exit 0)) (.seq (.block 1 (.seq (.ai [qm 10 8,qm 5 10]) (.seq (.ai [qm 11 1,qm 12 0,qm 13 5,qu 14 (.cz 3 12 13),qL 15 3 14,qu 16 (.call 11 [15])]) (.cond 16 (.seq (.ai [qm 17 5,qm 4 17]) .ret) .skip)))) (.ai [qu 18 (.aJ .add 8 (qi 1)),qm 8 18]))))))) (.seq (.ai [qu 4 (.aM (qi (-1)))]) .ret)))⟩
def c117:LF:= ⟨6,[.tmp 2],(.seq (.ai [qu 1 (.box 0),qu 2 (.aM (qb false))]) (.seq (.ai [qf 3 0 1,ql 4 3,qu 5 (.un .not 4),qm 2 5]) .ret))⟩
namespace Tb
structure Cap where
 dF:Int
 bU:Int
 deriving DecidableEq
structure bR where
 has:Bool
 cap:Cap
 deriving DecidableEq
def bR.enc(s:bR):List Dt:=[.val (.bool s.has),.val (.int .i64 s.cap.dF),.val (.int .i64 s.cap.bU)]
def ri(l:List bR):Dt:= .sl 3 (l.map bR.enc)
def d6(l:List bR):CV:= .rv (.one (.ah (ri l)))
def Cap.rv(c:Cap):RV:= .agg [.ah (.val (.int .i64 c.dF)),.ah (.val (.int .i64 c.bU))]
def cK(n:Int):RV:= .one (.ah (.val (.int .i64 n)))
theorem l73:bz prog f73=some c73:=by kernel_rfl
def dV(l:List bR)(fd:Int):Cap×Int:=
 match (if 0<=fd then l[fd.toNat]? else none)with
 |some s=>if s.has then(s.cap,0)else(⟨0,0⟩,6)
 |none=>(⟨0,0⟩,6)
theorem NP(l:List bR)(fd:Int):body prog c73 [d6 l,am .i64 fd] [] (λr m=>r= .bD [(dV l fd).1.rv,cK (dV l fd).2]):=by
 refine aG (λh=>?_) (λh=>?_)
 .have h:fd<0:=of_decide_eq_true h;show CV.bD _=CV.bD _;rw[dV,if_neg om];rfl
 .have h:¬fd<0:=of_decide_eq_false h;refine aG (λh2=>?_) (λh2=>?_)
  .have h2:fd>=((l.map bR.enc).length:Int):=of_decide_eq_true h2;simp at h2;show CV.bD _=CV.bD _;rw[dV,if_pos om,aaE om];rfl
  .have h2:¬fd>=((l.map bR.enc).length:Int):=of_decide_eq_false h2;simp at h2;have aC:fd.toNat<l.length:=om;have hg:dD (l.map bR.enc) fd=some (l[fd.toNat].enc):=by rw[H2,if_pos om,Tm,vU aC];rfl
   have hs:dV l fd=if l[fd.toNat].has then(l[fd.toNat].cap,0)else(⟨0,0⟩,6):=by rw[dV,if_pos om,vU aC]
   refine af hg ?_;refine aG (λh3=>?_) (λh3=>?_)
   .have h3:l[fd.toNat].has=false:=by simpa using h3
    show CV.bD _=CV.bD _;rw[hs,h3];rfl
   .have h3:l[fd.toNat].has=true:=by simpa using h3
    refine af hg ?_;show CV.bD _=CV.bD _;rw[hs,h3];rfl
theorem xL(l:List bR)(fd:Int){m:Mem}{K:CV->Mem->Prop}(h:K (.bD [(dV l fd).1.rv,cK (dV l fd).2]) m):ap prog 73 [d6 l,am .i64 fd] m K:=
 bw func73 l73 rfl (aad rfl) (NP l fd) rfl rfl h
theorem l100:bz prog f100=some c100:=by kernel_rfl
theorem l54:bz prog f54=some c54:=by kernel_rfl
theorem l116:bz prog f116=some c116:=by kernel_rfl
theorem l117:bz prog f117=some c117:=by kernel_rfl
def fm(n:Int):Bool:=decide (n>=0)&&decide (n<=4095)
theorem Ga(n:Int):body prog c54 [am .i64 n] [] (λr m=>r=aD (fm n)):=by
 refine aG (λh=>?_) (λh=>?_)
 .show aD _=aD _;unfold fm;rw[h];rfl
 .show aD _=aD _;unfold fm;rw[h];rfl
theorem xM(n:Int){m:Mem}{K:CV->Mem->Prop}(h:K (aD (fm n)) m):ap prog 54 [am .i64 n] m K:=
 bw func54 l54 rfl (aad rfl) (Ga n) rfl rfl h
def bR.cv(s:bR):CV:= .rv (.agg (s.enc.map .ah))
theorem uh(s:bR):body prog c117 [s.cv] [] (λr m=>r=aD (!s.has)):=by show aD _=aD _;rfl
theorem BD(s:bR){m:Mem}{K:CV->Mem->Prop}(h:K (aD (!s.has)) m):ap prog 117 [s.cv] m K:=
 bw func117 l117 rfl (aad rfl) (uh s) rfl rfl h
def vq{α:Type}(p:α->Bool)(l:List α):Int:=match l.findIdx? p with|some i=>(i:Int)|none=>-1
theorem Gb(l:List bR)(hb:l.length<=2097152)(f:Nat)(p:bR->Bool)(hf:∀(s:bR)(m:Mem)(K:CV->Mem->Prop),K (aD (p s)) m->ap prog f [s.cv] m K):
  body prog c116 [d6 l,.rv (.one (.fn f []))] [] (λr m=>r=am .i64 (vq p l)):=by
 refine M2 (λk=>k<=l.length/\∀(i:Nat)s,i<k->l[i]? =some s->p s=false) (λk=>[(8,am .i64 (k:Nat)),(5,.aA),(9,.aA),(10,.aA),(11,.aA),(12,.aA),(13,.aA),(14,.aA),(15,.aA),(16,.aA),(17,.aA),(18,.aA)])
  (λ_=>[]) (λk=>l.length-k) 0 ⟨aaj _,λi s h=>absurd h (aaU i)⟩ (Dj (aaj _) ?_) (λk hk=>?_)
 .repeat(first|exact .nil|refine .aA ?_|refine .eW ?_)
 .refine aG (λh=>?_) (λh=>?_)
  .have aC:k<l.length:=by have h:(k:Int)<((l.map bR.enc).length:Int):=of_decide_eq_true h;simp at h;omega
   have hg:dD (l.map bR.enc) (k:Nat)=some (l[k].enc):=by rw[bG,Tm,vU aC];rfl
   refine af hg ?_;refine hf l[k] _ _ ?_;refine aG (λh3=>?_) (λh3=>?_)
   .show am _ _=am _ _;have:l.findIdx? p=some k:=by
     rw[aaN];refine⟨aC,h3,λj hj=>?_⟩
     have:=hk.2 j l[j] hj (vU om);simp[this]
    rw[vq,this]
   .refine⟨k+1,⟨aC,λi s hi hs=>?_⟩,?_,Dj (aaj _) ?_⟩
    .rcases aaf i k with h5|h5
     .exact hk.2 i s h5 hs
     .have:i=k:=om;subst this;rw[vU aC]at hs;cases hs;exact h3
    .show l.length-(k+1)<l.length-k;omega
    .repeat(first|exact .nil|refine .aA ?_|refine .put (cj om) ?_|refine .eW ?_)
  .have d8:¬(k:Int)<((l.map bR.enc).length:Int):=of_decide_eq_false h;simp at d8;show am _ _=am _ _;have:l.findIdx? p=none:=by rw[ac1];intro s hs;obtain⟨i,hi⟩:=aaa hs;have:=(Km.1 hi).1;simpa using hk.2 i s om hi
   rw[vq,this]
theorem NQ(l:List bR)(hb:l.length<=2097152)(f:Nat)(p:bR->Bool)(hf:∀(s:bR)(m:Mem)(K:CV->Mem->Prop),K (aD (p s)) m->ap prog f [s.cv] m K){m:Mem}{K:CV->Mem->Prop}(h:K (am .i64 (vq p l)) m):ap prog 116 [d6 l,.rv (.one (.fn f []))] m K:=
 bw func116 l116 rfl (aad rfl) (Gb l hb f p hf) rfl rfl h
def cu(l:List bR):List (List CC):=(l.map bR.enc).map λds=>ds.map CC.ah
theorem DR(l:List bR)(hb:l.length<=2097152):body prog c100 [d6 l] [] (λr m=>(l=[]/\r= .rv (.one .aO))\/(r= .rv (.one (.row 1 3 0 none))/\m[1]? =some (.row 3 ([]++cu l)))):=by
 have tw:((([]:List (List CC)).length+((l.map bR.enc).map λds=>ds.map CC.ah).length)*24)<=140737488355328:=by simp;omega
 refine aG (λh=>?_) (λh=>?_)
 .have hl:l=[]:=aag (by simpa using aai h)
  exact⟨.inl ⟨hl,rfl⟩,tw,.inr ⟨rfl,rfl⟩⟩
 .exact⟨tw,.inr ⟨rfl,rfl⟩⟩
theorem p0(l:List bR)(hb:l.length<=2097152){m:Mem}{K:CV->Mem->Prop}(h1:l=[]->K (.rv (.one .aO)) m)(h2:K (.rv (.one (.row m.length 3 0 none))) (m++ [.row 3 (cu l)])):
  ap prog 100 [d6 l] m K:=by
 refine JQ (aZ func100 l100 (DR l hb)) (by simp[d6,CV.dB,CC.dB]) λr m1 hr=>?_
 rcases hr with⟨hl,rfl⟩|⟨rfl,hm⟩
 .exact .inl ⟨rfl,h1 hl⟩
 .refine .inr ⟨1,3,cu l,rfl,by simpa using hm,λcs fe c hc=>?_,λi cs j d hi hj=>?_,h2⟩
  .simp only[cu,aal]at fe;obtain⟨ds,⟨s,_,rfl⟩,rfl⟩:=fe;obtain⟨d,_,rfl⟩:=aal.1 hc;exact⟨d,rfl⟩
  .have fe:=Tp hi;simp only[cu,aal]at fe;obtain⟨ds,⟨s,_,rfl⟩,rfl⟩:=fe;have hd:=Tp hj;simp only[bR.enc,aaL,adL,aaJ,CC.ah.injEq,ac7,or_false]at hd;rcases hd with rfl|rfl|rfl<;>exact⟨_,rfl⟩
theorem l76:bz prog f76=some c76:=by kernel_rfl
def iR(l:List bR)(c:Cap):List bR×Int×Int:=
 if fm c.bU=false\/c.dF<0 then([],0,3)else
 match l.findIdx? (λs=>!s.has)with
 |some k=>(l.set k ⟨true,c⟩,k,0)
 |none=>if l.length>=10 then([],0,15)else(l++ [⟨true,c⟩],l.length,0)
def jK(l:List bR):RV:= .one (.ah (ri l))
theorem mI{m:Mem}{a b:RV}{x y:Int}(h:fu m a b):cV m (.bD [a,cK x,cK y]) (.bD [b,cK x,cK y]):=by
 refine .bD rfl λi r r' h1 h2=>?_
 match i,h1,h2 with
 |0,h1,h2=>cases h1;cases h2;exact h
 |1,h1,h2=>cases h1;cases h2;exact fu.self rfl
 |2,h1,h2=>cases h1;cases h2;exact fu.self rfl
theorem Io{l:List bR}{c:Cap}{m:Mem}(h:fm c.bU=false\/c.dF<0):cV m (.bD [.one .aO,cK 0,cK 3]) (.bD [jK (iR l c).1,cK (iR l c).2.1,cK (iR l c).2.2]):=by rw[iR,if_pos h];exact mI (.one (.aO 3))
theorem NR{l:List bR}{c:Cap}{m:Mem}(h:¬(fm c.bU=false\/c.dF<0))(hk:l.findIdx? (λs=>!s.has)=none)(hl:l.length>=10):
  cV m (.bD [.one .aO,cK 0,cK 15]) (.bD [jK (iR l c).1,cK (iR l c).2.1,cK (iR l c).2.2]):=by
 rw[iR,if_neg h,hk];simp only;rw[if_pos hl];exact mI (.one (.aO 3))
theorem Ip{l:List bR}{c:Cap}{m:Mem}{id:Nat}(h:¬(fm c.bU=false\/c.dF<0))(hk:l.findIdx? (λs=>!s.has)=none)(hl:¬l.length>=10)(hm:m[id]? =some (.row 3 (cu (l++ [⟨true,c⟩])))):
  cV m (.bD [.one (.row id 3 0 none),cK ((l.map bR.enc).length:Nat),cK 0]) (.bD [jK (iR l c).1,cK (iR l c).2.1,cK (iR l c).2.2]):=by
 rw[iR,if_neg h,hk,Pj];simp only;rw[if_neg hl];exact mI (.one (fk.fl hm 0 none))
theorem Q0{l:List bR}{c:Cap}{m:Mem}{id k:Nat}(h:¬(fm c.bU=false\/c.dF<0))(hk:l.findIdx? (λs=>!s.has)=some k)(hm:m[id]? =some (.row 3 (cu (l.set k ⟨true,c⟩)))):
  cV m (.bD [.one (.row id 3 0 none),cK k,cK 0]) (.bD [jK (iR l c).1,cK (iR l c).2.1,cK (iR l c).2.2]):=by
 rw[iR,if_neg h,hk];exact mI (.one (fk.fl hm 0 none))
theorem NS(l:List bR)(hb:l.length<=2097152)(c:Cap):body prog c76 [d6 l,.rv c.rv] [] (λr m=>cV m r (.bD [jK (iR l c).1,cK (iR l c).2.1,cK (iR l c).2.2])):=by
 refine xM c.bU ?_;refine aG (λh=>?_) (λhr=>?_)
 .exact Io (.inl (by simpa using h))
 .refine aG (λh=>?_) (λho=>?_)
  .exact Io (.inr (of_decide_eq_true h))
  .have fC:¬(fm c.bU=false\/c.dF<0):=by have:=of_decide_eq_false ho;simp at hr;simp[hr];omega
   refine NQ l hb 117 (λs=>!s.has) (λs m K h=>BD s h) ?_
   cases hk:l.findIdx? (λs=>!s.has)with
   |none=>
    have hi:vq (λs:bR=>!s.has) l= -1:=by rw[vq,hk]
    rw[hi];refine aG (λh=>?_) (λh=>?_)
    .have d8:l.length>=10:=by have h:=of_decide_eq_true h;simp at h;omega
     exact NR fC hk d8
    .have aC:¬l.length>=10:=by have h:=of_decide_eq_false h;simp at h;omega
     refine p0 l hb (λhl=>?_) ?_
     .subst hl;refine⟨by decide,?_⟩
      exact Ip fC hk aC rfl
     .refine cN (by simp[cu,lenOf]) ?_
      refine⟨by simp[cu,b9];omega,?_⟩
      have hlen:(cu l).length=l.length:=by simp[cu]
      refine af (bZ (k:=(l.map bR.enc).length) (by simp[cu,lenOf,b9])) ?_
      refine af (x:=[CC.ah (.val (.bool false)),CC.ah (.val (.int .i64 0)),CC.ah (.val (.int .i64 0))]) (by simp[aT,cu,b9,iM]) ?_
      refine Ip (id:=3) fC hk aC ?_;refine congrArg (λx=>some (Bk.row 3 x)) ?_
      show aV (cu l++ [[CC.ah (.val (.bool false)),CC.ah (.val (.int .i64 0)),CC.ah (.val (.int .i64 0))]]) (l.map bR.enc).length [CC.ah (.val (.bool true)),CC.ah (.val (.int .i64 c.dF)),CC.ah (.val (.int .i64 c.bU))]=_;rw[aY,Pj,<-hlen,adH _ _ (Ym _),ac3];simp[cu,bR.enc]
   |some k=>
    have hi:vq (λs:bR=>!s.has) l=(k:Int):=by rw[vq,hk]
    have gA:k<l.length:=(aaN.1 hk).1;rw[hi];refine p0 l hb (λhl=>?_) ?_
    .subst hl;simp at gA
    .have hlen:(cu l).length=l.length:=by simp[cu]
     refine ig (by simp[hlen,lenOf];omega) ?_
     refine af (bZ (k:=k) (by simp[hlen,lenOf];omega)) ?_
     refine af (x:=(l[k].enc).map .ah) (by simp[aT,cu,iM,gA]) ?_
     refine Q0 (id:=1) fC hk ?_;refine congrArg (λx=>some (Bk.row 3 x)) ?_
     show aV (cu l) k [CC.ah (.val (.bool true)),CC.ah (.val (.int .i64 c.dF)),CC.ah (.val (.int .i64 c.bU))]=_;rw[aY];simp[cu,bR.enc]
theorem NT(l:List bR)(hb:l.length<=2097152)(c:Cap){m:Mem}{K:CV->Mem->Prop}(h:K (.bD [jK (iR l c).1,cK (iR l c).2.1,cK (iR l c).2.2]) m):ap prog 76 [d6 l,.rv c.rv] m K:=
 bh (aZ func76 l76 (NS l hb c)) (by simp[d6,Cap.rv,CV.dB,CC.dB]) λr m1 hf=>⟨_,hf,h⟩
theorem l61:bz prog f61=some c61:=by kernel_rfl
def sL(l:List bR)(fd:Int):List bR×Int×Int:=if(dV l fd).2=0 then iR l (dV l fd).1 else([],0,(dV l fd).2)
theorem NU(l:List bR)(hb:l.length<=2097152)(fd:Int):body prog c61 [d6 l,am .i64 fd] [] (λr m=>cV m r (.bD [jK (sL l fd).1,cK (sL l fd).2.1,cK (sL l fd).2.2])):=by
 refine xL l fd ?_;refine aG (λh=>?_) (λh=>?_)
 .have h:¬(dV l fd).2=0:=by simpa using h
  rw[sL,if_neg h];exact mI (.one (.aO 3))
 .have h:(dV l fd).2=0:=by simpa using h
  rw[sL,if_pos h];refine NT l hb (dV l fd).1 ?_;exact cV.self rfl
theorem UN(l:List bR)(hb:l.length<=2097152)(fd:Int){m:Mem}{K:CV->Mem->Prop}(h:K (.bD [jK (sL l fd).1,cK (sL l fd).2.1,cK (sL l fd).2.2]) m):ap prog 61 [d6 l,am .i64 fd] m K:=
 bh (aZ func61 l61 (NU l hb fd)) (by simp[d6,am,CV.dB,CC.dB]) λr m1 hf=>⟨_,hf,h⟩
end Tb
def c21:LF:= ⟨17,[.cell true 12 2],(.seq (.ai [qu 2 (.alloc [(.ah (.val (.bool false))),(.ah (.val (.bool false))),(.ah (.val (.bool false))),(.ah (.val (.bool false))),(.ah (.val (.bool false))),(.ah (.val (.bool false))),(.ah (.val (.bool false))),(.ah (.val (.bool false))),(.ah (.val (.bool false))),(.ah (.val (.bool false))),(.ah (.val (.bool false))),(.ah (.val (.bool false)))])]) (.seq (.ai [qu 3 (.alloc [(.ah (.val (.bool false))),(.ah (.val (.bool false))),(.ah (.val (.bool false))),(.ah (.val (.bool false))),(.ah (.val (.bool false))),(.ah (.val (.bool false))),(.ah (.val (.bool false))),(.ah (.val (.bool false))),(.ah (.val (.bool false))),(.ah (.val (.bool false))),(.ah (.val (.bool false))),(.ah (.val (.bool false)))])]) (.seq (.seq (.ai [qu 5 (.aM (qi 0))]) (.block 0 (.loop (.seq (.ai [qu 6 (.aJ .lss 5 (qi 12))]) (.seq (.cond 6 .skip (.exit 0)) (.seq (.block 1 (.seq (.ai [qm 7 5,qm 4 7]) (.seq (.ai [qm 8 4,qm 9 0,qu 10 (.aJ .rem 9 (qi 2)),qu 11 (.aJ .eql 10 (qi 1)),qu 12 (.wv 12 1 3 8),qw (.store 1 12 11)]) (.ai [qm 13 0,qu 14 (.aJ .quo 13 (qi 2)),qm 0 14])))) (.ai [qu 15 (.aJ .add 5 (qi 1)),qm 5 15]))))))) (.seq (.ai [qL 16 12 3,qw (.store 12 2 16)]) .ret))))⟩
def c44:LF:= ⟨21,[.tmp 2],(.seq (.ai [qu 2 (.aM qe)]) (.seq (.ai [qu 3 (.aM qe)]) (.seq (.seq (.ai [qm 6 0,qu 7 (.len 1 6),qu 8 (.aM (qi 0))]) (.block 0 (.loop (.seq (.ai [qu 9 (.aJ .lss 8 7)]) (.seq (.cond 9 .skip (.exit 0)) (.seq (.block 1 (.seq (.ai [qm 10 8,qu 11 (.cz 3 6 8),qL 12 3 11,qu 5 (.alloc [(.ah (.val (.bool false))),qd 0,qd 0]),qm 4 10,qw (.store 3 5 12)]) (.seq (.ai [qf 13 0 5,ql 14 13]) (.cond 14 (.ai [qm 15 3,qm 16 4,qu 17 (.od 1 [qd 0] 1 [(0,16)]),qu 18 (.pO 1 8 15 17),qm 3 18]) .skip)))) (.ai [qu 19 (.aJ .add 8 (qi 1)),qm 8 19]))))))) (.seq (.ai [qm 20 3,qm 2 20]) .ret))))⟩
def c60:LF:= ⟨43,[.tmp 4,.tmp 5],(.seq (.ai [qu 4 (.aM qe),qu 5 (.aM (qi 0))]) (.seq (.seq (.ai [qm 10 0,qm 11 1,qu 12 (qc 73 [10,11]),qm 9 12,qu 13 (.ext 9 0),qu 14 (.ext 9 1),qu 6 (.alloc [qd 0,qd 0]),qw (.store 2 6 13),qm 7 14]) (.seq (.ai [qm 15 7,qu 16 (.aJ .neq 15 (qi 0))]) (.cond 16 (.seq (.ai [qm 17 7,qu 4 (.aM qe),qm 5 17]) .ret) .skip))) (.seq (.ai [qm 18 0,qu 19 (qc 100 [18]),qm 8 19]) (.seq (.ai [qm 20 8,qm 21 1,qu 22 (.build [(.ah (.val (.bool false))),qd 0,qd 0] []),qu 23 (.cz 3 20 21),qw (.store 3 23 22)]) (.seq (.block 0 (.loop (.seq (.seq (.ai [qm 24 8,qu 25 (.len 1 24),qu 26 (.aJ .gtr 25 (qi 0)),qm 27 26,qg 28 (.aM 8) 27 true,qg 29 (.aM 8) 27 true,qg 30 (.len 1 29) 27 true,qg 31 (.aJ .sub 30 (qi 1)) 27 true,qg 32 (.cz 3 28 31) 27 true,qg 33 (.b8 0 32) 27 true,qg 34 (.load false 1 33) 27 true,qg 35 (.un .not 34) 27 true,qu 36 (.pick 27 35 (qb false))]) (.cond 36 .skip (.exit 0))) (.block 1 (.ai [qm 37 8,qm 38 8,qu 39 (.len 1 38),qu 40 (.aJ .sub 39 (qi 1)),qu 41 (.oG 3 37 none (some 40) none),qm 8 41]))))) (.seq (.ai [qm 42 8,qm 4 42,qu 5 (.aM (qi 0))]) .ret))))))⟩
def c96:LF:= ⟨28,[.cell true 2 6,.tmp 7],(.seq (.ai [qu 6 (.alloc [qd 0,qd 0]),qu 7 (.aM (qi 0))]) (.seq (.ai [qm 11 0,qm 12 1,qu 13 (qc 73 [11,12]),qm 10 13,qu 14 (.ext 10 0),qu 15 (.ext 10 1),qu 8 (.alloc [qd 0,qd 0]),qw (.store 2 8 14),qm 9 15]) (.seq (.seq (.ai [qm 16 9,qu 17 (.aJ .eql 16 (qi 0)),qm 18 17,qg 19 (.aM 2) 18 true,qg 20 (.b8 1 8) 18 true,qg 21 (.load false 1 20) 18 true,qg 22 (qc 101 [19,21]) 18 true,qg 23 (.un .not 22) 18 true,qu 24 (.pick 18 23 (qb false))]) (.cond 24 (.seq (.ai [qu 25 (.build [qd 0,qd 0] []),qw (.store 2 6 25),qu 7 (.aM (qi 10))]) .ret) .skip)) (.seq (.ai [qL 26 2 8,qm 27 9,qw (.store 2 6 26),qm 7 27]) .ret))))⟩
def c101:LF:= ⟨9,[.tmp 4],(.seq (.ai [qu 4 (.aM (qb false))]) (.seq (.ai [qm 5 0,qm 6 1,qu 7 (.aJ .andNot 5 6),qu 8 (.aJ .eql 7 (qi 0)),qm 4 8]) .ret))⟩
namespace Tb
theorem l101:bz prog f101=some c101:=by kernel_rfl
def cZ(a b:Int):Bool:=(IntKind.i64.wrap ((BitVec.ofInt 64 a&&& ~~~ BitVec.ofInt 64 b).toNat:Int))==0
theorem Af(a b:Int){m:Mem}{K:CV->Mem->Prop}(h:K (aD (cZ a b)) m):ap prog 101 [am .i64 a,am .i64 b] m K:=
 bw (r0:=aD (cZ a b)) func101 l101 rfl (aad rfl) (show body prog c101 [am .i64 a,am .i64 b] [] (λr m=>r=aD (cZ a b))from rfl) rfl rfl h
theorem l96:bz prog f96=some c96:=by kernel_rfl
def ov(l:List bR)(fd need:Int):Cap×Int:=
 if(dV l fd).2=0/\cZ need (dV l fd).1.bU=false then(⟨0,0⟩,10)else dV l fd
theorem ui(l:List bR)(fd need:Int):body prog c96 [d6 l,am .i64 fd,am .i64 need] [] (λr m=>r= .bD [(ov l fd need).1.rv,cK (ov l fd need).2]):=by
 refine xL l fd ?_;refine aG (λh=>?_) (λh=>?_)
 .have h:(dV l fd).2=0:=by simpa using h
  refine Af _ _ ?_;refine aG (λh2=>?_) (λh2=>?_)
  .have h2:cZ need (dV l fd).1.bU=false:=by simpa using h2
   show CV.bD _=CV.bD _;rw[ov,if_pos ⟨h,h2⟩];rfl
  .have h2:cZ need (dV l fd).1.bU=true:=by simpa using h2
   show CV.bD _=CV.bD _;rw[ov,if_neg (by simp[h2])];rfl
 .have h:¬(dV l fd).2=0:=by simpa using h
  show CV.bD _=CV.bD _;rw[ov,if_neg (by simp[h])];rfl
theorem kX(l:List bR)(fd need:Int){m:Mem}{K:CV->Mem->Prop}(h:K (.bD [(ov l fd need).1.rv,cK (ov l fd need).2]) m):ap prog 96 [d6 l,am .i64 fd,am .i64 need] m K:=
 bw func96 l96 rfl (aad rfl) (ui l fd need) rfl rfl h
theorem l44:bz prog f44=some c44:=by kernel_rfl
def pd(l:List Int):List (List Dt):=l.map λi=>[.val (.int .i64 i)]
def NV(l:List Int):CV:= .rv (.one (.ah (.sl 1 (pd l))))
def l6:Nat->List bR->List Int
 |_,[]=>[]
 |k,s::r=>if s.has then(k:Int)::l6 (k+1) r else l6 (k+1) r
theorem sM:∀(l:List bR)(k:Nat),(l6 k l).length<=l.length
 | [],k=>by simp[l6]
 |s::r,k=>by
  have:=sM r (k+1);simp only[l6];split<;>simp<;>omega
theorem Ag(l:List bR)(k i:Nat)(h:i<l.length):l6 k (l.take (i+1))=if l[i].has then l6 k (l.take i)++ [((k+i:Nat):Int)]else l6 k (l.take i):=by
 induction l generalizing k i with
 |nil=>simp at h
 |cons s r ih=>
  cases i with
  |zero=>simp[l6]
  |succ i=>
   simp at h;have:=ih (k+1) i h;rw[show k+1+i=k+(i+1) by omega]at this
   simp only[List.take_succ_cons,l6,this,List.getElem_cons_succ];split<;>split<;>simp
theorem NW(l:List bR)(hb:l.length<=2097152):body prog c44 [d6 l] [] (λr m=>cV m r (NV (l6 0 l))):=by
 refine ni (λk=>k<=l.length) (λk=>[(8,am .i64 (k:Nat)),(3,.rv (.one (.row 0 1 0 none))),(4,.aA),(5,.aA),(9,.aA),(10,.aA),(11,.aA),(12,.aA),(13,.aA),(14,.aA),(15,.aA),(16,.aA),(17,.aA),(18,.aA),(19,.aA)])
  (λk=>[.row 1 (aa (pd (l6 0 (l.take k))))]) (λk=>l.length-k) 0 (aaj _) ?_ (λk hk=>?_)
 .refine View.trans (View.aO 3 1 0 rfl rfl rfl) (View.o1 1 [0] [] ?_)
  .exact .put (by simp[br]) rfl (.FM (.row 1 []) aE) (.nil _)
 .refine aG (λh=>?_) (λh=>?_)
  .have aC:k<l.length:=by have h:(k:Int)<((l.map bR.enc).length:Int):=of_decide_eq_true h;simp at h;omega
   have hg:dD (l.map bR.enc) (k:Nat)=some (l[k].enc):=by rw[bG,Tm,vU aC];rfl
   refine af hg ?_;refine aG (λh3=>?_) (λh3=>?_)
   .have hlen:(l6 0 (l.take k)).length<=2097152:=by have:=sM (l.take k) 0;simp at this;omega
    refine⟨?_,?_⟩
    .show((aa (pd (l6 0 (l.take k)))).length+1)*8<=_;simp[aa,pd];omega
    .refine⟨k+1,aC,?_,View.o 4 [3] [] ?_ ?_⟩
     .show l.length-(k+1)<l.length-k;omega
     .repeat(first|exact .nil|refine .aA ?_|refine .put (.bb (cj om).symm) ?_|refine .eq rfl ?_)
     .refine .put (by simp[br]) rfl (.bL ?_) (.nil _)
      rw[Ag l 0 k aC,if_pos h3];simp[aa,pd,b9]
   .refine⟨k+1,aC,?_,View.o 2 [0] [] ?_ ?_⟩
    .show l.length-(k+1)<l.length-k;omega
    .repeat(first|exact .nil|refine .aA ?_|refine .put (.bb (cj om).symm) ?_|refine .eq rfl ?_)
    .refine .put (by simp[br]) rfl (.bL ?_) (.nil _)
     rw[Ag l 0 k aC,if_neg (by simp[h3])]
  .have d8:¬(k:Int)<((l.map bR.enc).length:Int):=of_decide_eq_false h;simp at d8;have e:l.take k=l:=abM d8;rw[e];exact .rv (.one (fk.fl rfl 0 none))
theorem UO(l:List bR)(hb:l.length<=2097152){m:Mem}{K:CV->Mem->Prop}(h:K (NV (l6 0 l)) m):ap prog 44 [d6 l] m K:=
 bh (aZ func44 l44 (NW l hb)) (by simp[d6,CV.dB,CC.dB]) λr m1 hf=>⟨_,hf,h⟩
theorem l60:bz prog f60=some c60:=by kernel_rfl
def Ah:Nat->Nat->List bR->Nat
 |_,b,[]=>b
 |k,b,s::r=>Ah (k+1) (if s.has then k+1 else b) r
theorem Gc(l:List bR)(k b i:Nat)(h:i<l.length):Ah k b (l.take (i+1))=if l[i].has then k+i+1 else Ah k b (l.take i):=by
 induction l generalizing k b i with
 |nil=>simp at h
 |cons s r ih=>
  cases i with
  |zero=>simp[Ah]
  |succ i=>
   simp at h;have:=ih (k+1) (if s.has then k+1 else b) i h
   rw[show k+1+i=k+(i+1) by omega]at this
   simp only[List.take_succ_cons,Ah,this,List.getElem_cons_succ]
def qF(l:List bR):Nat:=Ah 0 0 l
theorem Gd(l:List bR)(i:Nat)(h:i<l.length):qF (l.take (i+1))=if l[i].has then i+1 else qF (l.take i):=by rw[qF,Gc l 0 0 i h];simp[qF]
def pf:bR:=⟨false,⟨0,0⟩⟩
def mL(l:List bR)(fd:Int):List bR×Int:=
 if(dV l fd).2=0 then((l.set fd.toNat pf).take (qF (l.set fd.toNat pf)),0)else([],(dV l fd).2)
theorem Iq{l:List bR}{fd:Int}(h:(dV l fd).2=0):∃k:Nat,fd=k/\∃hk:k<l.length,l[k].has=true/\(dV l fd).1=l[k].cap:=by
 unfold dV at h;split at h
 .rename_i s hs;split at hs
  .refine⟨fd.toNat,om,(Km.1 hs).1,?_⟩;have e:=(Km.1 hs).2;split at h
   .rename_i h0 hh;rw[e];refine⟨hh,?_⟩;rw[dV,if_pos h0,hs];simp[hh]
   .simp at h
  .cases hs
 .simp at h
theorem kW{m:Mem}{a b:RV}{x:Int}(h:fu m a b):cV m (.bD [a,cK x]) (.bD [b,cK x]):=by
 refine .bD rfl λi r r' h1 h2=>?_
 match i,h1,h2 with
 |0,h1,h2=>cases h1;cases h2;exact h
 |1,h1,h2=>cases h1;cases h2;exact fu.self rfl
theorem DT{m:Mem}{id h:Nat}{l:List bR}(hm:m[id]? =some (.row 3 (aa (l.map bR.enc)))):fk m (.row id 3 0 (some h)) (.ah (ri (l.take h))):=by
 have h1:fk m (.row id 3 0 (some h)) (.ah (.sl 3 (b9 (l.map bR.enc) 0 (some h)))):=fk.fl hm 0 (some h);have h2:b9 (l.map bR.enc) 0 (some h)=(l.take h).map bR.enc:=by simp[b9,adh]
 rw[h2]at h1;exact h1
theorem Ge(l:List bR)(hb:l.length<=2097152)(fd:Int):body prog c60 [d6 l,am .i64 fd] [] (λr m=>cV m r (.bD [jK (mL l fd).1,cK (mL l fd).2])):=by
 refine xL l fd ?_;refine aG (λh=>?_) (λh=>?_)
 .have h:¬(dV l fd).2=0:=by simpa using h
  rw[mL,if_neg h];exact kW (.one (.aO 3))
 .have h:(dV l fd).2=0:=by simpa using h
  rw[mL,if_pos h];obtain⟨k,rfl,hk,X3,_⟩:=Iq h;refine p0 l hb (λhl=>by subst hl;simp at hk) ?_
  refine af (bZ (k:=k) (by simp[cu,lenOf];omega)) ?_
  refine af (x:=(l[k].enc).map .ah) (by simp[aT,cu,iM,hk]) ?_
  have jC:aV (cu l) (iM 0 k) [CC.ah (.val (.bool false)),CC.ah (.val (.int .i64 0)),CC.ah (.val (.int .i64 0))]=aa ((l.set k pf).map bR.enc):=by rw[aY];simp[cu,bR.enc,aa,iM,pf]
  have hlen:(l.set k pf).length=l.length:=aE;rw[show((k:Nat):Int).toNat=k from rfl];generalize l.set k pf=l2 at jC hlen;refine ni (λh=>h<=l2.length/\qF (l2.take h)=qF l2) (λh=>[(8,.rv (.one (.row 1 3 0 (some h)))),(24,.aA),(25,.aA),(26,.aA),(27,.aA),(28,.aA),(29,.aA),(30,.aA),(31,.aA),(32,.aA),(33,.aA),(34,.aA),(35,.aA),(36,.aA),(37,.aA),(38,.aA),(39,.aA),(40,.aA),(41,.aA),(19,.aA),(20,.aA),(23,.aA)])
   (λh=>[.aS,.row 3 (aa (l2.map bR.enc))]) (λh=>h) l2.length ⟨Ym _,by rw[aaV]⟩ ?_ (λh hh=>?_)
  .refine View.o 2 [0,1] [] ?_ ?_
   .repeat(first|exact .nil|refine .aA ?_|refine .put (.hi rfl rfl ((congrArg List.length jC).trans (by simp[aa]))) ?_|refine .eq rfl ?_)
   .exact .aS (.put (by simp[br]) rfl (.bL jC) (.nil _))
  .refine aG (λh2=>?_) (λh2=>?_)
   .have h2:0<h:=by have h2:((h:Nat):Int)>0:=of_decide_eq_true h2;omega
    obtain⟨j,rfl⟩:∃j,h=j+1:=⟨h-1,om⟩;have hj:j<l2.length:=om;have hi:(IntKind.i64.wrap (((j+1:Nat):Int)-1))=((j:Nat):Int):=by rw[<-mr (n:=j) om];congr 1;omega
    have t6:dZ (IntKind.i64.wrap (((j+1:Nat):Int)-1)) (j+1)=some j:=by rw[hi];exact bZ om
    refine af t6 ?_;refine af (x:=(l2[j].enc).map .ah) (by simp[aT,aa,iM,hj]) ?_
    have ht:=Gd l2 j hj;refine aG (λh3=>?_) (λh3=>?_)
    .have h3:l2[j].has=false:=by simpa using h3
     refine af (x:=j) (by show qV (.rv (.one (.ah (.val (.int .i64 (IntKind.i64.wrap (((j+1:Nat):Int)-1)))))))=_;rw[hi];rfl) ?_
     refine cN (by simp[lenOf,aa9,aa];try omega) ?_
     refine⟨j,⟨om,by rw[h3]at ht;simp at ht;rw[<-ht];exact hh.2⟩,ab5 j,View.o1 2 [0,1] [] ?_⟩
     .exact .aS (.put (by simp[br]) rfl (.bL rfl) (.nil _))
    .have h3:l2[j].has=true:=by simpa using h3
     have:qF l2=j+1:=by rw[<-hh.2,ht,if_pos h3]
     rw[this];exact kW (.one (DT rfl))
   .have h2:h=0:=by have h2:¬((h:Nat):Int)>0:=of_decide_eq_false h2;omega
    subst h2;have:qF l2=0:=by rw[<-hh.2];rfl
    rw[this];exact kW (.one (DT rfl))
theorem NX(l:List bR)(hb:l.length<=2097152)(fd:Int){m:Mem}{K:CV->Mem->Prop}(h:K (.bD [jK (mL l fd).1,cK (mL l fd).2]) m):ap prog 60 [d6 l,am .i64 fd] m K:=
 bh (aZ func60 l60 (Ge l hb fd)) (by simp[d6,am,CV.dB,CC.dB]) λr m1 hf=>⟨_,hf,h⟩
end Tb
def c29:LF:= ⟨22,[.tmp 4],(.seq (.ai [qu 2 (.box 0),qu 4 (.aM (qb false))]) (.seq (.ai [qm 5 1,qu 6 (.aJ .geq 5 (qi 0)),qm 7 6,qg 8 (.aM 1) 7 true,qg 9 (.b8 2 2) 7 true,qg 10 (.load false 1 9) 7 true,qg 11 (.len 1 10) 7 true,qg 12 (.aJ .lss 8 11) 7 true,qu 13 (.pick 7 12 (qb false)),qm 14 13,qg 15 (.b8 2 2) 14 true,qg 16 (.load false 1 15) 14 true,qg 17 (.aM 1) 14 true,qg 18 (.cz 4 16 17) 14 true,qg 19 (.b8 0 18) 14 true,qg 20 (.load false 1 19) 14 true,qu 21 (.pick 14 20 (qb false)),qm 4 21]) .ret))⟩
def c113:LF:= ⟨19,[.tmp 4],(.seq (.ai [qu 4 (.aM (qi 0))]) (.seq (.seq (.ai [qm 6 0,qu 7 (.len 1 6),qu 8 (.aM (qi 0))]) (.block 0 (.loop (.seq (.ai [qu 9 (.aJ .lss 8 7)]) (.seq (.cond 9 .skip (.exit 0)) (.seq (.block 1 (.seq (.ai [qm 10 8,qm 5 10]) (.seq (.ai [qm 11 1,qm 12 0,qm 13 5,qu 14 (.cz 2 12 13),qL 15 2 14,qu 16 (.call 11 [15])]) (.cond 16 (.seq (.ai [qm 17 5,qm 4 17]) .ret) .skip)))) (.ai [qu 18 (.aJ .add 8 (qi 1)),qm 8 18]))))))) (.seq (.ai [qu 4 (.aM (qi (-1)))]) .ret)))⟩
def c114:LF:= ⟨6,[.tmp 2],(.seq (.ai [qu 1 (.box 0),qu 2 (.aM (qb false))]) (.seq (.ai [qf 3 0 1,ql 4 3,qu 5 (.aJ .lss 4 (qi 0)),qm 2 5]) .ret))⟩
def c118:LF:= ⟨37,[.tmp 2],(.seq (.ai [qu 2 (.aM (qi 0))]) (.seq (.seq (.ai [qu 5 (.aM (qi 0))]) (.block 0 (.loop (.seq (.ai [qu 6 (.aJ .lss 5 (qi 8))]) (.seq (.cond 6 .skip (.exit 0)) (.seq (.block 1 (.seq (.ai [qm 7 5,qu 3 (.alloc [qd 0]),qw (.store 1 3 7)]) (.seq (.seq (.bV [ql 8 3,qm 9 0,qu 10 (.aP 9),qf 11 2 10,ql 12 11,qu 13 (.len 1 12),qu 14 (.aJ .eql 8 13)] [eK 7 0 .nil]) (.cond 14 (.seq (.ai [ql 15 3,qm 2 15]) .ret) .skip)) (.seq (.ai [qm 16 0,qu 17 (.aP 16),qf 18 0 17,ql 19 18,qu 20 (.fn 141 [3]),qu 21 (qc 80 [19,20]),qm 4 21]) (.seq (.bV [qm 22 0,qu 23 (.aP 22),qf 24 2 23,ql 25 24,ql 26 3,qu 27 (.cz 4 25 26),qf 28 0 27,ql 29 28,qu 30 (.un .not 29),qm 31 30,qg 32 (.aM 4) 31 true,qg 33 (.un .not 32) 31 true,qu 34 (.pick 31 33 (qb false))] [eK 13 0 .nil]) (.cond 34 (.seq (.ai [ql 35 3,qm 2 35]) .ret) .skip)))))) (.ai [qu 36 (.aJ .add 5 (qi 1)),qm 5 36]))))))) (.seq (.ai [qu 2 (.aM (qi (-1)))]) .ret)))⟩
def c141:LF:= ⟨13,[.tmp 3],(.seq (.ai [qu 2 (.box 0),qu 3 (.aM (qb false))]) (.seq (.ai [qf 4 0 2,ql 5 4,qu 6 (.aJ .eql 5 (qi 5)),qm 7 6,qg 8 (.b8 6 2) 7 true,qg 9 (.load false 1 8) 7 true,qg 10 (.load false 1 1) 7 true,qg 11 (.aJ .eql 9 10) 7 true,qu 12 (.pick 7 11 (qb false)),qm 3 12]) .ret))⟩
theorem l29:bz prog Tryz.f29=some c29:=by kernel_rfl
def fL(ps:List bi)(p:Int):Bool:=decide (p>=0)&&(decide (p<ps.length)&&match ps[p.toNat]? with|some x=>x.aL|none=>false)
theorem Gf(l:List Obj)(ops:List bH)(ps:List bi)(p:Int):body prog c29 [eI l ops ps,am .i64 p] [] (λr m=>r=aD (fL ps p)):=by
 refine aN (λh0=>?_) (λh0=>?_)
 .obtain⟨n,rfl⟩:∃n:Nat,p=n:=⟨p.toNat,om⟩;refine aN (λh=>?_) (λh=>?_)
  .have aC:n<ps.length:=by have h:(n:Int)<((ps.map bi.enc).length:Int):=h;rw[Pj]at h;omega
   refine af (dG aC) ?_;have hS:fL ps (n:Int)=ps[n].aL:=by simp[fL,aC]
   show aD _=aD _;rw[hS]
  .have d8:¬n<ps.length:=by have h:¬(n:Int)<((ps.map bi.enc).length:Int):=h;rw[Pj]at h;omega
   have hS:fL ps (n:Int)=false:=by simp[fL,d8]
   show aD _=aD _;rw[hS]
 .have hS:fL ps p=false:=by have:decide (p>=0)=false:=decide_eq_false h0;simp[fL,this]
  show aD _=aD _;rw[hS]
theorem pg(l:List Obj)(ops:List bH)(ps:List bi)(p:Int){m:Mem}{K:CV->Mem->Prop}(h:K (aD (fL ps p)) m):ap prog 29 [eI l ops ps,am .i64 p] m K:=
 bw func29 l29 rfl (aad rfl) (Gf l ops ps p) (by simp[eI,dm,ff,gG,am,CV.dB,CC.dB,RV.dB]) rfl h
theorem ph{ps:List bi}{p:Int}(h:fL ps p=true):∃n:Nat,p=n/\∃hn:n<ps.length,ps[n].aL=true:=by
 unfold fL at h;by_cases h0:p>=0
 .obtain⟨n,rfl⟩:∃n:Nat,p=n:=⟨p.toNat,om⟩;by_cases hn:n<ps.length
  .refine⟨n,rfl,hn,?_⟩;simpa[hn]using h
  .simp[hn]at h
 .simp[h0]at h
theorem Q1{ps:List bi}{n:Nat}(hn:n<ps.length)(h:ps[n].aL=true):fL ps (n:Int)=true:=by simp[fL,hn,h]
theorem l118:bz prog f118=some c118:=by kernel_rfl
theorem l141:bz prog f141=some c141:=by kernel_rfl
theorem Gg(o:Obj)(p:Int):body prog c141 [o.cv,.rv (.one (.ptr 0 0))] [.var ([Dt.val (.int .i64 p)].map .ah)] (λr m=>r=aD (dJ p o)/\∃ex,m= .var ([Dt.val (.int .i64 p)].map .ah)::ex):=by
 refine aG (λh=>?_) (λh=>?_)
 .refine⟨?_,_,rfl⟩;show aD _=aD _;rw[dJ,h];rfl
 .refine⟨?_,_,rfl⟩;show aD _=aD _;rw[dJ,h];rfl
theorem X4(o:Obj)(p:Int)(K:CV->Mem->Prop)(h:K (aD (dJ p o)) [.var ([Dt.val (.int .i64 p)].map .ah)]):ap prog 141 [o.cv,.rv (.one (.ptr 0 0))] [.var ([Dt.val (.int .i64 p)].map .ah)] K:=
 eY rfl (aZ func141 l141 (Gg o p)) h
def sN(l:List Obj)(ps:List bi)(p:Nat):Bool:=match ps[p]? with
 |some x=>!x.aL&& !(l.any (dJ (p:Nat)))
 |none=>false
def pi(l:List Obj)(ps:List bi):Nat->Nat->Int
 |0,_=>-1
 |n+1,p=>if p=ps.length then(p:Nat)else if sN l ps p=true then(p:Nat)else pi l ps n (p+1)
def g9(l:List Obj)(ps:List bi):Int:=pi l ps 8 0
def kC(l:List Obj)(ops:List bH)(ps:List bi):List Dt:=[dm l,ff ops,gG ps]
theorem uh(l:List Obj)(hl:l.length<=4194304)(ops:List bH)(ps:List bi):body prog c118 [.rv (.one (.ptr 0 0))] [.var ((kC l ops ps).map .ah)] (λr m=>r=am .i64 (g9 l ps)/\∃ex,m= .var ((kC l ops ps).map .ah)::ex):=by
 refine bc (λp=>p<=8/\p<=ps.length/\pi l ps (8-p) p=g9 l ps) [0] (λp=>[(5,am .i64 (p:Nat))]) (λ_=>[.var ((kC l ops ps).map .ah)]) (λp=>8-p) 0 ⟨om,aaj _,rfl⟩ ?_ (λp hp=>?_)
 .refine View.o1 1 [0] [] ?_
  .exact .au
 obtain⟨hp8,jZ,LR⟩:=hp;have hp8:p<=8:=hp8;have jZ:p<=ps.length:=jZ;have LR:pi l ps (8-p) p=g9 l ps:=LR;refine aN (λh=>?_) (λh=>?_)
 .have aC:p<8:=by have h:(p:Int)<8:=h;omega
  rw[show 8-p=(8-(p+1))+1 by omega,pi]at LR
  refine bs (λhe=>?_) (λhe=>?_)
  .have he:p=ps.length:=by have he:(p:Int)=((ps.map bi.enc).length:Int):=he;rw[Pj]at he;omega
   rw[if_pos he]at LR;rw[<-LR];exact⟨rfl,_,rfl⟩
  .have dh:¬p=ps.length:=by intro hh;apply he;show(p:Int)=((ps.map bi.enc).length:Int);rw[Pj];omega
   rw[if_neg dh]at LR;have Df:p<ps.length:=om;have Qj:sN l ps p=(!ps[p].aL&& !(l.any (dJ (p:Nat)))):=by rw[sN,vU Df]
   refine fA (args0:=[cC l,.rv (.one (.fn 141 [0]))]) (cs:=[.val (.int .i64 (p:Nat))]) 1 rfl rfl (r0:=aD (l.any (dJ (p:Int)))) rfl (λK hK=>uc l hl 141 _ _ (λs K hK=>X4 s _ K hK) K hK) ?_
   refine af (dG Df) ?_;rw[Qj]at LR;have go:(!ps[p].aL&& !(l.any (dJ (p:Nat))))=false->pi l ps (8-(p+1)) (p+1)=g9 l ps:=λhh=>by
    rw[if_neg (by rw[hh];simp)]at LR;exact LR
   refine aG (λh1=>?_) (λh1=>?_)
   .refine aG (λh2=>?_) (λh2=>?_)
    .rw[if_pos (by rw[h1,h2];rfl)]at LR
     rw[<-LR];exact⟨rfl,_,rfl⟩
    .refine⟨p+1,⟨om,om,go (by rw[h2,Bool.and_false])⟩,(show 8-(p+1)<8-p by omega),View.o2 2 [0] [] ?_⟩
     .exact .au
   .refine⟨p+1,⟨om,om,go (by rw[h1,adS])⟩,(show 8-(p+1)<8-p by omega),View.o2 2 [0] [] ?_⟩
    .exact .au
 .have hp:p=8:=by have h:¬(p:Int)<8:=h;omega
  subst hp;rw[show g9 l ps= -1 from LR.symm];exact⟨rfl,_,rfl⟩
theorem BD(l:List Obj)(hl:l.length<=4194304)(ops:List bH)(ps:List bi)(K:CV->Mem->Prop)(h:K (am .i64 (g9 l ps)) [.var ((kC l ops ps).map .ah)]):ap prog 118 [.rv (.one (.ptr 0 0))] [.var ((kC l ops ps).map .ah)] K:=
 eY rfl (aZ func118 l118 (uh l hl ops ps)) h
theorem l113:bz prog f113=some c113:=by kernel_rfl
theorem l114:bz prog f114=some c114:=by kernel_rfl
def bH.cv(o:bH):CV:= .rv (.agg (o.enc.map .ah))
theorem Gh(o:bH):body prog c114 [o.cv] [] (λr m=>r=aD (decide (o.bm<0))):=by show aD _=aD _;rfl
theorem X5(o:bH){m:Mem}{K:CV->Mem->Prop}(h:K (aD (decide (o.bm<0))) m):ap prog 114 [o.cv] m K:=
 bw func114 l114 rfl (aad rfl) (Gh o) rfl rfl h
def EW(l:List bH):Option Nat:=l.findIdx? λo=>decide (o.bm<0)
def LS(l:List bH):Int:=match EW l with|some i=>(i:Nat)|none=>-1
theorem Kf(l:List bH)(hb:l.length<=4194304):body prog c113 [.rv (.one (.ah (ff l))),.rv (.one (.fn 114 []))] [] (λr m=>r=am .i64 (LS l)):=by
 refine bc (λk=>k<=l.length/\∀(i:Nat)s,i<k->l[i]? =some s->¬s.bm<0) [0,1,7] (λk=>[(8,am .i64 (k:Nat))]) (λ_=>[]) (λk=>l.length-k) 0 ⟨aaj _,λi s h=>absurd h (aaU i)⟩ ?_ (λk hk=>?_)
 .refine View.o1 0 [] [] (.nil _)
 obtain⟨gA,UA⟩:=hk;have gA:k<=l.length:=gA;refine aN (λh=>?_) (λh=>?_)
 .have aC:k<l.length:=by have h:(k:Int)<((l.map bH.enc).length:Int):=h;rw[Pj]at h;omega
  refine af (pZ aC) ?_;refine X5 l[k] ?_;refine aN (λh3=>?_) (λh3=>?_)
  .show am _ _=am _ _;have:EW l=some k:=by
    rw[EW,aaN];exact⟨aC,by simpa using h3,λj hj=>by simpa using UA j _ hj (vU om)⟩
   rw[LS,this]
  .refine⟨k+1,⟨aC,λi s hi hs=>?_⟩,(show l.length-(k+1)<l.length-k by omega),View.o 0 [] [] ?_ (.nil _)⟩
   .rcases aaf i k with h5|h5
    .exact UA i s h5 hs
    .have:i=k:=om;subst this;rw[vU aC]at hs;cases hs;exact h3
   .repeat(first|exact .nil|refine .aA ?_|refine .put (.bb (cj om).symm) ?_|refine .eq rfl ?_)
 .have d8:k=l.length:=by have h:¬(k:Int)<((l.map bH.enc).length:Int):=h;rw[Pj]at h;omega
  show am _ _=am _ _;have:EW l=none:=by rw[EW,ac1];intro s hs;obtain⟨i,hi⟩:=aaa hs;have:=(Km.1 hi).1;simpa using UA i s om hi
  rw[LS,this]
theorem Ir(l:List bH)(hb:l.length<=4194304){m:Mem}{K:CV->Mem->Prop}(h:K (am .i64 (LS l)) m):ap prog 113 [.rv (.one (.ah (ff l))),.rv (.one (.fn 114 []))] m K:=
 bw func113 l113 rfl (aad rfl) (Kf l hb) (by simp[ff,CV.dB,CC.dB,RV.dB]) rfl h
def c78:LF:= ⟨36,[.cell true 3 6,.tmp 7],(.seq (.ai [qu 3 (.box 0),qu 6 (.alloc [.aO,.aO,.aO]),qu 7 (.aM (qi 0))]) (.seq (.seq (.ai [qL 9 3 3,qm 10 1,qu 11 (qc 29 [9,10]),qu 12 (.un .not 11)]) (.cond 12 (.seq (.ai [qu 13 (.build [.aO,.aO,.aO] []),qw (.store 3 6 13),qu 7 (.aM (qi 6))]) .ret) .skip)) (.seq (.seq (.ai [qm 14 2,qu 15 (.aJ .lss 14 (qi 0)),qm 16 15,qg 17 (.aM 2) 16 false,qg 18 (.aJ .gtr 17 (qi 255)) 16 false,qu 19 (.pick 16 (qb true) 18)]) (.cond 19 (.seq (.ai [qu 20 (.build [.aO,.aO,.aO] []),qw (.store 3 6 20),qu 7 (.aM (qi 3))]) .ret) .skip)) (.seq (.ai [qL 21 3 3,qu 22 (qc 59 [21]),qu 8 (.alloc [.aO,.aO,.aO]),qw (.store 3 8 22)]) (.seq (.bV [qf 23 2 8,ql 24 23,qm 25 1,qf 26 2 3,ql 27 26,qm 28 1,qu 29 (.cz 4 27 28),qf 30 1 29,ql 31 30,qm 32 2,qu 33 (.build [(.ah (.val (.bool false))),(.ah (.val (.bool false))),qd 0,.aO] [(1,1,31),(2,1,32)]),qu 34 (.cz 4 24 25),qw (.store 4 34 33)] [(eK 12 0 (.cons 12 (some []) .nil))]) (.cX (.seq (.ai [qL 35 3 8,qw (.store 3 6 35),qu 7 (.aM (qi 0))]) .ret)))))))⟩
theorem l78:bz prog f78=some c78.er:=by kernel_rfl
def ke(k:Kr):RV:= .agg [.ah (dm k.l),.ah (ff k.ops),.ah (gG k.ps)]
def sO:Kr:=⟨[],[],[]⟩
def gE(k:Kr)(p code:Int):Kr×Int:=
 if fL k.ps p=false then(sO,6)else if code<0\/code>255 then(sO,3)
 else(⟨k.l,k.ops,k.ps.set p.toNat ⟨false,(match k.ps[p.toNat]? with|some x=>x.fenced|none=>false),code,[]⟩⟩,0)
theorem i7{m:Mem}:fu m (.agg [.aO,.aO,.aO]) (ke sO):=by
 refine .agg rfl λi c c' h1 h2=>?_
 match i,h1,h2 with
 |0,h1,h2=>cases h1;cases h2;exact .aO 9
 |1,h1,h2=>cases h1;cases h2;exact .aO 2
 |2,h1,h2=>cases h1;cases h2;exact .aO 4
 |n+3,h1,h2=>simp at h1
theorem Is(k:Kr):(ke k).dB=true:=by simp[ke,dm,ff,gG,CV.dB,CC.dB,RV.dB]
theorem NY{m:Mem}{Z:Nat->Prop}{p:Option Nat}{id:Nat}{ps:List bi}{k:Nat}{c:List CC}{x:bi}(hc:kN m Z (some id) c x.enc)(hz:Z id)(hm:m[id]? =some (.row 4 (aV (aa (ps.map bi.enc)) k c))):
  d5 m Z p (.row id 4 0 none) (gG (ps.set k x)):=by
 rw[aY]at hm;refine d5.row id 4 0 none _ _ hz hm (by simp[aa]) (λi cs es h1 h2=>?_) (λi cs es j c' d h1 h2 h3 h4=>?_)
 .rw[aaW]at h1;rw[Tm,aaW]at h2;by_cases e:k=i
  .subst e;rw[if_pos rfl]at h1 h2;split at h1
   .cases h1;split at h2
    .cases h2;exact hc.len
    .cases h2
   .cases h1
  .rw[if_neg e]at h1 h2;rw[aa,Tm,Tm]at h1;cases hi:ps[i]? with
   |none=>rw[hi]at h1;cases h1
   |some y=>rw[hi]at h1 h2;cases h1;cases h2;simp
 .rw[aaW]at h1;rw[Tm,aaW]at h2;by_cases e:k=i
  .subst e;rw[if_pos rfl]at h1 h2;split at h1
   .cases h1;split at h2
    .cases h2;exact hc.get j _ _ h3 h4
    .cases h2
   .cases h1
  .rw[if_neg e]at h1 h2;rw[aa,Tm,Tm]at h1;cases hi:ps[i]? with
   |none=>rw[hi]at h1;cases h1
   |some y=>
    rw[hi]at h1 h2;cases h1;cases h2;have h4:y.enc[j]? =some d:=h4;rw[Tm,h4]at h3;cases h3;exact .ah d
def G15:LC:=rf (bN (bN (bN (bN (bN c78.code)))))
theorem Kg(k:Kr)(hk:dN k.l k.ops k.ps)(p code:Int):body prog c78 [eI k.l k.ops k.ps,am .i64 p,am .i64 code] [] (λr m=>cV m r (.bD [ke (gE k p code).1,cK (gE k p code).2])):=by
 refine pg k.l k.ops k.ps p ?_;refine aG (λh1=>?_) (λh1=>?_)
 .have h1:fL k.ps p=false:=by simpa using h1
  rw[gE,if_pos h1];exact kW i7
 have h1:fL k.ps p=true:=by simpa using h1
 obtain⟨n,rfl,hn,bC⟩:=ph h1;rw[gE,if_neg (by rw[h1];simp)]
 refine aN (λh2=>?_) (λh2=>?_)
 .rw[if_pos (.inl h2)];exact kW i7
 refine aN (λh3=>?_) (λh3=>?_)
 .rw[if_pos (.inr h3)];exact kW i7
 rw[if_neg (λh=>h.elim h2 h3)]
 refine i4 k.l k.ops k.ps ⟨hk.ll,λo ho=>(hk.sm o ho).oB⟩ hk.lo hk.lp hk.sl hk.ne ?_
 have hg:=dG hn;have hr:=bK bi.enc k.ps hn;have hx:(match k.ps[((n:Nat):Int).toNat]? with|some x=>x.fenced|none=>false)=k.ps[n].fenced:=by rw[show((n:Nat):Int).toNat=n from rfl,vU hn]
 rw[hx,show((n:Nat):Int).toNat=n from rfl];generalize k.ps[n]=y at hg hr;obtain⟨aL,fenced,cd,aQ⟩:=y;refine af hg ?_;refine af (mJ hn) ?_;refine af hr ?_;have d9:aw prog 0 G15 (oO prog c78.l8 (λr m=>cV m r (.bD [ke ⟨k.l,k.ops,k.ps.set n ⟨false,fenced,code,[]⟩⟩,cK 0]))) ⟨kS 36 [(6,.rv (.one (.ptr 1 0))),(8,.rv (.one (.ptr 2 0)))],[.var ((kC k.l k.ops k.ps).map .ah),.var [.aO,.aO,.aO],.var ((kC k.l k.ops (k.ps.set n ⟨false,fenced,code,[]⟩)).map .ah)]⟩:=by exact kW (fu.self (Is _))
 refine⟨?_,_,View.o 6 [0,1,5] [2,3,4] ?_ ?_,d9⟩
 .exact trivial
 .repeat(first|exact .nil|refine .aA ?_|refine .eq rfl ?_)
 .refine .pt rfl rfl (.eq rfl (by simp[kC])) (.pe rfl rfl rfl (.pt rfl rfl (fv.var (.cons (.fQ (d5.fl (Z:=λk=>br [2,3,4] k=true) rfl rfl 0 none)) (.cons (.fQ (d5.fl (Z:=λk=>br [2,3,4] k=true) rfl rfl 0 none)) (.cons (.fQ (NY (Z:=λk=>br [2,3,4] k=true) ?_ rfl rfl)) .nil)))) (.nil _)))
  exact .cons (.ah _) (.cons (.ah _) (.cons (.ah _) (.cons (.aO 3) .nil)))
theorem BE(k:Kr)(hk:dN k.l k.ops k.ps)(p code:Int){m:Mem}{K:CV->Mem->Prop}(h:K (.bD [ke (gE k p code).1,cK (gE k p code).2]) m):ap prog 78 [eI k.l k.ops k.ps,am .i64 p,am .i64 code] m K:=
 bh (ct func78 l78 (Kg k hk p code)) (by simp[eI,dm,ff,gG,am,CV.dB,CC.dB,RV.dB]) λr m1 hf=>⟨_,hf,h⟩
def c72:LF:= ⟨74,[.cell true 3 8,.tmp 9,.tmp 10],(.seq (.ai [qu 4 (.box 0),qu 8 (.alloc [.aO,.aO,.aO]),qu 9 (.aM (qi 0)),qu 10 (.aM (qi 0))]) (.seq (.ai [qf 16 1 4,ql 17 16,qu 18 (qc 113 [17,(.c (.rv (.one (.fn 114 []))))]),qm 11 18]) (.seq (.seq (.ai [qm 19 11,qu 20 (.aJ .lss 19 (qi 0))]) (.cond 20 (.seq (.seq (.ai [qf 21 1 4,ql 22 21,qu 23 (.len 1 22),qu 24 (.aJ .geq 23 (qi 60))]) (.cond 24 (.seq (.ai [qu 25 (.build [.aO,.aO,.aO] []),qw (.store 3 8 25),qu 9 (.aM (qi 0)),qu 10 (.aM (qi 15))]) .ret) .skip)) (.ai [qf 26 1 4,ql 27 26,qu 28 (.len 1 27),qm 11 28])) .skip)) (.cX (.seq (.ai [qf 30 2 4,ql 31 30,qm 32 1,qu 33 (.cz 4 31 32),qf 34 3 33,ql 35 34,qm 36 11,qm 37 3,qu 38 (.build [qd 0,qd 0] [(0,1,36),(1,1,37)]),qu 39 (qc 76 [35,38]),qm 29 39,qu 40 (.ext 29 0),qu 41 (.ext 29 1),qu 42 (.ext 29 2),qm 12 40,qm 13 41,qm 14 42]) (.seq (.seq (.ai [qm 43 14,qu 44 (.aJ .neq 43 (qi 0))]) (.cond 44 (.seq (.ai [qu 45 (.build [.aO,.aO,.aO] []),qm 46 14,qw (.store 3 8 45),qu 9 (.aM (qi 0)),qm 10 46]) .ret) .skip)) (.seq (.ai [qL 47 3 4,qu 48 (qc 59 [47]),qu 15 (.alloc [.aO,.aO,.aO]),qw (.store 3 15 48)]) (.seq (.seq (.ai [qm 49 11,qf 50 1 15,ql 51 50,qu 52 (.len 1 51),qu 53 (.aJ .eql 49 52)]) (.cond 53 (.ai [qf 54 1 15,ql 55 54,qu 56 (.build [qd 0,qd 0] []),qu 57 (.od 2 [qd 0,qd 0] 1 [(0,56)]),qu 58 (.pO 2 16 55 57),qf 59 1 15,qw (.store 1 59 58)]) .skip)) (.cX (.seq (.ai [qf 60 1 15,ql 61 60,qm 62 11,qm 63 2,qu 64 (.build [qd 0,qd 0] [(0,1,63)]),qu 65 (.cz 2 61 62),qw (.store 2 65 64)]) (.seq (.ai [qf 66 2 15,ql 67 66,qm 68 1,qm 69 12,qu 70 (.cz 4 67 68),qf 71 3 70,qw (.store 1 71 69)]) (.seq (.ai [qL 72 3 15,qm 73 13,qw (.store 3 8 72),qm 9 73,qu 10 (.aM (qi 0))]) .ret))))))))))))⟩
theorem l72:bz prog f72=some c72.er:=by kernel_rfl
def jm(s:eh):Tb.bR:=⟨s.has,⟨s.dF,s.bU⟩⟩
def It(s:Tb.bR):eh:=⟨s.has,s.cap.dF,s.cap.bU⟩
theorem Q2(l:List eh):(l.map jm).map Tb.bR.enc=l.map eh.enc:=by rw[abF];rfl
theorem Q3(l:List Tb.bR):(l.map It).map eh.enc=l.map Tb.bR.enc:=by rw[abF];rfl
theorem Ai(l:List eh):Tb.ri (l.map jm)=ze l:=by rw[Tb.ri,Q2];rfl
theorem p4(l:List Tb.bR):Tb.jK l=Ns (l.map It):=by show RV.one (.ah (.sl 3 (l.map Tb.bR.enc)))= .one (.ah (.sl 3 ((l.map It).map eh.enc)));rw[Q3]
def fw(l:List eh)(dF bU:Int):List eh×Int×Int:=((Tb.iR (l.map jm) ⟨dF,bU⟩).1.map It,(Tb.iR (l.map jm) ⟨dF,bU⟩).2.1,(Tb.iR (l.map jm) ⟨dF,bU⟩).2.2)
theorem BF(l:List eh)(hb:l.length<=2097152)(dF bU:Int){m:Mem}{K:CV->Mem->Prop}(h:K (.bD [Ns (fw l dF bU).1,cK (fw l dF bU).2.1,cK (fw l dF bU).2.2]) m):
  ap prog 76 [nu l,.rv (.agg [.ah (.val (.int .i64 dF)),.ah (.val (.int .i64 bU))])] m K:=by
 have:=Tb.NT (l.map jm) (by simpa using hb) ⟨dF,bU⟩ (m:=m) (K:=K) (by rw[p4];exact h)
 have e:Tb.d6 (l.map jm)=nu l:=by show CV.rv (.one (.ah (Tb.ri (l.map jm))))=_;rw[Ai];rfl
 rw[e]at this;exact this
def cY(ops:List bH):Nat:=(EW ops).getD ops.length
def an(ps:List bi)(n:Nat):List eh:=match ps[n]? with|some x=>x.aQ|none=>[]
def jy(ops:List bH)(i:Nat)(o:bH):List bH:=if i=ops.length then ops++ [o]else ops.set i o
def cS(ps:List bi)(n:Nat)(l:List eh):List bi:=match ps[n]? with|some x=>ps.set n {x with aQ:=l}|none=>ps
def aF(k:Kr)(n:Nat)(bm bU:Int):Kr×Int×Int:=
 if EW k.ops=none/\k.ops.length>=60 then(sO,0,15)
 else if(fw (an k.ps n) (cY k.ops) bU).2.2≠0 then(sO,0,(fw (an k.ps n) (cY k.ops) bU).2.2)
 else(⟨k.l,jy k.ops (cY k.ops) ⟨bm,0⟩,cS k.ps n (fw (an k.ps n) (cY k.ops) bU).1⟩,(fw (an k.ps n) (cY k.ops) bU).2.1,0)
theorem BG{ops:List bH}{i:Nat}(h:EW ops=some i):i<ops.length:=(aaN.1 h).1
def C30:LC:=bN (bN (bN c72.code))
def G30:LC:=rf C30
def C60:LC:=bN (bN (bN (bN G30)))
def G60:LC:=rf C60
def M60(l:List Obj)(O:List bH)(ps:List bi):Mem:=[.var [.aO,.aO,.aO],.row 9 (aa (l.map Obj.enc)),.row 2 (aa (O.map bH.enc)),.row 4 (aa (ps.map bi.enc)),.var [.row 1 9 0 none,.row 2 2 0 none,.row 3 4 0 none]]
theorem X6{m:Mem}{a b c:Nat}{l:List Obj}{ops:List bH}{ps:List bi}(h1:m[a]? =some (.row 9 (aa (l.map Obj.enc))))(h2:m[b]? =some (.row 2 (aa (ops.map bH.enc))))(h3:m[c]? =some (.row 4 (aa (ps.map bi.enc)))):
  fu m (.agg [.row a 9 0 none,.row b 2 0 none,.row c 4 0 none]) (ke ⟨l,ops,ps⟩):=by
 refine .agg rfl λi c c' e1 e2=>?_
 match i,e1,e2 with
 |0,e1,e2=>cases e1;cases e2;exact fk.fl h1 0 none
 |1,e1,e2=>cases e1;cases e2;exact fk.fl h2 0 none
 |2,e1,e2=>cases e1;cases e2;exact fk.fl h3 0 none
 |n+3,e1,e2=>simp at e1
theorem Th(l:List Obj)(O:List bH)(ps:List bi)(n i:Nat)(hn:n<ps.length)(hi:i<O.length)(bm fd:Int)(y:List eh):
  aw prog 0 G60 (oO prog c72.l8 (λr m=>cV m r (.bD [ke ⟨l,O.set i ⟨bm,0⟩,cS ps n y⟩,cK fd,cK 0])))
   ⟨kS 74 [(1,am .i64 (n:Nat)),(2,am .i64 bm),(8,.rv (.one (.ptr 0 0))),(11,am .i64 (i:Nat)),(12,nu y),(13,am .i64 fd),(15,.rv (.one (.ptr 4 0)))],M60 l O ps⟩:=by
 refine af (Bx hi) ?_;have ho:=bK bH.enc O hi;generalize O[i]=x at ho;obtain⟨xo,xa⟩:=x;refine af ho ?_;refine af (mJ hn) ?_;have hp:=bK bi.enc ps hn;have qk:cS ps n y=ps.set n {ps[n]with aQ:=y}:=by rw[cS,vU hn]
 rw[qk];generalize ps[n]=z at hp;obtain⟨aL,fenced,cd,aQ⟩:=z;refine af hp ?_;refine mI (X6 ?_ ?_ ?_) (fu.self rfl)
 .rfl
 .refine congrArg (λx=>some (Bk.row 2 x)) ?_
  show aV (aa (O.map bH.enc)) i ((bH.enc ⟨bm,0⟩).map .ah)=_;rw[aY,aa,aa,abv,abv]
 .refine congrArg (λx=>some (Bk.row 4 x)) ?_
  show aV (aa (ps.map bi.enc)) n ((bi.enc ⟨aL,fenced,cd,y⟩).map .ah)=_;rw[aY,aa,aa,abv,abv]
theorem Ti(k:Kr)(hk:dN k.l k.ops k.ps)(n:Nat)(hn:n<k.ps.length)(bm bU:Int)(i:Nat)(hi:i=cY k.ops)(yU:i<=k.ops.length)(kF:¬(EW k.ops=none/\k.ops.length>=60)):
  aw prog 0 G30 (oO prog c72.l8 (λr m=>cV m r (.bD [ke (aF k n bm bU).1,cK (aF k n bm bU).2.1,cK (aF k n bm bU).2.2])))
   ⟨kS 74 [(1,am .i64 (n:Nat)),(2,am .i64 bm),(3,am .i64 bU),(4,.rv (.one (.ptr 0 0))),(8,.rv (.one (.ptr 1 0))),(11,am .i64 (i:Nat))],[.var ((kC k.l k.ops k.ps).map .ah),.var [.aO,.aO,.aO]]⟩:=by
 have uj:an k.ps n=k.ps[n].aQ:=by rw[an,vU hn]
 have zK:=hk.sl _ (aaw hn);have UP:k.ops.length<=4194304:=hk.lo;rw[aF,if_neg kF,uj,<-hi];refine af (dG hn) ?_;generalize k.ps[n].aQ=S at zK;refine BF S om (i:Nat) bU ?_;generalize fw S (i:Nat) bU=A;obtain⟨y,fd,e⟩:=A;refine bx (λhe=>?_) (λhe=>?_)
 .rw[if_pos he];exact mI i7 (fu.self rfl)
 have he:e=0:=he;subst he;rw[if_neg aE];refine i4 k.l k.ops k.ps ⟨hk.ll,λo ho=>(hk.sm o ho).oB⟩ hk.lo hk.lp hk.sl hk.ne ?_
 refine bs (λme=>?_) (λme=>?_)
 .have me:i=k.ops.length:=by have me:(i:Int)=((aa (k.ops.map bH.enc)).length:Int):=me;rw[bg,Pj]at me;omega
  have jC:jy k.ops i ⟨bm,0⟩=(k.ops++ [bH.mk 0 0]).set i ⟨bm,0⟩:=by rw[jy,if_pos me,me];simp
  rw[jC];refine⟨by simp only[b9,bg,Pj,aau,abl];omega,?_⟩
  refine⟨_,View.o1 8 [1,2,7,4,5] [] ?_,Th k.l (k.ops++ [bH.mk 0 0]) k.ps n i hn (by simp;omega) bm fd y⟩
  .exact .pe rfl rfl rfl (.pr rfl rfl rfl (.pt rfl rfl (.bL (by simp[b9,aa,bH.enc])) (.pr rfl rfl rfl (.pm rfl rfl rfl))))
 .have aC:i<k.ops.length:=by have me:¬(i:Int)=((aa (k.ops.map bH.enc)).length:Int):=me;rw[bg,Pj]at me;omega
  have jC:jy k.ops i ⟨bm,0⟩=k.ops.set i ⟨bm,0⟩:=by rw[jy,if_neg om]
  rw[jC];refine⟨_,View.o1 6 [1,2,3,4,5] [] ?_,Th k.l k.ops k.ps n i hn aC bm fd y⟩
  .exact .au
theorem DU(k:Kr)(hk:dN k.l k.ops k.ps)(n:Nat)(hn:n<k.ps.length)(bm bU:Int):body prog c72 [eI k.l k.ops k.ps,am .i64 (n:Nat),am .i64 bm,am .i64 bU] []
  (λr m=>cV m r (.bD [ke (aF k n bm bU).1,cK (aF k n bm bU).2.1,cK (aF k n bm bU).2.2])):=by
 refine Ir k.ops hk.lo ?_;have UP:k.ops.length<=4194304:=hk.lo;cases ho:EW k.ops with
 |none=>
  have UQ:LS k.ops= -1:=by rw[LS,ho]
  have P1:cY k.ops=k.ops.length:=by rw[cY,ho];rfl
  rw[UQ];refine aN (λxN=>?_) (λxN=>?_)
  .have xN:k.ops.length>=60:=by have xN:((k.ops.map bH.enc).length:Int)>=60:=xN;rw[Pj]at xN;omega
   rw[aF,if_pos ⟨ho,xN⟩];exact mI i7 (fu.self rfl)
  .have xN:¬k.ops.length>=60:=by have xN:¬((k.ops.map bH.enc).length:Int)>=60:=xN;rw[Pj]at xN;omega
   refine⟨_,View.o 2 [0,1] [] ?_ ?_,Ti k hk n hn bm bU k.ops.length P1.symm (Ym _) (λh=>xN h.2)⟩
   .have hlen:am .i64 (((k.ops.map bH.enc).length:Nat):Int)=am .i64 ((k.ops.length:Nat):Int):=by rw[Pj]
    repeat(first|exact .nil|refine .aA ?_|refine .eq rfl ?_)
    refine .eq hlen.symm ?_;repeat(first|exact .nil|refine .aA ?_|refine .eq rfl ?_)
   .exact .au
 |some i=>
  have UQ:LS k.ops=(i:Nat):=by rw[LS,ho]
  have P1:cY k.ops=i:=by rw[cY,ho];rfl
  have yU:=BG ho;rw[UQ];refine⟨_,View.o1 2 [0,1] [] ?_,Ti k hk n hn bm bU i P1.symm om (λh=>by rw[ho]at h;cases h.1)⟩
  .exact .au
theorem uk(k:Kr)(hk:dN k.l k.ops k.ps)(n:Nat)(hn:n<k.ps.length)(bm bU:Int){m:Mem}{K:CV->Mem->Prop}(h:K (.bD [ke (aF k n bm bU).1,cK (aF k n bm bU).2.1,cK (aF k n bm bU).2.2]) m):ap prog 72 [eI k.l k.ops k.ps,am .i64 (n:Nat),am .i64 bm,am .i64 bU] m K:=
 bh (ct func72 l72 (DU k hk n hn bm bU)) (by simp[eI,dm,ff,gG,am,CV.dB,CC.dB,RV.dB]) λr m1 hf=>⟨_,hf,h⟩
def c77:LF:= ⟨84,[.cell true 3 4,.tmp 5,.tmp 6,.tmp 7],(.seq (.ai [qu 2 (.box 0),qu 4 (.alloc [.aO,.aO,.aO]),qu 5 (.aM (qi 0)),qu 6 (.aM (qi 0)),qu 7 (.aM (qi 0))]) (.seq (.seq (.ai [qL 14 3 2,qm 15 1,qu 16 (qc 29 [14,15]),qu 17 (.un .not 16)]) (.cond 17 (.seq (.ai [qu 18 (.build [.aO,.aO,.aO] []),qw (.store 3 4 18),qu 5 (.aM (qi 0)),qu 6 (.aM (qi 0)),qu 7 (.aM (qi 6))]) .ret) .skip)) (.seq (.ai [qu 19 (qc 118 [2]),qm 8 19]) (.seq (.seq (.ai [qm 20 8,qu 21 (.aJ .lss 20 (qi 0))]) (.cond 21 (.seq (.ai [qu 22 (.build [.aO,.aO,.aO] []),qw (.store 3 4 22),qu 5 (.aM (qi 0)),qu 6 (.aM (qi 0)),qu 7 (.aM (qi 15))]) .ret) .skip)) (.seq (.ai [qL 23 3 2,qu 24 (qc 59 [23]),qu 9 (.alloc [.aO,.aO,.aO]),qw (.store 3 9 24)]) (.seq (.seq (.ai [qm 25 8,qf 26 2 9,ql 27 26,qu 28 (.len 1 27),qu 29 (.aJ .eql 25 28)]) (.cond 29 (.ai [qf 30 2 9,ql 31 30,qu 32 (.build [(.ah (.val (.bool false))),(.ah (.val (.bool false))),qd 0,.aO] []),qu 33 (.od 4 [(.ah (.val (.bool false))),(.ah (.val (.bool false))),qd 0,.aO] 1 [(0,32)]),qu 34 (.pO 4 40 31 33),qf 35 2 9,qw (.store 1 35 34)]) .skip)) (.cX (.seq (.bV [qf 36 2 9,ql 37 36,qm 38 8,qf 39 2 2,ql 40 39,qm 41 1,qu 42 (.cz 4 40 41),qf 43 1 42,ql 44 43,qf 45 2 2,ql 46 45,qm 47 1,qu 48 (.cz 4 46 47),qf 49 3 48,ql 50 49,qu 51 (qc 100 [50]),qu 52 (.build [(.ah (.val (.bool false))),(.ah (.val (.bool false))),qd 0,.aO] [(0,1,qb true),(1,1,44),(3,1,51)]),qu 53 (.cz 4 37 38),qw (.store 4 53 52)] [(eK 15 0 (.cons 15 (some [8,6,4,1]) (.cons 16 none (.cons 17 none (.cons 18 (some []) .nil)))))]) (.cX (.seq (.ai [qf 55 0 9,ql 56 55,qm 57 8,qu 58 (.build [qd 0,.aO,.aO,(.ah (.val (.string ⟨#[]⟩))),qd 0,.aO,qd 0,qd 0,qd 0] [(0,1,qi 5),(4,1,(qi (-1))),(6,1,57)]),qu 59 (qc 111 [56,58]),qm 54 59,qu 60 (.ext 54 0),qu 61 (.ext 54 1),qu 62 (.ext 54 2),qm 10 60,qm 11 61,qm 12 62]) (.seq (.seq (.ai [qm 63 12,qu 64 (.aJ .neq 63 (qi 0))]) (.cond 64 (.seq (.ai [qu 65 (.build [.aO,.aO,.aO] []),qm 66 12,qw (.store 3 4 65),qu 5 (.aM (qi 0)),qu 6 (.aM (qi 0)),qm 7 66]) .ret) .skip)) (.seq (.ai [qm 67 10,qf 68 0 9,qw (.store 1 68 67)]) (.seq (.ai [qL 70 3 9,qm 71 1,qm 72 11,qu 73 (qc 72 [70,71,72,qi 3200]),qm 69 73,qu 74 (.ext 69 0),qu 75 (.ext 69 1),qu 76 (.ext 69 2),qw (.store 3 9 74),qm 13 75,qm 12 76]) (.seq (.seq (.ai [qm 77 12,qu 78 (.aJ .neq 77 (qi 0))]) (.cond 78 (.seq (.ai [qu 79 (.build [.aO,.aO,.aO] []),qm 80 12,qw (.store 3 4 79),qu 5 (.aM (qi 0)),qu 6 (.aM (qi 0)),qm 7 80]) .ret) .skip)) (.seq (.ai [qL 81 3 9,qm 82 8,qm 83 13,qw (.store 3 4 81),qm 5 82,qm 6 83,qu 7 (.aM (qi 0))]) .ret)))))))))))))))⟩
theorem l77:bz prog f77=some c77.er:=by kernel_rfl
def c7(c:Int):Obj:=⟨5,[],[],⟨#[]⟩,-1,[],c,0,0⟩
theorem DV(c:Int):(c7 c).sm:=⟨⟨⟨[],rfl⟩,⟨[],rfl⟩,λq hq=>by simp[c7]at hq⟩,by simp[c7],by simp[c7],by simp[c7],λq hq=>by simp[c7]at hq⟩
theorem NZ(a:CV)(c:Int):lw [a,.rv (.agg [.ah (.val (.int .i64 5)),.aO,.aO,.ah (.val (.string ⟨#[]⟩)),.ah (.val (.int .i64 (-1))),.aO,.ah (.val (.int .i64 c)),.ah (.val (.int .i64 0)),.ah (.val (.int .i64 0))])] [a,(c7 c).cv]:=
 .dC _ (.agg (.cons (.dC _) (.cons (.aO 1) (.cons (.aO 2) (.cons (.dC _) (.cons (.dC _) (.cons (.aO 4) (.cons (.dC _) (.cons (.dC _) (.cons (.dC _) .nil))))))))) .nil)
theorem Aj{l:List Obj}{o x:Obj}(h:x∈(aH l o).1):x∈l\/x=o:=by
 unfold aH at h;split at h
 .exact aaK h
 .split at h
  .simp at h
  .simpa using h
theorem Kh(l:List Obj)(o:Obj):(aH l o).1.length<=l.length+1:=by
 unfold aH;split
 .simp
 .split<;>simp
theorem N0{m:Mem}{a b:RV}{x y z:Int}(h:fu m a b):cV m (.bD [a,cK x,cK y,cK z]) (.bD [b,cK x,cK y,cK z]):=by
 refine .bD rfl λi r r' h1 h2=>?_
 match i,h1,h2 with
 |0,h1,h2=>cases h1;cases h2;exact h
 |1,h1,h2=>cases h1;cases h2;exact fu.self rfl
 |2,h1,h2=>cases h1;cases h2;exact fu.self rfl
 |3,h1,h2=>cases h1;cases h2;exact fu.self rfl
 |n+4,h1,h2=>simp at h1
def xO(l:List Obj)(ops:List bH)(P:List bi)(n:Nat)(c:Int):Kr×Int×Int×Int:=
 if(aH l (c7 c)).2.2≠0 then(sO,0,0,(aH l (c7 c)).2.2)
 else if(aF ⟨(aH l (c7 c)).1,ops,P⟩ n (aH l (c7 c)).2.1 3200).2.2≠0 then(sO,0,0,(aF ⟨(aH l (c7 c)).1,ops,P⟩ n (aH l (c7 c)).2.1 3200).2.2)
 else((aF ⟨(aH l (c7 c)).1,ops,P⟩ n (aH l (c7 c)).2.1 3200).1,c,(aF ⟨(aH l (c7 c)).1,ops,P⟩ n (aH l (c7 c)).2.1 3200).2.1,0)
def gm(ps:List bi)(n c:Nat):List bi:=match ps[n]? with
 |some x=>if c=ps.length then ps++ [⟨true,x.fenced,0,x.aQ⟩]else ps.set c ⟨true,x.fenced,0,x.aQ⟩
 |none=>ps
def fU(k:Kr)(p:Int):Kr×Int×Int×Int:=
 if fL k.ps p=false then(sO,0,0,6)else if g9 k.l k.ps<0 then(sO,0,0,15)
 else xO k.l k.ops (gm k.ps p.toNat (g9 k.l k.ps).toNat) p.toNat (g9 k.l k.ps)
def Iu(a:Kr×Int×Int×Int):CV:= .bD [ke a.1,cK a.2.1,cK a.2.2.1,cK a.2.2.2]
def C36:LC:=bN (bN (bN (bN (bN (bN c77.code)))))
def G36:LC:=rf C36
def C55:LC:=bN G36
def G55:LC:=rf C55
theorem X7(l:List Obj)(ops:List bH)(P:List bi)(hk:dN l ops P)(Gi:l.length<=4194303)(n:Nat)(hn:n<P.length)(c:Int):
  aw prog 0 G55 (oO prog c77.l8 (λr m=>cV m r (Iu (xO l ops P n c))))
   ⟨kS 84 [(1,am .i64 (n:Nat)),(4,.rv (.one (.ptr 0 0))),(8,am .i64 c),(9,.rv (.one (.ptr 1 0)))],[.var [.aO,.aO,.aO],.var ((kC l ops P).map .ah)]⟩:=by
 have hA1:∀x,x∈(aH l (c7 c)).1->x.sm:=λx hx=>by
  rcases Aj hx with hx|rfl
  .exact hk.sm x hx
  .exact DV c
 have hA2:=Kh l (c7 c);refine nk (NZ _ _) (Bp l ⟨hk.ll,λo ho=>(hk.sm o ho).oB⟩ (c7 c) ?_)
 unfold xO;generalize aH l (c7 c)=A at hA1 hA2;obtain⟨A1,k,e⟩:=A;refine bx (λhe=>?_) (λhe=>?_)
 .rw[if_pos he];exact N0 i7
 have he:e=0:=he;subst he;rw[if_neg aE];refine uk ⟨A1,ops,P⟩ ⟨hA1,by have hA2:A1.length<=l.length+1:=hA2;show A1.length<=4194304;omega,hk.lo,hk.lp,hk.sl,hk.ne⟩ n hn k 3200 ?_
 generalize aF ⟨A1,ops,P⟩ n k 3200=B;obtain⟨B1,fd,e2⟩:=B;refine bx (λkL=>?_) (λkL=>?_)
 .rw[if_pos kL];exact N0 i7
 have kL:e2=0:=kL;subst kL;rw[if_neg aE];exact N0 (fu.self (Is _))
theorem pj(l:List Obj)(ps:List bi):∀(n p c:Nat),pi l ps n p=(c:Nat)->p<=ps.length->c<=ps.length/\p<=c/\c<p+n/\(c<ps.length->sN l ps c=true)
 |0,p,c,h,_=>by have h:(-1:Int)=(c:Nat):=h;omega
 |n+1,p,c,h,hp=>by
  rw[pi]at h;by_cases h1:p=ps.length
  .rw[if_pos h1]at h;have:p=c:=om;subst this;exact⟨om,om,om,λh2=>om⟩
  .rw[if_neg h1]at h;by_cases h2:sN l ps p=true
   .rw[if_pos h2]at h;have:p=c:=om;subst this;exact⟨om,om,om,λ_=>h2⟩
   .rw[if_neg h2]at h;obtain⟨a,b,c1,d⟩:=pj l ps n (p+1) c h om;exact⟨a,om,om,d⟩
theorem Tj(k:Kr)(hk:dN k.l k.ops k.ps)(Gi:k.l.length<=4194303)(P:List bi)(hP:∀p,p∈P->p.aQ.length<=10)(ZO:P.length<=4194304)(n:Nat)(hn:n<k.ps.length)(hnP:n<P.length)(c:Nat)(hc:c<P.length):
  aw prog 0 G36 (oO prog c77.l8 (λr m=>cV m r (Iu (xO k.l k.ops (P.set c ⟨true,k.ps[n].fenced,0,k.ps[n].aQ⟩) n (c:Nat)))))
   ⟨kS 84 [(1,am .i64 (n:Nat)),(2,.rv (.one (.ptr 0 0))),(4,.rv (.one (.ptr 1 0))),(8,am .i64 (c:Nat)),(9,.rv (.one (.ptr 5 0)))],
    [.var ((kC k.l k.ops k.ps).map .ah),.var [.aO,.aO,.aO],.row 9 (aa (k.l.map Obj.enc)),.row 2 (aa (k.ops.map bH.enc)),.row 4 (aa (P.map bi.enc)),.var [.row 2 9 0 none,.row 3 2 0 none,.row 4 4 0 none]]⟩:=by
 have hg:=dG hn;have zK:=hk.sl _ (aaw hn);have hr:=bK bi.enc P hc;generalize k.ps[n]=z at hg zK;obtain⟨aL,fenced,cd,aQ⟩:=z;have zK:aQ.length<=10:=zK;generalize P[c]=w at hr;obtain⟨wl,wf,wc,ws⟩:=w;refine af hg ?_;refine af hg ?_;refine jI aQ om ?_;refine⟨⟨rfl,af hg rfl,rfl,rfl,trivial⟩,?_⟩;refine af (mJ hc) ?_;refine af hr ?_;refine⟨trivial,?_⟩;have jC:∀x,x∈P.set c ⟨true,fenced,0,aQ⟩->x.aQ.length<=10:=λx hx=>by
  rcases aaK hx with hx|rfl
  .exact hP x hx
  .exact zK
 have d9:=X7 k.l k.ops (P.set c ⟨true,fenced,0,aQ⟩) ⟨hk.sm,hk.ll,hk.lo,by rw[aaF];exact ZO,jC,λh=>by have:=congrArg List.length h;rw[aaF,abl]at this;omega⟩ Gi n (by rw[aaF];exact hnP) (c:Nat)
 refine⟨_,View.o1 6 [1,5] [2,3,4] ?_,d9⟩
 .refine .pe rfl rfl rfl (.pt rfl rfl (fv.var (.cons (.fQ (d5.fl (Z:=λk=>br [2,3,4] k=true) rfl rfl 0 none)) (.cons (.fQ (d5.fl (Z:=λk=>br [2,3,4] k=true) rfl rfl 0 none)) (.cons (.fQ (NY (Z:=λk=>br [2,3,4] k=true) (c:=(bi.enc ⟨true,fenced,0,aQ⟩).map .ah) ?_ rfl rfl)) .nil)))) (.nil _))
  exact .cons (.ah _) (.cons (.ah _) (.cons (.ah _) (.cons (.ah _) .nil)))
theorem Ki(k:Kr)(hk:dN k.l k.ops k.ps)(Gi:k.l.length<=4194303)(p:Int):body prog c77 [eI k.l k.ops k.ps,am .i64 p] [] (λr m=>cV m r (Iu (fU k p))):=by
 refine pg k.l k.ops k.ps p ?_;have h2:=hk.lp;refine aG (λh1=>?_) (λh1=>?_)
 .have h1:fL k.ps p=false:=by simpa using h1
  rw[fU,if_pos h1];exact N0 i7
 have h1:fL k.ps p=true:=by simpa using h1
 obtain⟨n,rfl,hn,bC⟩:=ph h1;rw[fU,if_neg (by rw[h1];simp)]
 refine fA (args0:=[.rv (.one (.ptr 0 0))]) (cs:=kC k.l k.ops k.ps) 0 rfl rfl (r0:=am .i64 (g9 k.l k.ps)) rfl (λK hK=>BD k.l hk.ll k.ops k.ps K hK) ?_
 refine aN (λh3=>?_) (λh3=>?_)
 .rw[if_pos h3];exact N0 i7
 rw[if_neg h3];obtain⟨c,hc⟩:∃c:Nat,g9 k.l k.ps=(c:Int):=⟨(g9 k.l k.ps).toNat,om⟩;obtain⟨fe,_,hc8,_⟩:=pj k.l k.ps 8 0 c hc (aaj _);rw[hc,show((n:Nat):Int).toNat=n from rfl,show((c:Nat):Int).toNat=c from rfl];refine i4 k.l k.ops k.ps ⟨hk.ll,λo ho=>(hk.sm o ho).oB⟩ hk.lo hk.lp hk.sl hk.ne ?_
 refine bs (λme=>?_) (λme=>?_)
 .have me:c=k.ps.length:=by have me:(c:Int)=((aa (k.ps.map bi.enc)).length:Int):=me;rw[bg,Pj]at me;omega
  have hfp:gm k.ps n c=(k.ps++ [gD]).set c ⟨true,k.ps[n].fenced,0,k.ps[n].aQ⟩:=by rw[gm,vU hn];simp only[];rw[if_pos me,me];simp
  rw[hfp];refine⟨by simp only[b9,bg,Pj,aau,abl];omega,?_⟩
  have d9:=Tj k hk Gi (k.ps++ [gD]) (λx hx=>by
   rcases abu.1 hx with hx|hx
   .exact hk.sl x hx
   .simp at hx;subst hx;simp[gD]) (by simp;omega) n hn (by simp;omega) c (by simp;omega)
  refine⟨_,View.o1 8 [0,1,2,3,7,5] [] ?_,d9⟩
  .exact .pt rfl rfl (.eq rfl (by simp[kC])) (.pe rfl rfl rfl (.pr rfl rfl rfl (.pr rfl rfl rfl (.pt rfl rfl (XV k.ps gD (.fQ (.aO 3)) (by simp[b9,aa,CC.bb,gD])) (.pm rfl rfl rfl)))))
 .have aC:c<k.ps.length:=by have me:¬(c:Int)=((aa (k.ps.map bi.enc)).length:Int):=me;rw[bg,Pj]at me;omega
  have hfp:gm k.ps n c=k.ps.set c ⟨true,k.ps[n].fenced,0,k.ps[n].aQ⟩:=by rw[gm,vU hn];simp only[];rw[if_neg om]
  rw[hfp];have d9:=Tj k hk Gi k.ps hk.sl hk.lp n hn hn c aC;refine⟨_,View.o1 6 [0,1,2,3,4,5] [] ?_,d9⟩
  .exact .au
theorem Iv(k:Kr)(hk:dN k.l k.ops k.ps)(Gi:k.l.length<=4194303)(p:Int){m:Mem}{K:CV->Mem->Prop}(h:K (Iu (fU k p)) m):ap prog 77 [eI k.l k.ops k.ps,am .i64 p] m K:=
 bh (ct func77 l77 (Ki k hk Gi p)) (by simp[eI,dm,ff,gG,am,CV.dB,CC.dB,RV.dB]) λr m1 hf=>⟨_,hf,h⟩
def c62:LF:= ⟨40,[.tmp 6,.tmp 7],(.seq (.ai [qu 6 (.aM qe),qu 7 (.aM (qi 0))]) (.seq (.ai [qm 12 0,qm 13 1,qu 14 (qc 73 [12,13]),qm 11 14,qu 15 (.ext 11 0),qu 16 (.ext 11 1),qu 8 (.alloc [qd 0,qd 0]),qw (.store 2 8 15),qm 9 16]) (.seq (.block 0 (.seq (.ai [qm 18 9,qu 19 (.aJ .neq 18 (qi 0)),qm 17 19]) (.cond 17 (.seq (.ai [qm 20 9,qu 6 (.aM qe),qm 7 20]) .ret) (.seq (.ai [qm 22 2,qu 23 (qc 54 [22]),qu 24 (.un .not 23),qm 21 24]) (.cond 21 (.seq (.ai [qu 6 (.aM qe),qu 7 (.aM (qi 3))]) .ret) (.seq (.ai [qm 26 2,qf 27 1 8,ql 28 27,qu 29 (qc 101 [26,28]),qu 30 (.un .not 29),qm 25 30]) (.cond 25 (.seq (.ai [qu 6 (.aM qe),qu 7 (.aM (qi 10))]) .ret) .skip))))))) (.seq (.ai [qm 31 0,qu 32 (qc 100 [31]),qm 10 32]) (.seq (.ai [qm 33 10,qm 34 1,qm 35 2,qu 36 (.cz 3 33 34),qf 37 1 36,qf 38 1 37,qw (.store 1 38 35)]) (.seq (.ai [qm 39 10,qm 6 39,qu 7 (.aM (qi 0))]) .ret))))))⟩
namespace Tb
theorem l62:bz prog f62=some c62:=by kernel_rfl
def xP(l:List bR)(fd n:Int):List bR×Int:=
 if(dV l fd).2=0 then
  if fm n=false then([],3)else if cZ n (dV l fd).1.bU=false then([],10)else(l.set fd.toNat ⟨true,⟨(dV l fd).1.dF,n⟩⟩,0)
 else([],(dV l fd).2)
theorem Gj(l:List bR)(hb:l.length<=2097152)(fd n:Int):body prog c62 [d6 l,am .i64 fd,am .i64 n] [] (λr m=>cV m r (.bD [jK (xP l fd n).1,cK (xP l fd n).2])):=by
 refine xL l fd ?_;refine aG (λh=>?_) (λh=>?_)
 .have h:¬(dV l fd).2=0:=by simpa using h
  rw[xP,if_neg h];exact kW (.one (.aO 3))
 .have h:(dV l fd).2=0:=by simpa using h
  rw[xP,if_pos h];refine xM n ?_;refine aG (λh1=>?_) (λh1=>?_)
  .have h1:fm n=false:=by simpa using h1
   rw[if_pos h1];exact kW (.one (.aO 3))
  .have h1:fm n=true:=by simpa using h1
   rw[if_neg (by simp[h1])]
   refine Af _ _ ?_;refine aG (λh2=>?_) (λh2=>?_)
   .have h2:cZ n (dV l fd).1.bU=false:=by simpa using h2
    rw[if_pos h2];exact kW (.one (.aO 3))
   .have h2:cZ n (dV l fd).1.bU=true:=by simpa using h2
    rw[if_neg (by simp[h2])]
    obtain⟨d,rfl,hd,X3,be⟩:=Iq h;rw[show((d:Nat):Int).toNat=d from rfl];refine p0 l hb (λhl=>by subst hl;simp at hd) ?_
    refine af (bZ (k:=d) (by simp[cu,lenOf];omega)) ?_
    refine af (x:=(l[d].enc).map .ah) (by simp[aT,cu,iM,hd]) ?_
    refine kW (.one ?_);have e:aV (cu l) d [CC.ah (.val (.bool l[d].has)),CC.ah (.val (.int .i64 l[d].cap.dF)),CC.ah (.val (.int .i64 n))]=aa ((l.set d ⟨true,⟨(dV l d).1.dF,n⟩⟩).map bR.enc):=by rw[aY,X3,be];simp[cu,aa,bR.enc]
    exact fk.fl (congrArg (λx=>some (Bk.row 3 x)) e) 0 none
theorem N1(l:List bR)(hb:l.length<=2097152)(fd n:Int){m:Mem}{K:CV->Mem->Prop}(h:K (.bD [jK (xP l fd n).1,cK (xP l fd n).2]) m):ap prog 62 [d6 l,am .i64 fd,am .i64 n] m K:=
 bh (aZ func62 l62 (Gj l hb fd n)) (by simp[d6,am,CV.dB,CC.dB]) λr m1 hf=>⟨_,hf,h⟩
end Tb
def c134:LF:= ⟨49,[.tmp 6,.tmp 7],(.seq (.ai [qu 6 (.aM (qi 0)),qu 7 (.aM (qb false))]) (.seq (.ai [qm 12 0,qu 13 (.len 1 12),qm 8 13]) (.seq (.ai [qm 14 8,qu 9 (.aM (qi 0)),qm 10 14]) (.seq (.block 0 (.loop (.seq (.seq (.ai [qm 15 9,qm 16 10,qu 17 (.aJ .lss 15 16)]) (.cond 17 .skip (.exit 0))) (.block 1 (.seq (.ai [qm 18 9,qm 19 10,qu 20 (.aJ .add 18 19),qu 21 (.conv .u64 20),qu 22 (.aJ .shr 21 (.c (.rv (.one (.ah (.val (.int .u64 (1)))))))),qu 23 (.conv .i64 22),qm 11 23]) (.seq (.ai [qm 24 2,qm 25 0,qm 26 11,qu 27 (.cz 2 25 26),qL 28 2 27,qm 29 1,qu 30 (.call 24 [28,29]),qu 31 (.aJ .lss 30 (qi 0))]) (.cond 31 (.ai [qm 32 11,qu 33 (.aJ .add 32 (qi 1)),qm 9 33]) (.ai [qm 34 11,qm 10 34])))))))) (.seq (.ai [qm 35 9,qm 36 9,qm 37 8,qu 38 (.aJ .lss 36 37),qm 39 38,qg 40 (.aM 2) 39 true,qg 41 (.aM 0) 39 true,qg 42 (.aM 9) 39 true,qg 43 (.cz 2 41 42) 39 true,qg 44 (.load true 2 43) 39 true,qg 45 (.aM 1) 39 true,qg 46 (.call 40 [44,45]) 39 true,qg 47 (.aJ .eql 46 (qi 0)) 39 true,qu 48 (.pick 39 47 (qb false)),qm 6 35,qm 7 48]) .ret)))))⟩
def c135:LF:= ⟨9,[.tmp 4],(.seq (.ai [qu 2 (.box 0),qu 4 (.aM (qi 0))]) (.seq (.ai [qf 5 0 2,ql 6 5,qm 7 1,qu 8 (qc 136 [6,7]),qm 4 8]) .ret))⟩
def c136:LF:= ⟨20,[.tmp 4],(.seq (.ai [qu 4 (.aM (qi 0))]) (.seq (.ai [qm 7 0,qu 8 (qc 150 [7]),qm 5 8]) (.seq (.ai [qm 9 1,qu 10 (qc 150 [9]),qm 6 10]) (.seq (.seq (.ai [qm 11 5]) (.cond 11 (.seq (.seq (.ai [qm 12 6]) (.cond 12 (.seq (.ai [qu 4 (.aM (qi 0))]) .ret) .skip)) (.seq (.ai [qu 4 (.aM (qi (-1)))]) .ret)) .skip)) (.seq (.seq (.ai [qm 13 6]) (.cond 13 (.seq (.ai [qu 4 (.aM (qi 1))]) .ret) .skip)) (.seq (.seq (.ai [qm 14 0,qm 15 1,qu 16 (.aJ .lss 14 15)]) (.cond 16 (.seq (.ai [qu 4 (.aM (qi (-1)))]) .ret) .skip)) (.seq (.seq (.ai [qm 17 0,qm 18 1,qu 19 (.aJ .gtr 17 18)]) (.cond 19 (.seq (.ai [qu 4 (.aM (qi 1))]) .ret) .skip)) (.seq (.ai [qu 4 (.aM (qi 0))]) .ret))))))))⟩
def c150:LF:= ⟨6,[.tmp 2],(.seq (.ai [qu 2 (.aM (qb false))]) (.seq (.ai [qm 3 0,qm 4 0,qu 5 (.aJ .neq 3 4),qm 2 5]) .ret))⟩
theorem l150:bz prog f150=some c150:=by kernel_rfl
theorem l136:bz prog f136=some c136:=by kernel_rfl
theorem l135:bz prog f135=some c135:=by kernel_rfl
theorem l134:bz prog f134=some c134:=by kernel_rfl
def Tk(a b:ByteArray):Bool:=Op.bytesLess a.toList b.toList
def Wb(a b:ByteArray):Bool:= !(Op.bytesLess a.toList b.toList||a.toList==b.toList)
def lD(a b:ByteArray):Int:=if Tk a b=true then -1 else if Wb a b=true then 1 else 0
theorem N2(a:ByteArray):body prog c150 [fb a] [] (λr m=>r=aD false):=by show aD (!(a.toList==a.toList))=aD false;simp
theorem N3(a:ByteArray){m:Mem}{K:CV->Mem->Prop}(h:K (aD false) m):ap prog 150 [fb a] m K:=
 bw func150 l150 rfl (aad rfl) (N2 a) rfl rfl h
theorem N4(a b:ByteArray):body prog c136 [fb a,fb b] [] (λr m=>r=am .i64 (lD a b)):=by
 refine N3 a ?_;refine N3 b ?_;refine aG (λh1=>?_) (λh1=>?_)
 .show am _ _=am _ _;rw[lD,if_pos (show Tk a b=true from h1)]
 refine aG (λh2=>?_) (λh2=>?_)
 .show am _ _=am _ _;rw[lD,if_neg (by rw[show Tk a b=false from h1];simp),if_pos (show Wb a b=true from h2)]
 .show am _ _=am _ _;rw[lD,if_neg (by rw[show Tk a b=false from h1];simp),if_neg (by rw[show Wb a b=false from h2];simp)]
theorem N5(a b:ByteArray){m:Mem}{K:CV->Mem->Prop}(h:K (am .i64 (lD a b)) m):ap prog 136 [fb a,fb b] m K:=
 bw func136 l136 rfl (aad rfl) (N4 a b) rfl rfl h
def c9(e:ByteArray×Int):List Dt:=[.val (.string e.1),.val (.int .i64 e.2)]
def xQ(e:ByteArray×Int):CV:= .rv (.agg ((c9 e).map .ah))
theorem Gk(e:ByteArray×Int)(s:ByteArray):body prog c135 [xQ e,fb s] [] (λr m=>r=am .i64 (lD e.1 s)):=
 N5 e.1 s rfl
theorem Tl(e:ByteArray×Int)(s:ByteArray){m:Mem}{K:CV->Mem->Prop}(h:K (am .i64 (lD e.1 s)) m):ap prog 135 [xQ e,fb s] m K:=
 bw func135 l135 rfl (aad rfl) (Gk e s) rfl rfl h
def Kj(es:List (ByteArray×Int))(s:ByteArray):Nat->Nat->Nat->Nat
 |0,i,_=>i
 |n+1,i,j=>if i<j then(match es[(i+j)/2]? with
   |some e=>if lD e.1 s<0 then Kj es s n ((i+j)/2+1) j else Kj es s n i ((i+j)/2)
   |none=>i)else i
def rk(es:List (ByteArray×Int))(s:ByteArray):Nat:=Kj es s es.length 0 es.length
def BH(es:List (ByteArray×Int))(s:ByteArray):Bool:=match es[rk es s]? with|some e=>lD e.1 s==0|none=>false
structure abP where
 i:Nat
 j:Nat
theorem pl{es:List (ByteArray×Int)}{k:Nat}(h:k<es.length):dD (es.map c9) (k:Nat)=some [.val (.string es[k].1),.val (.int .i64 es[k].2)]:=by rw[bG,Tm,vU h];rfl
theorem Gl{i j:Nat}(h:i+j<=4294967296):IntKind.i64.wrap ((IntKind.u64.wrap (IntKind.i64.wrap ((i:Int)+(j:Int)))).fdiv (2^(min (1:Int).toNat IntKind.u64.bits)))=(((i+j)/2:Nat):Int):=by
 rw[show(i:Int)+(j:Int)=((i+j:Nat):Int) by omega,mr om]
 have hu:IntKind.u64.wrap ((i+j:Nat):Int)=((i+j:Nat):Int):=by simp only[IntKind.wrap,IntKind.bits,IntKind.signed];simp;omega
 rw[hu,show(2:Int)^(min (1:Int).toNat IntKind.u64.bits)=((2:Nat):Int)from rfl];rw[show(((i+j:Nat):Int)).fdiv ((2:Nat):Int)=(((i+j)/2:Nat):Int) by rw[Int.fdiv_eq_ediv_of_nonneg _ om];exact(Int.natCast_ediv _ _).symm]
 rw[mr om]
theorem Q4(es:List (ByteArray×Int))(hl:es.length<=2147483648)(s:ByteArray)(F:Nat)(hF:∀(e:ByteArray×Int)(m:Mem)(K:CV->Mem->Prop),K (am .i64 (lD e.1 s)) m->ap prog F [xQ e,fb s] m K):
  body prog c134 [sA 2 (es.map c9),fb s,.rv (.one (.fn F []))] [] (λr m=>r= .bD [.one (.ah (.val (.int .i64 (rk es s:Nat)))),.one (.ah (.val (.bool (BH es s))))]):=by
 refine bc (λa:abP=>a.i<=a.j/\a.j<=es.length/\∃n,a.j-a.i<=n/\Kj es s n a.i a.j=rk es s) [0,1,2] (λa=>[(8,am .i64 (es.length:Nat)),(9,am .i64 (a.i:Nat)),(10,am .i64 (a.j:Nat))]) (λ_=>[]) (λa=>a.j-a.i) ⟨0,es.length⟩ ⟨aaj _,Ym _,es.length,aE,rfl⟩ ?_ (λa ha=>?_)
 .refine View.o 0 [] [] ?_ (.nil _);have hlen:am .i64 (((es.map c9).length:Nat):Int)=am .i64 ((es.length:Nat):Int):=by rw[Pj]
  repeat(first|exact .nil|refine .aA ?_|refine .eq rfl ?_|refine .eq hlen.symm ?_)
 obtain⟨i,j⟩:=a;obtain⟨h1,h2,n,h3,h4⟩:=ha;have h1:i<=j:=h1;have h2:j<=es.length:=h2;have h3:j-i<=n:=h3;have h4:Kj es s n i j=rk es s:=h4;refine aN (λh=>?_) (λh=>?_)
 .have aC:i<j:=by have h:(i:Int)<(j:Int):=h;omega
  obtain⟨n,rfl⟩:∃n',n=n'+1:=⟨n-1,om⟩;have hh:(i+j)/2<es.length:=om;rw[Kj,if_pos aC,vU hh]at h4;have d8:dD (es.map c9) (IntKind.i64.wrap ((IntKind.u64.wrap (IntKind.i64.wrap ((i:Int)+(j:Int)))).fdiv (2^(min (1:Int).toNat IntKind.u64.bits))))=some [.val (.string es[(i+j)/2].1),.val (.int .i64 es[(i+j)/2].2)]:=by rw[Gl om];exact pl hh
  refine af d8 ?_;refine hF es[(i+j)/2] _ _ ?_;refine aN (λh5=>?_) (λh5=>?_)
  .have h5:lD es[(i+j)/2].1 s<0:=h5;simp only[]at h4;rw[if_pos h5]at h4;refine⟨⟨(i+j)/2+1,j⟩,⟨by show(i+j)/2+1<=j;omega,h2,n,by show j-((i+j)/2+1)<=n;omega,h4⟩,(show j-((i+j)/2+1)<j-i by omega),View.o 0 [] [] ?_ (.nil _)⟩
   have e1:am .i64 (IntKind.i64.wrap (IntKind.i64.wrap ((IntKind.u64.wrap (IntKind.i64.wrap ((i:Int)+(j:Int)))).fdiv (2^(min (1:Int).toNat IntKind.u64.bits)))+1))=am .i64 (((i+j)/2+1:Nat):Int):=by
    rw[Gl om,show(((i+j)/2:Nat):Int)+1=(((i+j)/2+1:Nat):Int) by omega,mr om]
   repeat(first|exact .nil|refine .aA ?_|refine .eq rfl ?_|refine .eq e1.symm ?_)
  .have h5:¬lD es[(i+j)/2].1 s<0:=h5;simp only[]at h4;rw[if_neg h5]at h4;refine⟨⟨i,(i+j)/2⟩,⟨by show i<=(i+j)/2;omega,by show(i+j)/2<=es.length;omega,n,by show(i+j)/2-i<=n;omega,h4⟩,(show(i+j)/2-i<j-i by omega),View.o 0 [] [] ?_ (.nil _)⟩
   have e1:am .i64 (IntKind.i64.wrap ((IntKind.u64.wrap (IntKind.i64.wrap ((i:Int)+(j:Int)))).fdiv (2^(min (1:Int).toNat IntKind.u64.bits))))=am .i64 (((i+j)/2:Nat):Int):=by rw[Gl om]
   repeat(first|exact .nil|refine .aA ?_|refine .eq rfl ?_|refine .eq e1.symm ?_)
 .have p9:i=j:=by have h:¬(i:Int)<(j:Int):=h;omega
  subst p9;have hI:rk es s=i:=by
   rw[<-h4];cases n with
   |zero=>rfl
   |succ n=>rw[Kj,if_neg (Nat.lt_irrefl _)]
  rw[BH,hI];refine aN (λh6=>?_) (λh6=>?_)
  .have aC:i<es.length:=by have h6:(i:Int)<(es.length:Int):=h6;omega
   refine af (pl aC) ?_;refine hF es[i] _ _ ?_;show CV.bD _=CV.bD _;rw[vU aC]
  .have d8:¬i<es.length:=by have h6:¬(i:Int)<(es.length:Int):=h6;omega
   show CV.bD _=CV.bD _;rw[aaE om]
def ZU(es:List (ByteArray×Int))(s:ByteArray):CV:= .bD [.one (.ah (.val (.int .i64 (rk es s:Nat)))),.one (.ah (.val (.bool (BH es s))))]
theorem N6(es:List (ByteArray×Int))(hl:es.length<=2147483648)(s:ByteArray)(F:Nat)(hF:∀(e:ByteArray×Int)(m:Mem)(K:CV->Mem->Prop),K (am .i64 (lD e.1 s)) m->ap prog F [xQ e,fb s] m K){m:Mem}{K:CV->Mem->Prop}(h:K (ZU es s) m):ap prog 134 [sA 2 (es.map c9),fb s,.rv (.one (.fn F []))] m K:=by
 refine bh (K0:=λr _=>r=ZU es s) (aZ func134 l134 (Q4 es hl s F hF)) (by simp[sA,fb,CV.dB,CC.dB,RV.dB]) λr m1 hr=>?_
 subst hr;exact⟨_,cV.self rfl,h⟩
theorem UR(es:List (ByteArray×Int))(hl:es.length<=2147483648)(s:ByteArray)(F:Nat)(hF:∀(e:ByteArray×Int)(m:Mem)(K:CV->Mem->Prop),K (am .i64 (lD e.1 s)) m->ap prog F [xQ e,fb s] m K){m:Mem}{id:Nat}(hb:cF m id=some (.row 2 (aa (es.map c9)))){K:CV->Mem->Prop}(h:K (ZU es s) m):ap prog 134 [.rv (.one (.row id 2 0 none)),fb s,.rv (.one (.fn F []))] m K:=
 Nf [id] (args0:=[sA 2 (es.map c9),fb s,.rv (.one (.fn F []))]) (N6 es hl s F hF (K:=λr _=>r=ZU es s) rfl) (.put (rK.fQ id (es.map c9) (by simp[br]) hb) (.eq rfl (.eq rfl .nil))) λr m1 hr=>by subst hr;exact⟨rfl,h⟩
def Tryz.DW:Go.Shelf.Ren:=⟨λ|143=>149|219=>154|217=>156|225=>157|224=>158|267=>159|266=>161|314=>162|n=>n,λ|9=>9|3=>3|4=>4|5=>5|46=>127|146=>267|51=>187|n=>n,λ|1=>0|n=>n⟩
theorem Tryz.Q5:Go.Proofs.Lays.n143 prog Tryz.DW:={
 mixed:=by kernel_rfl,
 f143:=func149.trans (congrArg some (by kernel_rfl)),
 f217:=func156.trans (congrArg some (by kernel_rfl)),
 f219:=func154.trans (congrArg some (by kernel_rfl)),
 f224:=func158.trans (congrArg some (by kernel_rfl)),
 f225:=func157.trans (congrArg some (by kernel_rfl)),
 f266:=func161.trans (congrArg some (by kernel_rfl)),
 f267:=func159.trans (congrArg some (by kernel_rfl)),
 f314:=func162.trans (congrArg some (by kernel_rfl)),
 t3:=underlying3,
 a3:=isAgg3,
 z3:=sizeOf3,
 v3:=zeroValue3,
 t4:=underlying4,
 a4:=isAgg4,
 z4:=sizeOf4,
 v4:=zeroValue4,
 t5:=underlying5,
 a5:=isAgg5,
 z5:=sizeOf5,
 v5:=zeroValue5,
 t9:=underlying9,
 a9:=isAgg9,
 z9:=sizeOf9,
 v9:=zeroValue9,
 t46:=underlying127,
 a46:=isAgg127,
 z46:=sizeOf127,
 v46:=zeroValue127,
 t51:=underlying187,
 a51:=isAgg187,
 z51:=sizeOf187,
 v51:=zeroValue187,
 t146:=underlying267,
 a146:=isAgg267,
 z146:=sizeOf267,
 v146:=zeroValue267,
 g1:=by kernel_rfl}
def Tryz.vr:Go.Shelf.Ren:=⟨λ|156=>64|165=>102|166=>103|169=>104|240=>129|241=>130|276=>145|277=>146|n=>n,λ|31=>146|9=>9|3=>3|4=>4|0=>0|20=>20|72=>198|76=>202|70=>196|37=>23|75=>201|127=>241|164=>252|5=>5|80=>204|n=>n,λ|n=>n⟩
theorem Tryz.Iw:Go.Proofs.Lays.n156 prog Tryz.vr:={
 mixed:=by kernel_rfl,
 f156:=func64.trans (congrArg some (by kernel_rfl)),
 f165:=func102.trans (congrArg some (by kernel_rfl)),
 f166:=func103.trans (congrArg some (by kernel_rfl)),
 f169:=func104.trans (congrArg some (by kernel_rfl)),
 f240:=func129.trans (congrArg some (by kernel_rfl)),
 f241:=func130.trans (congrArg some (by kernel_rfl)),
 f276:=func145.trans (congrArg some (by kernel_rfl)),
 f277:=func146.trans (congrArg some (by kernel_rfl)),
 t0:=underlying0,
 a0:=isAgg0,
 z0:=sizeOf0,
 v0:=zeroValue0,
 t3:=underlying3,
 a3:=isAgg3,
 z3:=sizeOf3,
 v3:=zeroValue3,
 t4:=underlying4,
 a4:=isAgg4,
 z4:=sizeOf4,
 v4:=zeroValue4,
 t9:=underlying9,
 a9:=isAgg9,
 z9:=sizeOf9,
 v9:=zeroValue9,
 t20:=underlying20,
 a20:=isAgg20,
 z20:=sizeOf20,
 v20:=zeroValue20,
 t31:=underlying146,
 a31:=isAgg146,
 z31:=sizeOf146,
 v31:=zeroValue146,
 t37:=underlying23,
 a37:=isAgg23,
 z37:=sizeOf23,
 v37:=zeroValue23,
 t70:=underlying196,
 a70:=isAgg196,
 z70:=sizeOf196,
 v70:=zeroValue196,
 t72:=underlying198,
 a72:=isAgg198,
 z72:=sizeOf198,
 v72:=zeroValue198,
 t75:=underlying201,
 a75:=isAgg201,
 z75:=sizeOf201,
 v75:=zeroValue201,
 t76:=underlying202,
 a76:=isAgg202,
 z76:=sizeOf202,
 v76:=zeroValue202,
 t127:=underlying241,
 a127:=isAgg241,
 z127:=sizeOf241,
 v127:=zeroValue241,
 t164:=underlying252,
 a164:=isAgg252,
 z164:=sizeOf252,
 v164:=zeroValue252}
theorem Tryz.Ix:Builder.Extra prog Tryz.vr:={
 sizeBuilder:=by kernel_rfl,
 liesBuilder:=by kernel_rfl,
 t5:=underlying5,
 a5:=isAgg5,
 z5:=sizeOf5,
 v5:=zeroValue5,
 infoByte:=by kernel_rfl,
 cellsByte:=by kernel_rfl,
 sizeByte:=by kernel_rfl,
 neB5:=by decide}
namespace bM
theorem Kk(s:ByteArray)(c:UInt8)(w:World):Calls prog 149 #[.string s,.string ⟨#[c]⟩] w λe w'=>e= .returned (.int .i64 (Lib.indexByte s.data.toList c))/\w'=w:=
 Any.strings_Index_one Tryz.Q5 s c w
end bM
theorem Kl(a:Option Addr)(c:Nat)(sep:ByteArray)(w:World):Calls prog 64 #[.slice a 0 c,.string sep] w λe w'=>e= .returned (.string ⟨#[]⟩)/\w'=w:=
 Any.strings_Join_none Tryz.Iw Tryz.Ix a c sep w
theorem Q6(bk o c:Nat)(xs:List ByteArray)(sep:ByteArray)(w:World)(dL:∀(j:Nat)x,xs[j]? =some x->w.cell? ⟨bk,o+j,none⟩=some (.string x))(db:bk<w.heap.size)(hN:xs.length<=140737488355328)(be:xs.length<=c)(hlen:(Lib.join (xs.map (·.data.toList)) sep.data.toList).length<=140737488355328):
  Calls prog 64 #[.slice (some ⟨bk,o,none⟩) xs.length c,.string sep] w λe w'=>e= .returned (.string ⟨(Lib.join (xs.map (·.data.toList)) sep.data.toList).toArray⟩)/\Below w.heap.size w w':=
 Any.strings_Join Tryz.Iw Tryz.Ix bk o c xs sep w dL db hN be hlen
namespace bM
attribute [local go_sem] Oper.semAt_some
def hU(c:UInt8):List UInt8->List (List UInt8)
 | []=>[[]]
 |x::r=>if x==c then []::hU c r else match hU c r with
  | []=>[[x]]
  |p::ps=>(x::p)::ps
theorem ul{c:UInt8}:∀{l:List UInt8},Lib.indexByte l c= -1->hU c l=[l]
 | [],_=>rfl
 |x::r,h=>by
  simp only[Lib.indexByte]at h;split at h
  .cases h
  .rename_i hx;split at h
   .rename_i h2;have LA:Lib.indexByte r c= -1:=by simpa using h2
    simp only[hU,hx,ul LA,abL,if_false]
   .have:=Lib.indexByte_ge r c;omega
theorem Ak{c:UInt8}:∀{l:List UInt8}{i:Nat},Lib.indexByte l c=i->i<l.length/\hU c l=l.take i::hU c (l.drop (i+1))
 | [],i,h=>by simp[Lib.indexByte]at h
 |x::r,i,h=>by
  simp only[Lib.indexByte]at h;split at h
  .rename_i hx;have:i=0:=om;subst this;simp[hU,hx]
  .rename_i hx;split at h
   .omega
   .cases i with
    |zero=>
     have:=Lib.indexByte_ge r c;rename_i h2;have:Lib.indexByte r c= -1:=om;simp[this]at h2
    |succ i=>
     have h3:Lib.indexByte r c=i:=om;obtain⟨h4,h5⟩:=Ak h3;refine⟨by simpa using h4,?_⟩
     simp only[hU,hx,h5,abL,if_false];simp
def cG(l:List UInt8):ByteArray:=⟨l.toArray⟩
def ix(c:UInt8)(s:ByteArray):List ByteArray:=(hU c s.data.toList).map cG
end bM
namespace bM
attribute [local go_sem] Oper.semAt_some
def BI(w:World)(b o:Nat):Nat:=match w.cell? ⟨b,o,none⟩with|some (.string s)=>s.size|_=>0
theorem xR{w:World}{b o:Nat}{s:ByteArray}(h:w.cell? ⟨b,o,none⟩=some (.string s)):BI w b o=s.size:=by simp[BI,h]
@[simp] theorem p5(r:List UInt8):(cG r).data.toList=r:=rfl
@[simp] theorem ny(r:List UInt8):(cG r).size=r.length:=by simp[cG,ByteArray.size]
theorem sP(r:List UInt8)(a b:Nat)(hb:b<=r.length):(cG r).extract a b=cG ((r.take b).drop a):=by apply ByteArray.ext;simp[cG,ByteArray.data_extract,List.drop_take]
def abQ(F:Fence)(n:Nat)(P:Program)(l:Nat)(args:Array Value)(W:World)(R:Ending->World->Prop):Prop:=
 ∃fn tmps assign body,(Instr.yield l args).run P W= .ok (.round l fn tmps assign body) W/\RoundIn F n P l fn tmps assign body W R
theorem Gm(F:Fence)(n:Nat)(h49:F.fn 147)(h51:F.fn 149)(hro:F.round=none)(hn:3<=n)(s:ByteArray)(c:UInt8)(l b1 o1 b2 o2 b3 o3:Nat)(W:World)(J:Nat->World->Prop)(Jx:World->Prop)(n12:b1≠b2)(n13:b1≠b3)(n23:b2≠b3)(hix:∀(s:ByteArray)(w:World),CallsIn F (n-1) prog 149 #[.string s,.string ⟨#[c]⟩] w λe w'=>e= .returned (.int .i64 (Lib.indexByte s.data.toList c))/\w'=w)(c1:W.cell? ⟨b1,o1,none⟩=some (.string ⟨#[c]⟩))(c2:W.cell? ⟨b2,o2,none⟩=some (.string s))(f2:W.frozen? ⟨b2,o2,none⟩=false)(c3:W.cell? ⟨b3,o3,none⟩=some (.int .i64 0))(hJ:∀k W v,J k W->J k (W.setCell ⟨b2,o2,none⟩ v))(hY:∀k y W,(ix c s)[k]? =some y->J k W->abQ F (n-1) prog l #[.string y] W λe W'=>
   (e= .returned (.bool true)/\J (k+1) W'/\W'.heap[b1]? =W.heap[b1]? /\W'.heap[b2]? =W.heap[b2]? /\W'.heap[b3]? =W.heap[b3]?)\/(e= .returned (.bool false)/\Jx W'))(h0:J 0 W)(hsz:(s.size:Int)<4611686018427387904):
  CallsIn F n prog 147 #[.func (.yield l) #[] #[],.pointer (some ⟨b1,o1,none⟩),.pointer (some ⟨b2,o2,none⟩),.pointer (some ⟨b3,o3,none⟩)] W λe W'=>
   (∃v,e= .returned v)/\(J (ix c s).length W'\/Jx W'):=by
 have h1:1<=n:=om;refine callsIn_of_wp func147 rfl h49 ?_ hro;simp only[ntmps147,List.size_toArray,aau,abl,Nat.reduceAdd,Nat.reduceSub,Array.replicate_succ,Array.replicate_zero,List.push_toArray,List.append_toArray,aed,ad6]
 gi_wp2
 gi_loopw [] (λwr=>∃(k:Nat)(r:List UInt8),wr.cell? ⟨b2,o2,none⟩=some (.string (cG r))/\wr.frozen? ⟨b2,o2,none⟩=false/\wr.cell? ⟨b1,o1,none⟩=some (.string ⟨#[c]⟩)/\
   wr.cell? ⟨b3,o3,none⟩=some (.int .i64 0)/\(ix c s).drop k=(hU c r).map cG/\J k wr/\r.length<=s.size) (λwr=>BI wr b2 o2)
 case atStart=>
  exact⟨0,s.data.toList,by rw[c2];rfl,f2,c1,c3,rfl,h0,by show s.data.toList.length<=s.data.size;rw[abR];exact Ym _⟩
 case round=>
  obtain⟨k,r,d2,g2,d1,d3,hcut,hj,hlen⟩:=hrel;rcases Int.lt_or_le (Lib.indexByte r c) 0 with hneg|hpos
  .have hm1:Lib.indexByte r c= -1:=by have:=Lib.indexByte_ge r c;omega
   have hix:=(hix (cG r) wr).mono (R':=λe w'=>e= .returned (.int .i64 (-1))/\w'=wr) λe w'⟨h1,h2⟩=>⟨by rw[h1,p5,hm1],h2⟩
   have hk:(ix c s)[k]? =some (cG r):=by
    have:=congrArg (λl=>l[0]?) hcut
    simp only[abj,ul hm1]at this;simpa using this
   have hlen2:(ix c s).length=k+1:=by have h2:=congrArg List.length hcut;have h3:=(Km.1 hk).1;rw[ul hm1,abz]at h2;simp only[aaL,adL,aau,abl]at h2;omega
   obtain⟨fn,tmps,assign,body,hy,hR⟩:=hY k _ wr hk hj;have hfin:∀W,J (k+1) W->J (ix c s).length W:=λW h=>hlen2▸h
   clear hY hJ hcut hneg hm1 hk c1 c2 f2 c3 h0 hlen2
   gi_wp2_with (gi_at_call 149;refine hix.mono ?_;rintro e w' ⟨rfl,rfl⟩)
   refine hR.mono ?_;rintro e W' (⟨rfl,hJ',_⟩|⟨rfl,hx⟩)
   .gi_wp2
    go_end0
    exact⟨⟨_,rfl⟩,.inl (hfin _ hJ')⟩
   .gi_wp2
    go_end0
    exact⟨⟨_,rfl⟩,.inr hx⟩
  .obtain⟨i,hi⟩:=Int.eq_ofNat_of_zero_le hpos;obtain⟨hlt,hcut2⟩:=Ak hi;have hk:(ix c s)[k]? =some (cG (r.take i)):=by
    have:=congrArg (λl=>l[0]?) hcut
    simp only[abj,hcut2]at this;simpa using this
   have hnext:(ix c s).drop (k+1)=(hU c (r.drop (i+1))).map cG:=by have:=congrArg List.tail hcut;rw[hcut2,List.tail_drop]at this;simpa using this
   obtain⟨fn,tmps,assign,body,hy,hR⟩:=hY k _ wr hk hj;obtain⟨z,hz⟩:∃z:Int,z=(i:Int):=⟨_,rfl⟩;have hix:=(hix (cG r) wr).mono (R':=λe w'=>e= .returned (.int .i64 z)/\w'=wr) λe w'⟨h1,h2⟩=>⟨by rw[h1,p5,hi,hz],h2⟩
   have Hnext:Hid ((ix c s).drop (k+1)=(hU c (r.drop (i+1))).map cG):=hnext;have HJ:Hid (∀k W v,J k W->J k (W.setCell ⟨b2,o2,none⟩ v)):=hJ;have Hz:Hid (z=(i:Int)):=hz;have z0:0<=z:=om;have z0':decide (z<0)=false:=decide_eq_false om;have z1:z<r.length:=om;have hw1:wrap64 z=z:=by unfold wrap64;omega
   have hw2:wrap64 (z+1)=z+1:=by unfold wrap64;omega
   have hs1:(0<=z/\z<=(r.length:Int))=True:=by simp;omega
   have hs2:(0<=z+1/\z+1<=(r.length:Int))=True:=by simp;omega
   have hs3:z<=(r.length:Int):=om;have hs4:0<=z+1:=om;have hs5:z+1<=(r.length:Int):=om;have he1:cG (r.take i)=(cG r).extract 0 z.toNat:=by rw[sP r _ _ om,hz];simp
   have he2:(cG r).extract (z+1).toNat r.length=cG (r.drop (i+1)):=by rw[sP r _ _ (Ym _),aaV,hz];rfl
   have Hend:Hid (i<r.length/\r.length<=s.size/\(cG r).extract (z+1).toNat r.length=cG (r.drop (i+1))):=⟨hlt,hlen,he2⟩;rw[he1]at hy;clear hJ hY hcut hcut2 hi hk c1 c2 f2 c3 h0 hpos hnext hz hsz he1 he2 hlt hlen
   gi_wp2_with (first
    |(gi_at_call 149;refine hix.mono ?_;rintro e w' ⟨rfl,rfl⟩)
    |(refine wpIn_cond_false (by show Value.bool (decide (z<0))=Value.bool false;rw[z0']) ?_))
   refine hR.mono ?_;rintro e W' (⟨rfl,hJ',e1,e2,e3⟩|⟨rfl,hx⟩)
   .have q1:W'.cell? ⟨b1,o1,none⟩=some (.string ⟨#[c]⟩):=(World.cell?_of_block (a:=⟨b1,o1,none⟩) e1).trans d1;have q2:W'.cell? ⟨b2,o2,none⟩=some (.string (cG r)):=(World.cell?_of_block (a:=⟨b2,o2,none⟩) e2).trans d2;have q3:W'.cell? ⟨b3,o3,none⟩=some (.int .i64 0):=(World.cell?_of_block (a:=⟨b3,o3,none⟩) e3).trans d3;have q4:W'.frozen? ⟨b2,o2,none⟩=false:=by rw[<-g2];simp only[World.frozen?,e2]
    gi_wp2
    obtain⟨hlt,hlen,he2⟩:=Hend.out;have hq:(W'.cell? ⟨b2,o2,none⟩).isSome=true:=by rw[q2];rfl
    have hn2:=World.cell?_setCell_same' W' ⟨b2,o2,none⟩ (.string ((cG r).extract (z+1).toNat r.length)) hq;rw[he2]at hn2|-;refine⟨⟨k+1,r.drop (i+1),hn2,by rw[World.frozen?_setCell];exact q4,?_,?_,Hnext.out,HJ.out _ _ _ hJ',by simp;omega⟩,?_⟩
    .exact(World.cell?_setCell_other _ _ _ _ λe=>n12 (congrArg Addr.block e).symm).trans q1
    .exact(World.cell?_setCell_other _ _ _ _ λe=>n23 (congrArg Addr.block e)).trans q3
    .rw[xR hn2,xR d2,ny,ny,abz];omega
   .gi_wp2
    refine bodyPost_ret (results_none rfl _ _ _) rfl ?_;exact⟨⟨_,rfl⟩,.inr hx⟩
theorem rm(W:World)(a:Addr)(v:Value){b:Nat}(h:b≠a.block):(W.setCell a v).heap[b]? =W.heap[b]? :=by simp only[World.setCell,aba];rw[if_neg (λe=>h e.symm)]
theorem BJ{n:Nat}{P:Program}{l:Nat}{f:FuncId}{tmps:Array Value}{assign body:Code}{w:World}{R:Ending->World->Prop}(h:RoundIn Fence.wide 0 P l f tmps assign body w R):
  RoundIn Fence.wide n P l f tmps assign body w R:=⟨h.1,λc cs _=>h.2 c cs (room_wide _)⟩
theorem Ko(s:ByteArray)(c:UInt8)(hsz:(s.size:Int)<4611686018427387904):Wz prog 147 [.string ⟨#[c]⟩,.string s,.int .i64 0] (ix c s):=by
 refine⟨⟨f147,func147,rfl,by decide⟩,?_⟩
 intro l az W J Jx hlen hnd hcell hJ hJx hY h0
 match az,hlen with
 | [(b1,o1),(b2,o2),(b3,o3)],_=>
 obtain⟨c1,f1⟩:=hcell 0 _ _ rfl rfl;obtain⟨c2,f2⟩:=hcell 1 _ _ rfl rfl;obtain⟨c3,f3⟩:=hcell 2 _ _ rfl rfl;simp only[aaL,adL,abH,aaJ,ac7,or_false,not_or,List.nodup_nil]at hnd;obtain⟨⟨n12,n13⟩,n23,_⟩:=hnd;show CallsIn Fence.wide 0 prog 147 #[.func (.yield l) #[] #[],.pointer (some ⟨b1,o1,none⟩),.pointer (some ⟨b2,o2,none⟩),.pointer (some ⟨b3,o3,none⟩)] W _;refine callsIn_wide.2 ((callsIn_wide (n:=5)).1 ?_);refine Gm Fence.wide 5 trivial trivial rfl om s c l b1 o1 b2 o2 b3 o3 W J Jx n12 n13 n23 (λs w=>callsIn_wide.2 (Kk s c w)) c1 c2 f2 c3 ?_ ?_ h0 hsz
 .intro k W v hj;exact hJ k W _ hj aE (λb _ hb=>rm _ _ _ (hb (b2,o2) aE)) rfl rfl rfl
 .intro k y W hk hj;obtain⟨fn,tmps,assign,body,hy,hR⟩:=hY k y W hk hj;refine⟨fn,tmps,assign,body,hy,(BJ hR).mono λe W' h=>?_⟩
  rcases h with⟨he,h1,h2,h3⟩|⟨he,h1⟩
  .exact .inl ⟨he,h1,h3 (b1,o1) aE,h3 (b2,o2) aE,h3 (b3,o3) aE⟩
  .exact .inr ⟨he,h1⟩
end bM
def c106:LF:= ⟨52,[.tmp 2],(.seq (.ai [qu 2 (.aM (qb false))]) (.seq (.seq (.ai [qm 5 0,qu 6 (.len 0 5),qu 7 (.aJ .lss 6 (qi 1)),qm 8 7,qg 9 (.aM 0) 8 false,qg 10 (.len 0 9) 8 false,qg 11 (.aJ .gtr 10 (qi 12)) 8 false,qu 12 (.pick 8 (qb true) 11),qm 13 12,qg 14 (.aM 0) 13 false,qg 15 (.aJ .eql 14 (.c (.rv (.one (.ah (.val (.string ⟨#[46]⟩))))))) 13 false,qu 16 (.pick 13 (qb true) 15),qm 17 16,qg 18 (.aM 0) 17 false,qg 19 (.aJ .eql 18 (.c (.rv (.one (.ah (.val (.string ⟨#[46,46]⟩))))))) 17 false,qu 20 (.pick 17 (qb true) 19)]) (.cond 20 (.seq (.ai [qu 2 (.aM (qb false))]) .ret) .skip)) (.seq (.seq (.ai [qm 21 0,qu 22 (.len 0 21),qu 23 (.aM (qi 0))]) (.block 0 (.loop (.seq (.ai [qu 24 (.aJ .lss 23 22)]) (.seq (.cond 24 .skip (.exit 0)) (.seq (.block 1 (.seq (.ai [qm 25 23,qm 3 25]) (.seq (.ai [qm 26 0,qm 27 3,qu 28 (.CK 26 27),qm 4 28]) (.seq (.ai [qm 29 4,qu 30 (.aJ .lss 29 (.c (.rv (.one (.ah (.val (.int .u8 (97)))))))),qm 31 30,qg 32 (.aM 4) 31 false,qg 33 (.aJ .gtr 32 (.c (.rv (.one (.ah (.val (.int .u8 (122)))))))) 31 false,qu 34 (.pick 31 (qb true) 33),qm 35 34,qg 36 (.aM 4) 35 true,qg 37 (.aJ .lss 36 (.c (.rv (.one (.ah (.val (.int .u8 (48)))))))) 35 true,qg 38 (.aM 37) 35 true,qg 39 (.aM 4) 38 false,qg 40 (.aJ .gtr 39 (.c (.rv (.one (.ah (.val (.int .u8 (57)))))))) 38 false,qg 41 (.pick 38 (qb true) 40) 35 true,qu 42 (.pick 35 41 (qb false)),qm 43 42,qg 44 (.aM 4) 43 true,qg 45 (.aJ .neq 44 (.c (.rv (.one (.ah (.val (.int .u8 (46)))))))) 43 true,qu 46 (.pick 43 45 (qb false)),qm 47 46,qg 48 (.aM 4) 47 true,qg 49 (.aJ .neq 48 (.c (.rv (.one (.ah (.val (.int .u8 (95)))))))) 47 true,qu 50 (.pick 47 49 (qb false))]) (.cond 50 (.seq (.ai [qu 2 (.aM (qb false))]) .ret) .skip))))) (.ai [qu 51 (.aJ .add 23 (qi 1)),qm 23 51]))))))) (.seq (.ai [qu 2 (.aM (qb true))]) .ret))))⟩
namespace bM
abbrev dQ:=List UInt8
def vT(t:dQ):CV:=fb (cG t)
theorem BK(s:ByteArray):∃t:dQ,s=cG t:=⟨s.data.toList,rfl⟩
theorem vu(t:dQ):(cG t).toList=t:=ByteArray.toList_mk t
theorem lE{a b:dQ}{A B:Prop}(ha:a=b->A)(hb:a≠b->B): @Bool.rec (λ_=>Prop) B A ((cG a).toList==(cG b).toList):=by
 rw[vu,vu];cases h:(a==b)
 .exact hb (by simpa using h)
 .exact ha (by simpa using h)
def N8(n:Nat):Bool:=(decide (97<=n)&&decide (n<=122))||(decide (48<=n)&&decide (n<=57))||decide (n=46)||decide (n=95)
def gd(t:dQ):Bool:=decide (1<=t.length)&&decide (t.length<=12)&&decide (t≠[46])&&decide (t≠[46,46])&&t.all λc=>N8 c.toNat
theorem Gn{t:dQ}{k:Nat}(hk:k<t.length)(h:N8 t[k].toNat=false):gd t=false:=by
 have:(t.all λc=>N8 c.toNat)=false:=by
  rw[adB];exact⟨t[k],aaw hk,by simp[h]⟩
 simp[gd,this]
theorem Gp{t:dQ}(h1:1<=t.length)(h2:t.length<=12)(h3:t≠[46])(h4:t≠[46,46])(h:∀k(hk:k<t.length),N8 t[k].toNat=true):gd t=true:=by
 have:(t.all λc=>N8 c.toNat)=true:=by rw[abd];intro c hc;obtain⟨k,hk,rfl⟩:=List.mem_iff_getElem.1 hc;exact h k hk
 simp[gd,this,h1,h2,h3,h4]
theorem X9{n:Nat}(h1:¬(97<=n/\n<=122))(h2:¬(48<=n/\n<=57))(h3:n≠46)(h4:n≠95):N8 n=false:=by
 have a:¬(97<=n)\/¬(n<=122):=om;have b:¬(48<=n)\/¬(n<=57):=om;unfold N8;rcases a with a|a<;>rcases b with b|b<;>simp[a,b,h3,h4]
theorem Ya{n:Nat}(h:(97<=n/\n<=122)\/(48<=n/\n<=57)\/n=46\/n=95):N8 n=true:=by
 unfold N8;rcases h with⟨a,b⟩|⟨a,b⟩|h|h<;>simp_all
theorem l106:bz prog f106=some c106:=by kernel_rfl
theorem abS{t:dQ}{k:Nat}(hk:k<t.length):dD (cG t).data.toList (k:Nat)=some t[k]:=by rw[bG,p5,vU hk]
theorem gM(t:dQ):(((cG t).size:Nat):Int)=t.length:=by rw[ny]
theorem um(t:dQ):body prog c106 [vT t] [] (λr m=>r=aD (gd t)):=by
 refine aN (λh=>?_) (λh=>?_)
 .rw[gM]at h;have:gd t=false:=by simp[gd];omega
  rw[this];rfl
 rw[gM]at h;refine aN (λh2=>?_) (λh2=>?_)
 .rw[gM]at h2;have:gd t=false:=by simp[gd];omega
  rw[this];rfl
 rw[gM]at h2;refine lE (b:=[46]) (λh3=>?_) (λh3=>?_)
 .subst h3;rfl
 refine lE (b:=[46,46]) (λh4=>?_) (λh4=>?_)
 .subst h4;rfl
 refine bc (λk=>k<=t.length/\∀j(hj:j<t.length),j<k->N8 t[j].toNat=true) [0] (λk=>[(22,am .i64 (t.length:Nat)),(23,am .i64 (k:Nat))]) (λ_=>[]) (λk=>t.length-k) 0 ⟨aaj _,λj _ h=>absurd h (aaU _)⟩ ?_ (λk hk=>?_)
 .refine View.o 0 [] [] ?_ (.nil _);repeat(first|exact .nil|refine .aA ?_|refine .eq rfl ?_|refine .put (.bb (by rw[gM];rfl)) ?_)
 obtain⟨hk,f8⟩:k<=t.length/\∀j(hj:j<t.length),j<k->N8 t[j].toNat=true:=hk;refine aN (λh5=>?_) (λh5=>?_)
 .have aC:k<t.length:=by have h5:(k:Int)<(t.length:Int):=h5;omega
  refine af (abS aC) ?_;repeat' first|refine aN (λ_=>?_) (λ_=>?_)|refine bx (λ_=>?_) (λ_=>?_)
  all_goals first
   |(show aD false=aD (gd t)
     rw[Gn aC (X9 om om om om)])
   |(refine⟨k+1,⟨aC,λj hj hjk=>?_⟩,(show t.length-(k+1)<t.length-k by omega),View.o 0 [] [] ?_ (.nil _)⟩
     .rcases aaf j k with h|h
      .exact f8 j hj h
      .have:j=k:=om;subst this;exact Ya om
     .repeat(first|exact .nil|refine .aA ?_|refine .put (.bb (cj om).symm) ?_|refine .eq rfl ?_))
 .show aD true=aD (gd t);have h5:¬(k:Int)<(t.length:Int):=h5;rw[Gp om om h3 h4 λj hj=>f8 j hj om]
theorem BL(t:dQ){m:Mem}{K:CV->Mem->Prop}(h:K (aD (gd t)) m):ap prog 106 [vT t] m K:=
 bw func106 l106 rfl (aad rfl) (um t) rfl rfl h
end bM
def c66:LF:= ⟨37,[.cell false 1 2,.cell false 1 3,.cell false 1 4],(.seq (.ai [qu 2 (.alloc [.aO]),qu 3 (.alloc [(.ah (.val (.bool false)))]),qu 4 (.alloc [qd 0])]) (.seq (.seq (.ai [qm 7 0,qu 8 (.aJ .eql 7 (.c (.rv (.one (.ah (.val (.string ⟨#[]⟩)))))))]) (.cond 8 (.seq (.ai [qw (.store 1 2 qe),qw (.store 1 3 (qb false)),qw (.store 1 4 (qi 2))]) .ret) .skip)) (.seq (.seq (.ai [qm 9 0,qu 10 (.len 0 9),qu 11 (.aJ .gtr 10 (qi 60))]) (.cond 11 (.seq (.ai [qw (.store 1 2 qe),qw (.store 1 3 (qb false)),qw (.store 1 4 (qi 4))]) .ret) .skip)) (.seq (.ai [qu 5 (.alloc [.aO])]) (.seq (.seq (.ai [qm 12 0,qu 13 (qc 105 [12,(.c (.rv (.one (.ah (.val (.string ⟨#[47]⟩))))))])]) (.block 0 (.yR 13 14 (.ai [qm 6 14]) (.block 1 (.block 2 (.seq (.ai [qm 16 6,qu 17 (.aJ .eql 16 (.c (.rv (.one (.ah (.val (.string ⟨#[]⟩))))))),qm 18 17,qg 19 (.aM 6) 18 false,qg 20 (.aJ .eql 19 (.c (.rv (.one (.ah (.val (.string ⟨#[46]⟩))))))) 18 false,qu 21 (.pick 18 (qb true) 20),qm 15 21]) (.cond 15 .skip (.seq (.ai [qm 23 6,qu 24 (.aJ .eql 23 (.c (.rv (.one (.ah (.val (.string ⟨#[46,46]⟩))))))),qm 25 24,qg 26 (.aM 6) 25 false,qg 27 (qc 106 [26]) 25 false,qu 28 (.pick 25 (qb true) 27),qm 22 28]) (.cond 22 (.ai [ql 29 5,qm 30 6,qu 31 (.od 1 [(.ah (.val (.string ⟨#[]⟩)))] 1 [(0,30)]),qu 32 (.pO 1 16 29 31),qw (.store 1 5 32)]) (.seq (.ai [qw (.store 1 2 qe),qw (.store 1 3 (qb false)),qw (.store 1 4 (qi 7))]) .ret)))))))))) (.seq (.bV [ql 33 5,qm 34 0,qu 35 (.CK 34 (qi 0)),qu 36 (.aJ .eql 35 (.c (.rv (.one (.ah (.val (.int .u8 (47)))))))),qw (.store 1 2 33),qw (.store 1 3 36),qw (.store 1 4 (qi 0))] [(eK 4 0 (.cons 4 (some []) (.cons 5 (some []) (.cons 6 (some []) .nil))))]) .ret))))))⟩
def c105:LF:= ⟨8,[.tmp 4],(.seq (.ai [qu 4 (.aM (.c (.rv (.one (.ah (.val .nilFunc))))))]) (.seq (.ai [qm 5 0,qm 6 1,qu 7 (qc 131 [5,6,qi 0]),qm 4 7]) .ret))⟩
def c131:LF:= ⟨8,[.tmp 6],(.seq (.ai [qu 3 (.box 0),qu 4 (.box 1),qu 5 (.box 2),qu 6 (.aM (.c (.rv (.one (.ah (.val .nilFunc))))))]) (.seq (.ai [qu 7 (.fn 147 [4,3,5]),qm 6 7]) .ret))⟩
namespace bM
theorem l131:bz prog f131=some c131:=by kernel_rfl
theorem l105:bz prog f105=some c105:=by kernel_rfl
def Yb(s:ByteArray):Bk:= .var [.ah (.val (.string s))]
def sqM(s sep:ByteArray)(b0 b1 b2 b3:Bk):Mem:=[b0,b1,b2,b3,Yb s,Yb sep,.var [.ah (.val (.int .i64 0))]]
theorem abT(s sep:ByteArray){b0 b1 b2 b3:Bk}{K:CV->Mem->Prop}(h:K (.rv (.one (.fn 147 [5,4,6]))) (sqM s sep b0 b1 b2 b3)):ap prog 131 [fb s,fb sep,am .i64 0] [b0,b1,b2,b3] K:=
 aZ func131 l131 h
theorem abU(s sep:ByteArray){b0 b1 b2 b3:Bk}{K:CV->Mem->Prop}(h:K (.rv (.one (.fn 147 [5,4,6]))) (sqM s sep b0 b1 b2 b3)):ap prog 105 [fb s,fb sep] [b0,b1,b2,b3] K:=by refine aZ func105 l105 ?_;exact abT s sep h
theorem xS(c:UInt8):∀t:dQ,(hU c t).length<=t.length+1
 | []=>by simp[hU]
 |x::r=>by
  have ih:=xS c r;simp only[hU];split
  .simp;exact ih
  .split
   .simp
   .rename_i h;rw[h]at ih;simp at ih|-;omega
theorem dx(a b:List (List Dt)):aa (a++b)=aa a++aa b:=by simp[aa]
theorem Q7(c:UInt8)(r:dQ):decide ((c::r)[0]? =some 47)=((c.toNat:Int)==47):=by
 by_cases h:c=47
 .subst h;rfl
 .have h2:(c.toNat:Int)≠47:=by
   intro e;have e2:c.toNat=(47:UInt8).toNat:=by show c.toNat=47;omega
   exact h (UInt8.toNat_inj.1 e2)
  simp[h,h2]
theorem l66:bz prog f66=some c66:=by kernel_rfl
def tD(t:dQ):List Dt:=[.val (.string (cG t))]
def ZV(l:List dQ):Dt:= .sl 1 (l.map tD)
def txV(l:List dQ):CV:= .rv (.one (.ah (ZV l)))
def sR(w:dQ):Bool:= !(decide (w=[])||decide (w=[46]))
def sS(w:dQ):Bool:=decide (w=[])||decide (w=[46])||decide (w=[46,46])||gd w
def BM(t:dQ):List dQ:=(hU 47 t).filter sR
def cO(t:dQ):List dQ×Bool×Int:=
 if t=[]then([],false,2)else if 60<t.length then([],false,4)else if(hU 47 t).all sS then(BM t,decide (t[0]? =some 47),0)else([],false,7)
def US(p:List dQ×Bool×Int):CV:= .bD [.one (.ah (ZV p.1)),.one (.ah (.val (.bool p.2.1))),.one (.ah (.val (.int .i64 p.2.2)))]
def pt(id:Nat):CV:= .rv (.one (.ptr id 0))
def Q8(t:dQ):List CV:=vT t:: .aA::pt 0::pt 1::pt 2::pt 3::gI 31 .aA
def UT:List dQ->Mem
 | []=>[.var [.aO],.var [.ah (.val (.bool false))],.var [.ah (.val (.int .i64 0))],.var [.aO]]
 |x::r=>[.var [.aO],.var [.ah (.val (.bool false))],.var [.ah (.val (.int .i64 0))],.var [.row 4 1 0 none],.row 1 (aa ((x::r).map tD))]
theorem Gq{c:UInt8}{t:dQ}{k:Nat}{y:ByteArray}(h:(ix c (cG t))[k]? =some y):∃w,(hU c t)[k]? =some w/\y=cG w:=by
 simp only[ix,p5,Tm]at h;cases hc:(hU c t)[k]? with
 |none=>rw[hc]at h;cases h
 |some w=>rw[hc]at h;cases h;exact⟨w,rfl,rfl⟩
theorem mI{m:Mem}{c:CC}{l:List dQ}{b:Bool}{e:Int}(h:fk m c (.ah (ZV l))):cV m (.bD [.one c,.one (.ah (.val (.bool b))),.one (.ah (.val (.int .i64 e)))]) (US (l,b,e)):=by
 refine .bD rfl λi r r' h1 h2=>?_
 match i with
 |0=>cases h1;cases h2;exact .one h
 |1=>cases h1;cases h2;exact .one (.ah _)
 |2=>cases h1;cases h2;exact .one (.ah _)
 |n+3=>simp at h1
theorem Gr(t:dQ):body prog c66 [vT t] [] (λr m=>cV m r (US (cO t))):=by
 refine lE (b:=[]) (λh=>?_) (λh0=>?_)
 .subst h;exact mI (.aO 1)
 refine aN (λh=>?_) (λh1=>?_)
 .rw[gM]at h;have:cO t=([],false,4):=by rw[cO,if_neg h0,if_pos om]
  rw[this];exact mI (.aO 1)
 rw[gM]at h1;refine abU (cG t) ⟨#[47]⟩ ?_;refine⟨147,[5,4,6],[.string ⟨#[47]⟩,.string (cG t),.int .i64 0],ix 47 (cG t),List dQ,λk out=>out=((hU 47 t).take k).filter sR/\((hU 47 t).take k).all sS=true,λout=>⟨Q8 t,UT out⟩,rfl,
  ⟨⟨rfl,rfl⟩,⟨rfl,rfl⟩,⟨rfl,rfl⟩,trivial⟩,⟨by decide,aE⟩,Ko (cG t) 47 (by rw[gM];omega),⟨[],⟨aE,aE⟩,?_⟩,?_,?_⟩
 .refine View.o1 7 [0,1,2,3] [] ?_
  .repeat(first|exact .nil _|refine .put (by simp[br]) rfl (.eq rfl aE) ?_)
 .intro k y out hk hJ;obtain⟨w,hw,rfl⟩:=Gq hk;obtain⟨ho,hg⟩:=hJ;have Tc:(hU 47 t).take (k+1)=(hU 47 t).take k++ [w]:=by rw[abG,hw];rfl
  have skip:w=[]\/w=[46]->out=((hU 47 t).take (k+1)).filter sR/\((hU 47 t).take (k+1)).all sS=true:=by
   intro h;rw[Tc,adV,List.all_append,<-ho,hg];rcases h with rfl|rfl<;>simp[sR,sS]
  have eW:w≠[]->w≠[46]->(w=[46,46]\/gd w=true)->out++ [w]=((hU 47 t).take (k+1)).filter sR/\((hU 47 t).take (k+1)).all sS=true:=by
   intro h1 h2 h3;rw[Tc,adV,List.all_append,<-ho,hg];rcases h3 with rfl|h3
   .simp[sR,sS]
   .simp[sR,sS,h1,h2,h3]
  have bad:w≠[]->w≠[46]->w≠[46,46]->gd w=false->cO t=([],false,7):=by
   intro h1 h2 h3 h4;have:(hU 47 t).all sS=false:=by
    rw[adB];exact⟨w,Tp hw,by simp[sS,h1,h2,h3,h4]⟩
   rw[cO,if_neg h0,if_neg om,this];rfl
  have hlen:out.length<=61:=by
   rw[ho];have h2:=acW sR ((hU 47 t).take k);have h3:=xS 47 t;have h4:((hU 47 t).take k).length<=(hU 47 t).length:=by rw[aaA];omega
   omega
  clear ho hg Tc hk;cases out with
  |nil=>
   have dC:View 0 ⟨Q8 t,UT []⟩ ⟨Q8 t,UT []⟩:=by
    refine View.o1 4 [0,1,2,3] [] ?_
    .repeat(first|exact .nil _|refine .put (by simp[br]) rfl (.eq rfl aE) ?_)
   have gQ:∀m,m=([.var [.aO],.var [.ah (.val (.bool false))],.var [.ah (.val (.int .i64 0))],.var [.row 5 1 0 none],.aS,.row 1 ([]++ [[.ah (.val (.string (cG w)))]])]:Mem)->View 0 ⟨Q8 t,m⟩ ⟨Q8 t,UT ([]++ [w])⟩:=by
    rintro m rfl;refine View.o1 6 [0,1,2,3,5] [] ?_
    .repeat(first|exact .nil _|refine .put (by simp[br]) rfl (.eq rfl aE) ?_)
   refine lE (b:=[]) (λe1=>?_) (λe1=>?_)
   .exact⟨[],skip (.inl e1),dC⟩
   refine lE (b:=[46]) (λe2=>?_) (λe2=>?_)
   .exact⟨[],skip (.inr e2),dC⟩
   refine lE (b:=[46,46]) (λe3=>?_) (λe3=>?_)
   .exact⟨(show 1*16<=140737488355328 by omega),_,eW e1 e2 (.inl e3),gQ _ rfl⟩
   .refine BL w ?_;refine aG (λe4=>?_) (λe4=>?_)
    .exact⟨(show 1*16<=140737488355328 by omega),_,eW e1 e2 (.inr e4),gQ _ rfl⟩
    .rw[bad e1 e2 e3 e4];exact mI (.aO 1)
  |cons x r=>
   have dC:View 0 ⟨Q8 t,UT (x::r)⟩ ⟨Q8 t,UT (x::r)⟩:=by
    refine View.o1 5 [0,1,2,3,4] [] ?_
    .refine .put (by simp[br]) rfl (.eq rfl aE) (.put (by simp[br]) rfl (.eq rfl aE) (.put (by simp[br]) rfl (.eq rfl aE) (.put (by simp[br]) rfl (.eq rfl aE) (.put (by simp[br]) rfl (.bL rfl) (.nil _)))))
   have gQ:∀m,m=([.var [.aO],.var [.ah (.val (.bool false))],.var [.ah (.val (.int .i64 0))],.var [.row 6 1 0 none],.aS,.aS,.row 1 (aa ((x::r).map tD)++ [[.ah (.val (.string (cG w)))]])]:Mem)->View 0 ⟨Q8 t,m⟩ ⟨Q8 t,UT ((x::r)++ [w])⟩:=by
    rintro m rfl;refine View.o1 7 [0,1,2,3,6] [] ?_
    .refine .put (by simp[br]) rfl (.eq rfl aE) (.put (by simp[br]) rfl (.eq rfl aE) (.put (by simp[br]) rfl (.eq rfl aE) (.put (by simp[br]) rfl (.eq rfl aE) (.put (by simp[br]) rfl (.bL ?_) (.nil _)))))
     show _=aa (((x::r)++ [w]).map tD);rw[abm,dx];rfl
   have tw:((aa ((x::r).map tD)).length+1)*16<=140737488355328:=by simp[aa];simp at hlen;omega
   refine lE (b:=[]) (λe1=>?_) (λe1=>?_)
   .exact⟨_,skip (.inl e1),dC⟩
   refine lE (b:=[46]) (λe2=>?_) (λe2=>?_)
   .exact⟨_,skip (.inr e2),dC⟩
   refine lE (b:=[46,46]) (λe3=>?_) (λe3=>?_)
   .exact⟨tw,_,eW e1 e2 (.inl e3),gQ _ rfl⟩
   .refine BL w ?_;refine aG (λe4=>?_) (λe4=>?_)
    .exact⟨tw,_,eW e1 e2 (.inr e4),gQ _ rfl⟩
    .rw[bad e1 e2 e3 e4];exact mI (.aO 1)
 .intro out hJ;obtain⟨ho,hg⟩:=hJ;have jZ:(ix 47 (cG t)).length=(hU 47 t).length:=by simp[ix]
  rw[jZ,aaV]at ho hg;have hs:cO t=(out,decide (t[0]? =some 47),0):=by rw[cO,if_neg h0,if_neg om,hg];simp[BM,ho]
  rw[hs];obtain⟨c,r,rfl⟩:∃c r,t=c::r:=by
   cases t with
   |nil=>exact absurd rfl h0
   |cons c r=>exact⟨c,r,rfl⟩
  have hc:decide ((c::r)[0]? =some 47)=((c.toNat:Int)==47):=Q7 c r;cases out with
  |nil=>
   rw[hc];refine⟨trivial,trivial,trivial,?_⟩;exact mI (l:=[]) (c:= .aO) (.aO 1)
  |cons x r=>
   rw[hc];refine⟨trivial,trivial,trivial,?_⟩;exact mI (l:=x::r) (c:= .row 4 1 0 none) (fk.fl (ds:=(x::r).map tD) rfl 0 none)
theorem xT(t:dQ){m:Mem}{K:CV->Mem->Prop}(h:K (US (cO t)) m):ap prog 66 [vT t] m K:=
 bh (aZ func66 l66 (Gr t)) (by simp[vT,fb,CV.dB,CC.dB]) λr m1 hf=>⟨_,hf,h⟩
end bM
namespace bM
theorem bg(l:List (List Dt)):(aa l).length=l.length:=by simp[aa]
end bM
def obZ:Ob:=⟨0,[],[],⟨#[]⟩,0,noD,0,0,0⟩
def lY(l:List Ob)(n:Nat):Ob:=(l[n]?).getD obZ
theorem uo{l:List Ob}{n:Nat}(h:n<l.length):lY l n=l[n]:=by rw[lY,vU h];rfl
structure R4 where
 bm:Int
 cL:Int
 name:bM.dQ
 eS:Int
def R4.no(e:Int):R4:=⟨0,0,[],e⟩
def i9(o:Ob):List NE:=o.ak.map oo
def mN(l:List Ob)(dj:Nat)(w:bM.dQ):Int:=fT (i9 (lY l dj)) (bM.cG w)
def BN(l:List Ob)(dj:Nat):Nat:=(lY l dj).up.toNat
def Iy(l:List Ob)(aq:Nat)(ax follow:Bool)(rec:Nat->List bM.dQ->Nat->R4):List bM.dQ->Nat->R4
 | [],a=>⟨a,BN l a,[],0⟩
 |w::rest,a=>
  if(lY l a).ag≠2 then R4.no 11
  else if w=[46,46]then(if ax=true/\a=aq then R4.no 14 else Iy l aq ax follow rec rest (BN l a))
  else if mN l a w<0 then(if rest≠[]then R4.no 6 else⟨-1,a,w,0⟩)
  else if(lY l (mN l a w).toNat).ag=3/\(follow=true\/rest≠[])then rec a rest (mN l a w).toNat
  else if rest=[]then⟨mN l a w,a,w,0⟩
  else Iy l aq ax follow rec rest (mN l a w).toNat
def N9(l:List Ob)(k:Nat):bM.dQ:=(lY l k).target.data.toList
def Q9(l:List Ob)(ax:Bool)(wk:List bM.dQ->Nat->R4)(a:Nat)(rest:List bM.dQ)(k:Nat):R4:=
 if(bM.cO (N9 l k)).2.2≠0 then R4.no (bM.cO (N9 l k)).2.2
 else if(bM.cO (N9 l k)).2.1=true/\ax=true then R4.no 14
 else wk ((bM.cO (N9 l k)).1++rest) (if(bM.cO (N9 l k)).2.1=true then 0 else a)
def CH(l:List Ob)(aq:Nat)(ax follow:Bool):Nat->List bM.dQ->Nat->R4
 |0=>Iy l aq ax follow λ_ _ _=>R4.no 13
 |n+1=>Iy l aq ax follow (Q9 l ax (CH l aq ax follow n))
def qG(l:List Ob)(aq:Int)(s:bM.dQ)(ax follow:Bool):R4:=
 if o7 l aq 0=true then
  if(lY l aq.toNat).ag≠2 then R4.no 11
  else if(bM.cO s).2.2≠0 then R4.no (bM.cO s).2.2
  else if(bM.cO s).2.1=true/\ax=true then R4.no 14
  else CH l aq.toNat ax follow 6 (bM.cO s).1 (if(bM.cO s).2.1=true then 0 else aq.toNat)
 else R4.no 6
structure nX(l:List Ob):Prop where
 len:l.length<=64
 pos:0<l.length
 en:∀o,o∈l->XT l.length o.ag o.ak
 ne:∀o,o∈l->o.ak.length<=64
 up:∀o,o∈l->0<=o.up/\o.up<l.length
theorem nX.UU{l:List Ob}(h:nX l)(n:Nat):BN l n<l.length:=by
 rw[BN,lY];cases hn:l[n]? with
 |none=>show(0:Int).toNat<l.length;have:=h.pos;simpa using this
 |some o=>have:=h.up o (Tp hn);show o.up.toNat<l.length;omega
theorem nX.Oa{l:List Ob}(h:nX l){n:Nat}(hn:n<l.length):l[n].up=(BN l n:Nat):=by rw[BN,uo hn];have:=h.up _ (aaw hn);omega
theorem nX.dO{l:List Ob}(h:nX l)(n:Nat):FT (i9 (lY l n))/\(∀e,e∈i9 (lY l n)->0<=e.2/\e.2<(l.length:Int))/\(i9 (lY l n)).length<=64/\∀hn:n<l.length,l[n].ak=(i9 (lY l n)).map gl:=by
 rw[lY];cases hn:l[n]? with
 |none=>
  refine⟨List.Pairwise.nil,by simp[i9,obZ],by simp[i9,obZ],λh=>?_⟩
  rw[vU h]at hn;cases hn
 |some o=>
  obtain⟨es,h1,h2,h3,h4⟩:=(h.en o (Tp hn)).ex;have h5:i9 o=es:=by rw[i9,h1,nV]
  show FT (i9 o)/\(∀e,e∈i9 o->_)/\(i9 o).length<=64/\∀hn:n<l.length,l[n].ak=(i9 o).map gl;rw[h5];refine⟨h2,h3,?_,λh=>?_⟩
  .have:=h.ne o (Tp hn);rw[h1,Pj]at this;exact this
  .rw[vU h]at hn;cases hn;exact h1
theorem nX.UW{l:List Ob}(h:nX l)(n:Nat)(w:bM.dQ)(hf:¬mN l n w<0):∃k:Nat,mN l n w=k/\k<l.length:=by
 obtain⟨_,h2,_,_⟩:=h.dO n;rcases i3 (i9 (lY l n)) (bM.cG w)with⟨e,he,_,h3⟩|⟨h3,_⟩
 .obtain⟨h4,h5⟩:=h2 e he;exact⟨e.2.toNat,by rw[mN,h3];omega,om⟩
 .rw[mN,h3]at hf;omega
theorem Oc{a b:ByteArray}:lD a b<0↔Br a b:=by
 unfold lD Br;by_cases h:Tk a b=true
 .rw[if_pos h];exact⟨λ_=>h,λ_=>om⟩
 .rw[if_neg h];refine⟨λh2=>?_,λh2=>absurd h2 h⟩
  split at h2<;>omega
theorem xU{a b:ByteArray}:lD a b=0↔a.toList=b.toList:=by
 unfold lD;by_cases h:Tk a b=true
 .rw[if_pos h];refine⟨λh2=>om,λh2=>?_⟩
  rw[Tk,h2,o6]at h;cases h
 .rw[if_neg h];rw[adp]at h;by_cases h2:Wb a b=true
  .rw[if_pos h2];refine⟨λh3=>om,λh3=>?_⟩
   unfold Wb at h2;rw[h3]at h2;simp at h2
  .rw[if_neg h2];refine⟨λ_=>?_,λ_=>rfl⟩
   unfold Wb at h2;unfold Tk at h;rw[h]at h2;simpa using h2
theorem po{es:List NE}(hs:FT es)(s:ByteArray):∀(n i j:Nat),j-i<=n->i<=j->j<=es.length->(∀(k:Nat)e,k<i->es[k]? =some e->Br e.1 s)->(∀(k:Nat)e,j<=k->es[k]? =some e->¬Br e.1 s)->
  Kj es s n i j<=es.length/\(∀(k:Nat)e,k<Kj es s n i j->es[k]? =some e->Br e.1 s)/\∀(k:Nat)e,Kj es s n i j<=k->es[k]? =some e->¬Br e.1 s
 |0,i,j,hn,p9,hj,h1,h2=>by have:i=j:=om;subst this;exact⟨hj,h1,h2⟩
 |n+1,i,j,hn,p9,hj,h1,h2=>by
  rw[Kj];by_cases aC:i<j
  .rw[if_pos aC];have hh:(i+j)/2<es.length:=om;rw[vU hh];simp only[];have hp:=ab4.1 hs;by_cases hc:lD es[(i+j)/2].1 s<0
   .rw[if_pos hc];refine po hs s n _ _ om om hj (λk e hk he=>?_) h2
    have iB:=Oc.1 hc;obtain⟨gA,rfl⟩:=Km.1 he;rcases aaf k ((i+j)/2)with h3|h3
    .exact sG (hp k _ gA hh h3) iB
    .have:k=(i+j)/2:=om;subst this;exact iB
   .rw[if_neg hc];refine po hs s n _ _ om om om h1 λk e hk he hl=>?_
    have iB:¬Br es[(i+j)/2].1 s:=λh=>hc (Oc.2 h)
    obtain⟨gA,rfl⟩:=Km.1 he;rcases aaf ((i+j)/2) k with h3|h3
    .exact iB (sG (hp _ k hh gA h3) hl)
    .have:k=(i+j)/2:=om;subst this;exact iB hl
  .rw[if_neg aC];have:i=j:=om;subst this;exact⟨hj,h1,h2⟩
theorem Iz{es:List NE}(hs:FT es)(s:ByteArray):Bs es s (if BH es s=true then(match es[rk es s]? with|some e=>e.2|none=>0)else -1):=by
 obtain⟨h0,h1,h2⟩:=po hs s es.length 0 es.length om om om (λk e hk=>absurd hk (aaU k)) (λk e hk he=>by have:=(Km.1 he).1;omega)
 have hI:Kj es s es.length 0 es.length=rk es s:=rfl;rw[hI]at h0 h1 h2;unfold BH;cases he:es[rk es s]? with
 |none=>
  simp only[];rw[if_neg aE];refine .inr ⟨rfl,λe hm heq=>?_⟩
  obtain⟨k,hk⟩:=aaa hm;have gA:=(Km.1 hk).1;have:es.length<=rk es s:=adu.1 he;have:=h1 k e om hk;rw[Br,heq,o6]at this;cases this
 |some e=>
  simp only[];by_cases hc:lD e.1 s=0
  .rw[if_pos (by rw[hc];rfl)]
   exact .inl ⟨e,Tp he,xU.1 hc,rfl⟩
  .rw[if_neg (by simpa using hc)]
   refine .inr ⟨rfl,λe' hm heq=>?_⟩
   obtain⟨k,hk⟩:=aaa hm;obtain⟨gA,Bu⟩:=Km.1 hk;obtain⟨M3,nT⟩:=Km.1 he;rcases adk k (rk es s)with h3|h3|h3
   .have:=h1 k e' h3 hk;rw[Br,heq,o6]at this;cases this
   .subst h3;rw[he]at hk;cases hk;exact hc (xU.2 heq)
   .have hp:=ab4.1 hs _ k M3 gA h3;rw[nT,Bu]at hp;have kG:=h2 _ e (Ym _) he;apply kG;rw[Br,<-heq];exact hp
theorem BO(d:List (List Dt))(hb:d.length<=4194304):body prog c97 [sA 1 d] [] (λr m=>∃r' m',View 0 ⟨[r],m⟩ ⟨[r'],m'⟩/\r'= .rv (.one (.row 0 1 0 none))/\m'=[.row 1 (aa d)]):=by
 have tw:((([]:List (List CC)).length+(d.map λds=>ds.map CC.ah).length)*1)<=140737488355328:=by simp;omega
 have gQ:∃r' m',View 0 ⟨[CV.rv (.one (.row 1 1 0 none))],[.aS,.row 1 (b9 ([]:List (List CC)) 0 none++d.map λds=>ds.map CC.ah)]⟩ ⟨[r'],m'⟩/\r'=CV.rv (.one (.row 0 1 0 none))/\m'=[Bk.row 1 (aa d)]:=
  ⟨_,_,View.o 2 [1] [] (.eq rfl .nil) (.pn rfl rfl rfl),rfl,rfl⟩
 refine aG (λh=>?_) (λh=>?_)
 .have hd:d=[]:=aag (by simpa using aai h)
  refine⟨?_,tw,gQ⟩;subst hd;exact⟨_,_,View.aO 0 1 0 rfl rfl rfl,rfl,rfl⟩
 .exact⟨tw,gQ⟩
theorem iy(Y:Nat->Nat)(ds:List (List Dt)):(aa ds).map (λcs=>cs.map (CC.bb Y))=aa ds:=by simp[aa,adA,CC.bb]
theorem Gt(d:List (List Dt))(hb:d.length<=4194304){m:Mem}{K:CV->Mem->Prop}(h:K (.rv (.one (.row m.length 1 0 none))) (m++ [.row 1 (aa d)])):ap prog 97 [sA 1 d] m K:=by
 refine bu [] m.length rfl rfl rfl rfl (args0:=[sA 1 d]) rfl (λi b' hi=>by simp at hi) (K0:=λr m=>r= .rv (.one (.row 0 1 0 none))/\m=[.row 1 (aa d)]) (bJ (aZ func97 l97 (BO d hb)) λr m1 h=>h) (λr m1 hr=>?_)
 obtain⟨rfl,rfl⟩:=hr;refine⟨aaj _,?_⟩;show K (.rv (.one (.row (m.length+(0-0)) 1 0 none))) (gJ m [.row 1 ((aa d).map (λcs=>cs.map (CC.bb (sg [] m.length))))])
 rw[iy,cg];exact h
def oD(Q:Nat)(o:Obj):List CC:=[.ah (.val (.int .i64 o.ag)),.row Q 1 0 none,.ah (.sl 2 o.ak),.ah (.val (.string o.target)),.ah (.val (.int .i64 o.bp)),
 .ah (.sl 4 (o.ar.map di.enc)),.ah (.val (.int .i64 o.ba)),.ah (.val (.int .i64 o.al)),.ah (.val (.int .i64 o.up))]
def abW(o:Obj):Nat->Mem
 |0=>[.row 9 [],.aS]
 |_+1=>[.row 9 [oD 1 o],.row 1 (aa o.data)]
theorem Kp(o:Obj)(hf:o.oB):body prog c98 [cC [o]] [] (λr m=>r= .rv (.one (.row 0 9 0 none))/\m=[.row 9 [oD 1 o],.row 1 (aa o.data)]):=by
 obtain⟨ag,data,ak,target,bp,ar,ba,al,up⟩:=o;obtain⟨Nl,LL,S0,LM⟩:=hf;have Nl:data.length<=4194304:=Nl;have LL:ak.length<=4194304:=LL;have S0:ar.length<=4194304:=S0;have LM:∀q,q∈ar->q.data.length<=4194304:=LM;refine bc (λk=>k<=1) [0,9,10] (λk=>[(11,am .i64 (k:Nat)),(3,.rv (.one (.row 0 9 0 none)))]) (abW ⟨ag,data,ak,target,bp,ar,ba,al,up⟩) (λk=>1-k) 0 (aaj _) ?_ (λk hk=>?_)
 .refine View.trans (View.aO 2 4 0 rfl rfl rfl) (View.trans (View.aO 3 9 1 rfl rfl rfl) (View.o1 2 [1,0] [] ?_))
  .exact .put (by simp[br]) rfl (.eq rfl aE) (.aS (.nil _))
 have hk:k<=1:=hk
 match k,hk with
 |0,_=>
  refine Gt data Nl ?_;refine⟨⟨rfl,trivial⟩,?_⟩;refine tX ak LL ?_;refine⟨trivial,?_⟩;refine⟨trivial,?_⟩;refine⟨trivial,?_⟩;refine bc (λj=>j<=ar.length) [0,3,5,9,10,11,24,25] (λj=>[(26,am .i64 (j:Nat)),(6,.rv (.one (.row 4 4 0 none)))])
    (λj=>[.row 9 [],.aS,.var (oD 3 ⟨ag,data,ak,target,bp,ar,ba,al,up⟩),.row 1 (aa data),.row 4 (aa ((ar.take j).map di.enc))]) (λj=>ar.length-j) 0 (aaj _) ?_ (λj hj=>?_)
  .refine View.trans (View.aO 6 4 4 rfl rfl rfl) (View.o1 5 [0,1,2,3,4] [] ?_)
   .exact .pe rfl rfl rfl (.aS (.pe rfl rfl rfl (.pr rfl rfl rfl (.pn rfl rfl rfl))))
  have hj:j<=ar.length:=hj;refine aN (λh=>?_) (λh=>?_)
  .have ez:j<ar.length:=by have h:(j:Int)<((ar.map di.enc).length:Int):=h;rw[Pj]at h;omega
   have y7:=vU ez;have JW:=LM _ (aaw ez);generalize ar[j]=q at y7 JW;obtain⟨qd,qh,qo,qr⟩:=q;have CF:dD (ar.map di.enc) (j:Nat)=some [.sl 1 qd,.val (.bool qh),.val (.int .i64 qo),.val (.int .i64 qr)]:=by rw[bG,Tm,y7];rfl
   refine af CF ?_;refine iE qd JW ?_;refine⟨?_,?_⟩
   .show((aa ((ar.take j).map di.enc)).length+1)*48<=_;simp[aa];omega
   refine⟨j+1,ez,(show ar.length-(j+1)<ar.length-j by omega),View.o2 8 [0,1,2,3,7] [] ?_⟩
   .refine .pe rfl rfl rfl (.aS (.pe rfl rfl rfl (.pr rfl rfl rfl (.pt rfl rfl (.bL ?_) (.nil _)))));rw[sD y7,abm,dx];rfl
  .have d8:¬(j:Int)<((ar.map di.enc).length:Int):=h;rw[Pj]at d8;have hq:ar.take j=ar:=abM om;refine⟨by show(0+1)*128<=140737488355328;omega,?_⟩
   refine⟨1,Ym 1,(show 1-1<1-0 by omega),View.o2 7 [6,3] [4] ?_⟩
   .refine .pt rfl rfl (mH.JU (R:=[]) (R':=[]) rfl rfl ?_) (.pn rfl rfl rfl);intro j' c c' h1 h2;have e5:oD 1 ⟨ag,data,ak,target,bp,ar,ba,al,up⟩=[.ah (.val (.int .i64 ag)),.row 1 1 0 none,.ah (.sl 2 ak),.ah (.val (.string target)),.ah (.val (.int .i64 bp)),.ah (.sl 4 ((ar.take j).map di.enc)),.ah (.val (.int .i64 ba)),.ah (.val (.int .i64 al)),.ah (.val (.int .i64 up))]:=by simp[oD,hq]
    rw[e5]at h2
    match j',h1,h2 with
    |0,h1,h2=>cases h1;cases h2;exact .bb (.ah _)
    |1,h1,h2=>cases h1;cases h2;exact .bb (.row 1 1 0 none)
    |2,h1,h2=>cases h1;cases h2;exact .bb (.ah _)
    |3,h1,h2=>cases h1;cases h2;exact .bb (.ah _)
    |4,h1,h2=>cases h1;cases h2;exact .bb (.ah _)
    |5,h1,h2=>cases h1;cases h2;exact .fQ (d5.fl (Z:=λk=>br [4] k=true) rfl (by rw[<-aT];rfl) 0 none)
    |6,h1,h2=>cases h1;cases h2;exact .bb (.ah _)
    |7,h1,h2=>cases h1;cases h2;exact .bb (.ah _)
    |8,h1,h2=>cases h1;cases h2;exact .bb (.ah _)
    |n+9,h1,h2=>simp at h1
 |1,_=>exact⟨rfl,rfl⟩
theorem Od{Y:Nat->Nat}(Q:Nat)(o:Obj):(oD Q o).map (CC.bb Y)=oD (Y Q) o:=by simp[oD,CC.bb]
theorem Ra(o:Obj)(hf:o.oB){m:Mem}{K:CV->Mem->Prop}(h:K (.rv (.one (.row m.length 9 0 none))) (m++ [.row 9 [oD (m.length+1) o],.row 1 (aa o.data)])):ap prog 98 [cC [o]] m K:=by
 refine bu [] m.length rfl rfl rfl rfl rfl (λi b' hi=>by simp at hi) (aZ func98 l98 (Kp o hf)) (λr m1 hr=>?_)
 obtain⟨rfl,rfl⟩:=hr;refine⟨aaj _,?_⟩;show K (.rv (.one (.row (m.length+(0-0)) 9 0 none))) (gJ m [.row 9 [(oD 1 o).map (CC.bb (sg [] m.length))],.row 1 ((aa o.data).map (λcs=>cs.map (CC.bb (sg [] m.length))))])
 rw[Od,iy,cg];exact h
def c57:LF:= ⟨43,[.tmp 6,.tmp 7],(.seq (.ai [qu 3 (.box 0),qu 6 (.aM qe),qu 7 (.aM (qi 0))]) (.seq (.block 0 (.seq (.ai [qf 10 0 3,ql 11 10,qu 12 (.aJ .eql 11 (qi 2)),qm 9 12]) (.cond 9 (.seq (.ai [qu 6 (.aM qe),qu 7 (.aM (qi 12))]) .ret) (.seq (.ai [qf 14 0 3,ql 15 14,qu 16 (.aJ .neq 15 (qi 1)),qm 13 16]) (.cond 13 (.seq (.ai [qu 6 (.aM qe),qu 7 (.aM (qi 8))]) .ret) (.seq (.ai [qm 18 1,qu 19 (.aJ .lss 18 (qi 0)),qm 20 19,qg 21 (.aM 2) 20 false,qg 22 (.aJ .lss 21 (qi 0)) 20 false,qu 23 (.pick 20 (qb true) 22),qm 17 23]) (.cond 17 (.seq (.ai [qu 6 (.aM qe),qu 7 (.aM (qi 3))]) .ret) .skip))))))) (.seq (.ai [qm 24 1,qf 25 1 3,ql 26 25,qu 27 (.len 1 26),qu 28 (.kq false [24,27]),qm 8 28]) (.seq (.ai [qf 29 1 3,ql 30 29,qm 31 8,qm 32 8,qm 33 2,qf 34 1 3,ql 35 34,qu 36 (.len 1 35),qm 37 8,qu 38 (.aJ .sub 36 37),qu 39 (.kq false [33,38]),qu 40 (.aJ .add 32 39),qu 41 (.oG 1 30 (some 31) (some 40) none),qu 42 (qc 97 [41]),qm 6 42,qu 7 (.aM (qi 0))]) .ret))))⟩
theorem l57:bz prog Tryz.f57=some c57:=by kernel_rfl
def fB(a b:Nat):Nat:=if b<a then b else a
theorem sU(a b:Nat):(if(b:Int)<(a:Int)then(b:Int)else(a:Int))=((fB a b:Nat):Int):=by unfold fB;split<;>split<;>omega
theorem nY(a b:Nat):fB a b<=a/\fB a b<=b:=by unfold fB;split<;>omega
def Kq(d:List (List Dt))(dj n:Nat):List (List Dt):=(d.take (fB dj d.length+fB n (d.length-fB dj d.length))).drop (fB dj d.length)
def kg(ag:Int)(d:List (List Dt))(dj n:Int):List (List Dt)×Int:=
 if ag=2 then([],12)else if ag≠1 then([],8)else if dj<0\/n<0 then([],3)else(Kq d dj.toNat n.toNat,0)
def byR(d:List (List Dt)):RV:= .one (.ah (.sl 1 d))
def c58:LF:= ⟨68,[.cell true 9 6,.tmp 7],(.seq (.ai [qu 3 (.box 0),qu 6 (.alloc [qd 0,.aO,.aO,(.ah (.val (.string ⟨#[]⟩))),qd 0,.aO,qd 0,qd 0,qd 0]),qu 7 (.aM (qi 0))]) (.seq (.block 0 (.seq (.ai [qf 10 0 3,ql 11 10,qu 12 (.aJ .eql 11 (qi 2)),qm 9 12]) (.cond 9 (.seq (.ai [qu 13 (.build [qd 0,.aO,.aO,(.ah (.val (.string ⟨#[]⟩))),qd 0,.aO,qd 0,qd 0,qd 0] []),qw (.store 9 6 13),qu 7 (.aM (qi 12))]) .ret) (.seq (.ai [qf 15 0 3,ql 16 15,qu 17 (.aJ .neq 16 (qi 1)),qm 14 17]) (.cond 14 (.seq (.ai [qu 18 (.build [qd 0,.aO,.aO,(.ah (.val (.string ⟨#[]⟩))),qd 0,.aO,qd 0,qd 0,qd 0] []),qw (.store 9 6 18),qu 7 (.aM (qi 8))]) .ret) (.seq (.ai [qm 20 1,qu 21 (.aJ .lss 20 (qi 0)),qm 19 21]) (.cond 19 (.seq (.ai [qu 22 (.build [qd 0,.aO,.aO,(.ah (.val (.string ⟨#[]⟩))),qd 0,.aO,qd 0,qd 0,qd 0] []),qw (.store 9 6 22),qu 7 (.aM (qi 3))]) .ret) (.seq (.ai [qm 24 1,qu 25 (.aJ .gtr 24 (qi 60)),qm 26 25,qg 27 (.aM 2) 26 false,qg 28 (.len 1 27) 26 false,qg 29 (.aM 1) 26 false,qg 30 (.aJ .sub (qi 60) 29) 26 false,qg 31 (.aJ .gtr 28 30) 26 false,qu 32 (.pick 26 (qb true) 31),qm 23 32]) (.cond 23 (.seq (.ai [qu 33 (.build [qd 0,.aO,.aO,(.ah (.val (.string ⟨#[]⟩))),qd 0,.aO,qd 0,qd 0,qd 0] []),qw (.store 9 6 33),qu 7 (.aM (qi 15))]) .ret) .skip))))))))) (.seq (.ai [qL 34 9 3,qu 35 (.od 9 [qd 0,.aO,.aO,(.ah (.val (.string ⟨#[]⟩))),qd 0,.aO,qd 0,qd 0,qd 0] 1 [(0,34)]),qu 36 (qc 98 [35]),qu 37 (.cz 9 36 (qi 0)),qL 38 9 37,qu 8 (.alloc [qd 0,.aO,.aO,(.ah (.val (.string ⟨#[]⟩))),qd 0,.aO,qd 0,qd 0,qd 0]),qw (.store 9 8 38)]) (.seq (.block 1 (.loop (.seq (.seq (.ai [qf 39 1 8,ql 40 39,qu 41 (.len 1 40),qm 42 1,qm 43 2,qu 44 (.len 1 43),qu 45 (.aJ .add 42 44),qu 46 (.aJ .lss 41 45),qm 47 46,qg 48 (.aM 2) 47 true,qg 49 (.len 1 48) 47 true,qg 50 (.aJ .gtr 49 (qi 0)) 47 true,qu 51 (.pick 47 50 (qb false))]) (.cond 51 .skip (.exit 1))) (.block 2 (.ai [qf 52 1 8,ql 53 52,qu 54 (.od 1 [(.ah (.val (.int .u8 (0))))] 1 [(0,(.c (.rv (.one (.ah (.val (.int .u8 (0))))))))]),qu 55 (.pO 1 1 53 54),qf 56 1 8,qw (.store 1 56 55)]))))) (.cX (.seq (.ai [qf 57 1 8,ql 58 57,qm 59 1,qf 60 1 8,ql 61 60,qu 62 (.len 1 61),qu 63 (.kq false [59,62]),qu 64 (.oG 1 58 (some 63) none none),qm 65 2,qu 66 (.copy 1 64 65)]) (.seq (.ai [qL 67 9 8,qw (.store 9 6 67),qu 7 (.aM (qi 0))]) .ret)))))))⟩
theorem l58:bz prog f58=some c58.er:=by kernel_rfl
def zb:List Dt:=[.val (.int .u8 0)]
def UX(d:List (List Dt))(n:Nat):List (List Dt):=d++List.replicate (n-d.length) zb
def qH(d:List (List Dt))(A:Nat)(b:List (List Dt)):List (List Dt):=if b.length=0 then d else cU (UX d (A+b.length)) A b
def Oe:Obj:=⟨0,[],[],⟨#[]⟩,0,[],0,0,0⟩
def Ks(o:Obj):RV:= .agg (o.enc.map .ah)
def fo(o:Obj)(dj:Int)(b:List (List Dt)):Obj×Int:=
 if o.ag=2 then(Oe,12)else if o.ag≠1 then(Oe,8)else if dj<0 then(Oe,3)else if dj>60\/(b.length:Int)>60-dj then(Oe,15)
 else({o with data:=qH o.data dj.toNat b},0)
def sV:List CC:=[.ah (.val (.int .i64 0)),.aO,.aO,.ah (.val (.string ⟨#[]⟩)),.ah (.val (.int .i64 0)),.aO,.ah (.val (.int .i64 0)),.ah (.val (.int .i64 0)),.ah (.val (.int .i64 0))]
theorem pq{m:Mem}:fu m (.agg sV) (Ks Oe):=by
 refine .agg rfl λi c c' h1 h2=>?_
 match i,h1,h2 with
 |0,h1,h2=>cases h1;cases h2;exact .ah _
 |1,h1,h2=>cases h1;cases h2;exact .aO 1
 |2,h1,h2=>cases h1;cases h2;exact .aO 2
 |3,h1,h2=>cases h1;cases h2;exact .ah _
 |4,h1,h2=>cases h1;cases h2;exact .ah _
 |5,h1,h2=>cases h1;cases h2;exact .aO 4
 |6,h1,h2=>cases h1;cases h2;exact .ah _
 |7,h1,h2=>cases h1;cases h2;exact .ah _
 |8,h1,h2=>cases h1;cases h2;exact .ah _
 |n+9,h1,h2=>simp[sV]at h1
theorem DX{m:Mem}{Q:Nat}{o:Obj}{D:List (List Dt)}(h:m[Q]? =some (.row 1 (aa D))):fu m (.agg (oD Q o)) (Ks {o with data:=D}):=by
 refine .agg rfl λi c c' h1 h2=>?_
 match i,h1,h2 with
 |0,h1,h2=>cases h1;cases h2;exact .ah _
 |1,h1,h2=>cases h1;cases h2;exact fk.fl h 0 none
 |2,h1,h2=>cases h1;cases h2;exact .ah _
 |3,h1,h2=>cases h1;cases h2;exact .ah _
 |4,h1,h2=>cases h1;cases h2;exact .ah _
 |5,h1,h2=>cases h1;cases h2;exact .ah _
 |6,h1,h2=>cases h1;cases h2;exact .ah _
 |7,h1,h2=>cases h1;cases h2;exact .ah _
 |8,h1,h2=>cases h1;cases h2;exact .ah _
 |n+9,h1,h2=>simp[oD]at h1
theorem dW(d:List (List Dt)):(aa d).length=d.length:=by simp[aa]
theorem BP(D b:List (List Dt))(A:Nat):cU (aa D) A (aa b)=aa (cU D A b):=by simp[cU,aa,adh,adZ]
theorem Of(x:Nat):iM 0 x=x:=by simp[iM]
def nz:LC->LC
 | .seq _ b=>b
 |x=>x
def unW:LC->LC
 | .cX a=>a
 |x=>x
def C57:LC:=nz (nz (nz (nz c58.code)))
def G57:LC:=unW C57
theorem UY(o:Obj)(D b:List (List Dt))(A:Nat)(h:b.length≠0->A+b.length<=D.length):
  aw prog 0 G57 (oO prog c58.l8 (λr m=>cV m r (.bD [Ks {o with data:=if b.length=0 then D else cU D A b},cK 0])))
   ⟨kS 68 [(1,am .i64 (A:Nat)),(2,sA 1 b),(6,.rv (.one (.ptr 0 0))),(8,.rv (.one (.ptr 2 0)))],[.var sV,.row 1 (aa D),.var (oD 1 o)]⟩:=by
 have hm:=nY A D.length;have hmi:qV (am .i64 (if((lenOf (aa D).length 0 none:Nat):Int)<(A:Int)then((lenOf (aa D).length 0 none:Nat):Int)else(A:Int)))=some (fB A D.length):=by have e:lenOf (aa D).length 0 none=D.length:=dW D;rw[e,sU];rfl
 refine af hmi ?_;refine cN (by show(Nat.ble (fB A D.length) (aa D).length&&Nat.ble (aa D).length ((aa D).length-0))=true;rw[dW];simp[aa9];omega) ?_
 by_cases hb:b.length=0
 .rw[if_pos hb];refine cN (by show Nat.beq (aa b).length 0=true;rw[dW,hb];rfl) ?_
  exact kW (DX rfl)
 .rw[if_neg hb];have hle:=h hb;have hmA:fB A D.length=A:=by unfold fB;rw[if_neg om]
  rw[hmA];refine ig (by show Nat.beq (aa b).length 0=false;rw[dW];exact Bool.eq_false_iff.2 λhh=>hb (aai hh)) ?_
  refine cN (by have e1:=Of A;show(Nat.beq 1 1&&(Nat.beq 1 1&&(Nat.ble (iM 0 (aa D).length) (aa D).length&&(Nat.ble (iM 0 A+(aa b).length) (iM 0 (aa D).length)&&fH (aa b)))))=true;rw[kH,e1,dW,dW,Of D.length];simp[aa9];omega) ?_
  refine kW (DX ?_);show some (Bk.row 1 (cU (aa D) (iM 0 A) (aa b)))=_;rw[Of A,BP]
theorem Gu(o:Obj)(hf:o.oB)(dj:Int)(b:List (List Dt))(hb:b.length<=4194304):body prog c58 [o.cv,am .i64 dj,sA 1 b] [] (λr m=>cV m r (.bD [Ks (fo o dj b).1,cK (fo o dj b).2])):=by
 refine bs (λh1=>?_) (λh1=>?_)
 .have h1:o.ag=2:=h1;rw[fo,if_pos h1];exact kW pq
 have h1:¬o.ag=2:=h1;refine bx (λh2=>?_) (λh2=>?_)
 .have h2:o.ag≠1:=h2;rw[fo,if_neg h1,if_pos h2];exact kW pq
 have h2:¬o.ag≠1:=by simpa using h2
 refine aN (λh3=>?_) (λh3=>?_)
 .rw[fo,if_neg h1,if_neg h2,if_pos h3];exact kW pq
 have h3:¬dj<0:=h3;refine aN (λh4=>?_) (λh4=>?_)
 .rw[fo,if_neg h1,if_neg h2,if_neg h3,if_pos (.inl h4)];exact kW pq
 have h4:¬dj>60:=h4;have hw:IntKind.i64.wrap (60-dj)=60-dj:=by obtain⟨z,hz⟩:∃z:Nat,60-dj=(z:Int):=⟨(60-dj).toNat,om⟩;rw[hz,mr om]
 refine aN (λh5=>?_) (λh5=>?_)
 .have h5:(b.length:Int)>IntKind.i64.wrap (60-dj):=h5;rw[hw]at h5;rw[fo,if_neg h1,if_neg h2,if_neg h3,if_pos (.inr h5)];exact kW pq
 have h5:¬(b.length:Int)>IntKind.i64.wrap (60-dj):=h5;rw[hw]at h5;rw[fo,if_neg h1,if_neg h2,if_neg h3,if_neg (λh=>h.elim h4 h5)]
 obtain⟨A,rfl⟩:∃A:Nat,dj=A:=⟨dj.toNat,om⟩;rw[show((A:Nat):Int).toNat=A from rfl];have mw:=hf.1;refine pW (qB:=[cC [o]]) (m':=[.var (o.enc.map .ah),.var sV,.aS]) (View.o 3 [0,1,2] [2] (.put (.rv (.one (.fQ (d5.fl (Z:=λk=>br [2] k=true) (ds:=[o.enc]) rfl rfl 0 none)))) .nil)
  (.pe rfl rfl rfl (.pe rfl rfl rfl (.aS (.nil _))))) ?_
 refine Ra o hf ?_;obtain⟨N,hN⟩:∃N:Nat,N=if b.length=0 then 0 else A+b.length-o.data.length:=⟨_,rfl⟩
 have hN0:b.length=0->N=0:=λh0=>by rw[hN,if_pos h0]
 have hN1:b.length≠0->N=A+b.length-o.data.length:=λh0=>by rw[hN,if_neg h0]
 have agd:N<=A+b.length-o.data.length:=by
  by_cases h0:b.length=0
  .rw[hN0 h0];exact aaj _
  .rw[hN1 h0];exact Ym _
 clear hN;have UZ:∀j,j<=N->(o.data++List.replicate j zb).length=o.data.length+j:=λj _=>aE
 have hwA:IntKind.i64.wrap ((A:Int)+(b.length:Int))=((A+b.length:Nat):Int):=by
  rw[show(A:Int)+(b.length:Int)=((A+b.length:Nat):Int) by omega,mr om]
 refine bc (λj=>j<=N) [1,2] (λj=>[(6,.rv (.one (.ptr 0 0))),(8,.rv (.one (.ptr 2 0)))]) (λj=>[.var sV,.row 1 (aa (o.data++List.replicate j zb)),.var (oD 1 o)]) (λj=>N-j) 0 (aaj _) ?_ (λj hj=>?_)
 .refine View.o1 6 [1,4,5] [] ?_
  .exact .pe rfl rfl rfl (.pt rfl rfl (.bL aE) (.pm rfl rfl rfl))
 have hj:j<=N:=hj;have hlen:lenOf (aa (o.data++List.replicate j zb)).length 0 none=o.data.length+j:=by show(aa (o.data++List.replicate j zb)).length=_;rw[dW,UZ j hj]
 have gQ:∀(D:List (List Dt)),D=o.data++List.replicate j zb->(b.length≠0->A+b.length<=o.data.length+j)->aw prog 0 G57 (oO prog c58.l8 (λr m=>cV m r (.bD [Ks {o with data:=qH o.data A b},cK 0])))
   ⟨kS 68 [(1,am .i64 (A:Nat)),(2,sA 1 b),(6,.rv (.one (.ptr 0 0))),(8,.rv (.one (.ptr 2 0)))],[.var sV,.row 1 (aa D),.var (oD 1 o)]⟩:=λD hD hh=>by
  have hs:=UY o D b A (λh0=>by rw[hD,UZ j hj];exact hh h0)
  have e:qH o.data A b=if b.length=0 then D else cU D A b:=by
   unfold qH;by_cases h0:b.length=0
   .rw[if_pos h0,if_pos h0,hD];have:=hN0 h0;have ej:j=0:=om;rw[ej];simp
   .rw[if_neg h0,if_neg h0,hD];have:=hh h0;have ej:j=A+b.length-o.data.length:=om;rw[UX,ej]
  rw[e];exact hs
 have out:∀e,iC (sg [0,1,2] 3) [.var sV,.row 1 (aa (o.data++List.replicate j zb)),.var (oD 1 o)] (λk=>br [] k=true) e (kS 68 [(1,am .i64 (A:Nat)),(2,sA 1 b),(6,.rv (.one (.ptr 0 0))),(8,.rv (.one (.ptr 2 0)))])->
   View 0 ⟨e,[.var sV,.row 1 (aa (o.data++List.replicate j zb)),.var (oD 1 o)]⟩ ⟨kS 68 [(1,am .i64 (A:Nat)),(2,sA 1 b),(6,.rv (.one (.ptr 0 0))),(8,.rv (.one (.ptr 2 0)))],[.var sV,.row 1 (aa (o.data++List.replicate j zb)),.var (oD 1 o)]⟩:=λe he=>
  View.o 3 [0,1,2] [] he (.pe rfl rfl rfl (.pr rfl rfl rfl (.pm rfl rfl rfl)))
 refine aN (λh6=>?_) (λh6=>?_)
 .have h6:((lenOf (aa (o.data++List.replicate j zb)).length 0 none:Nat):Int)<IntKind.i64.wrap ((A:Int)+(b.length:Int)):=h6;rw[hlen,hwA]at h6;refine aN (λh7=>?_) (λh7=>?_)
  .have h7:(b.length:Int)>0:=h7;have:=hN1 om;refine⟨by simp only[b9,dW,aau,abl,UZ j hj];omega,?_⟩
   refine⟨j+1,(show j+1<=N by omega),(show N-(j+1)<N-j by omega),View.o1 5 [0,4,2] [] ?_⟩
   .refine .pe rfl rfl rfl (.pt rfl rfl (.bL ?_) (.pm rfl rfl rfl));rw[List.replicate_succ'];simp[b9,aa,zb]
  .have h7:¬(b.length:Int)>0:=h7;refine⟨_,out _ ?_,gQ _ rfl (λh0=>om)⟩
   repeat(first|exact .nil|refine .aA ?_|refine .eq rfl ?_)
 .have h6:¬((lenOf (aa (o.data++List.replicate j zb)).length 0 none:Nat):Int)<IntKind.i64.wrap ((A:Int)+(b.length:Int)):=h6;rw[hlen,hwA]at h6;refine⟨_,out _ ?_,gQ _ rfl (λh0=>om)⟩
  repeat(first|exact .nil|refine .aA ?_|refine .eq rfl ?_)
theorem DY(o:Obj)(hf:o.oB)(dj:Int)(b:List (List Dt))(hb:b.length<=4194304){m:Mem}{K:CV->Mem->Prop}(h:K (.bD [Ks (fo o dj b).1,cK (fo o dj b).2]) m):ap prog 58 [o.cv,am .i64 dj,sA 1 b] m K:=
 bh (ct func58 l58 (Gu o hf dj b hb)) (by simp[Obj.cv,Obj.enc,sA,am,CV.dB,CC.dB,RV.dB]) λr m1 hf=>⟨_,hf,h⟩
def kY(p Q k:Nat)(o:Obj):List CC:=[.ah (.val (.int .i64 o.ag)),.ah (.sl 1 o.data),(if k=p then .row Q 2 0 none else .ah (.sl 2 o.ak)),.ah (.val (.string o.target)),.ah (.val (.int .i64 o.bp)),
 .ah (.sl 4 (o.ar.map di.enc)),.ah (.val (.int .i64 o.ba)),.ah (.val (.int .i64 o.al)),.ah (.val (.int .i64 o.up))]
def bQ(p Q:Nat):Nat->List Obj->List (List CC)
 |_,[]=>[]
 |k,o::r=>kY p Q k o::bQ p Q (k+1) r
theorem sW(p Q:Nat):∀(a:List Obj)(k:Nat)(b:List Obj),bQ p Q k (a++b)=bQ p Q k a++bQ p Q (k+a.length) b
 | [],k,b=>rfl
 |o::r,k,b=>by simp[bQ,sW p Q r (k+1) b,abg,Nat.add_comm 1]
theorem gu(p Q:Nat):∀(l:List Obj)(k:Nat),(bQ p Q k l).length=l.length
 | [],_=>rfl
 |o::r,k=>by simp[bQ,gu p Q r (k+1)]
theorem xV(p Q:Nat):∀(l:List Obj)(k:Nat),(p<k\/k+l.length<=p)->bQ p Q k l=aa (l.map Obj.enc)
 | [],_,_=>rfl
 |o::r,k,h=>by simp only[aau]at h;have hk:¬k=p:=om;simp only[bQ,kY,if_neg hk,xV p Q r (k+1) om];rfl
theorem gv(p Q:Nat):∀(l:List Obj)(k i:Nat),(bQ p Q k l)[i]? =(l[i]?).map (kY p Q (k+i))
 | [],k,i=>by simp[bQ]
 |o::r,k,0=>by simp[bQ]
 |o::r,k,i+1=>by
  simp only[bQ,abK,gv p Q r (k+1) i];rw[show k+1+i=k+(i+1) by omega]
theorem Og{Y:Nat->Nat}{p Q k:Nat}(o:Obj):(kY p Q k o).map (CC.bb Y)=kY p (Y Q) k o:=by
 by_cases h:k=p<;>simp[kY,h,CC.bb]
theorem nA{Y:Nat->Nat}(p Q:Nat):∀(l:List Obj)(k:Nat),(bQ p Q k l).map (λcs=>cs.map (CC.bb Y))=bQ p (Y Q) k l
 | [],_=>rfl
 |o::r,k=>by simp only[bQ,aaL,nA p Q r (k+1)];rw[Og]
theorem BQ(d:List (List Dt))(hb:d.length<=4194304):body prog c128 [sA 2 d] [] (λr m=>∃r' m',View 0 ⟨[r],m⟩ ⟨[r'],m'⟩/\r'= .rv (.one (.row 0 2 0 none))/\m'=[.row 2 (aa d)]):=by
 have tw:((([]:List (List CC)).length+(d.map λds=>ds.map CC.ah).length)*24)<=140737488355328:=by simp;omega
 have gQ:∃r' m',View 0 ⟨[CV.rv (.one (.row 1 2 0 none))],[.aS,.row 2 (b9 ([]:List (List CC)) 0 none++d.map λds=>ds.map CC.ah)]⟩ ⟨[r'],m'⟩/\r'=CV.rv (.one (.row 0 2 0 none))/\m'=[Bk.row 2 (aa d)]:=
  ⟨_,_,View.o 2 [1] [] (.eq rfl .nil) (.pn rfl rfl rfl),rfl,rfl⟩
 refine aG (λh=>?_) (λh=>?_)
 .have hd:d=[]:=aag (by simpa using aai h)
  refine⟨?_,tw,gQ⟩;subst hd;exact⟨_,_,View.aO 0 2 0 rfl rfl rfl,rfl,rfl⟩
 .exact⟨tw,gQ⟩
theorem Gv(d:List (List Dt))(hb:d.length<=4194304){m:Mem}{K:CV->Mem->Prop}(h:K (.rv (.one (.row m.length 2 0 none))) (m++ [.row 2 (aa d)])):ap prog 128 [sA 2 d] m K:=by
 refine bu [] m.length rfl rfl rfl rfl (args0:=[sA 2 d]) rfl (λi b' hi=>by simp at hi) (K0:=λr m=>r= .rv (.one (.row 0 2 0 none))/\m=[.row 2 (aa d)]) (bJ (aZ func128 l128 (BQ d hb)) λr m1 h=>h) (λr m1 hr=>?_)
 obtain⟨rfl,rfl⟩:=hr;refine⟨aaj _,?_⟩;show K (.rv (.one (.row (m.length+(0-0)) 2 0 none))) (gJ m [.row 2 ((aa d).map (λcs=>cs.map (CC.bb (sg [] m.length))))])
 rw[iy,cg];exact h
def BR(l:List Obj)(p k:Nat):Bk:=match Nat.blt p k with|true=>.row 2 (aa (match l[p]? with|some o=>o.ak|none=>[]))|false=>.aS
theorem wn{Y:Nat->Nat}(l:List Obj)(p k:Nat):(BR l p k).bb Y=BR l p k:=by
 unfold BR;split
 .exact Bk.jG _ _
 .rfl
theorem xW{p Q:Nat}{l:List Obj}{k:Nat}{o:Obj}(h:l[k]? =some o):bQ p Q 0 (l.take (k+1))=bQ p Q 0 (l.take k)++ [kY p Q k o]:=by have hk:=(Km.1 h).1;rw[sD h,sW,aaA,ads om,aaP];rfl
theorem Kt(l:List Obj)(hf:l5 l)(p:Nat):body prog c98 [cC l] [] (λr m=>r= .rv (.one (.row 0 9 0 none))/\m=[.row 9 (bQ p 1 0 l),BR l p l.length]):=by
 obtain⟨hl,VT⟩:=hf;refine bc (λk=>k<=l.length) [0,9,10] (λk=>[(11,am .i64 (k:Nat)),(3,.rv (.one (.row 0 9 0 none)))]) (λk=>[.row 9 (bQ p 1 0 (l.take k)),BR l p k]) (λk=>l.length-k) 0 (aaj _) ?_ (λk hk=>?_)
 .refine View.trans (View.aO 2 4 0 rfl rfl rfl) (View.trans (View.aO 3 9 1 rfl rfl rfl) (View.o1 2 [1,0] [] ?_))
  .exact .put (by simp[br]) rfl (.eq rfl aE) (.aS (.nil _))
 .refine aN (λh=>?_) (λh=>?_)
  .have aC:k<l.length:=by have h:(k:Int)<((l.map Obj.enc).length:Int):=h;rw[Pj]at h;omega
   have hi:=vU aC;have Nk:=VT _ (aaw aC);have hg:dD (l.map Obj.enc) (k:Nat)=some (l[k].enc):=by rw[bG,Tm,vU aC];rfl
   generalize l[k]=o at hi Nk hg;obtain⟨ag,data,ak,target,bp,ar,ba,al,up⟩:=o;obtain⟨Nl,LL,S0,LM⟩:=Nk;have Nl:data.length<=4194304:=Nl;have LL:ak.length<=4194304:=LL;have S0:ar.length<=4194304:=S0;have LM:∀q,q∈ar->q.data.length<=4194304:=LM;have hg:dD (l.map Obj.enc) (k:Nat)=some [.val (.int .i64 ag),.sl 1 data,.sl 2 ak,.val (.string target),.val (.int .i64 bp),.sl 4 (ar.map di.enc),.val (.int .i64 ba),.val (.int .i64 al),.val (.int .i64 up)]:=hg;refine af hg ?_;refine iE data Nl ?_;refine⟨⟨rfl,trivial⟩,?_⟩;by_cases EQ:k=p
   .subst EQ;refine Gv ak LL ?_;refine⟨trivial,?_⟩;refine⟨trivial,?_⟩;refine⟨trivial,?_⟩;have hR:∀Q,bQ k Q 0 (l.take k)=aa ((l.take k).map Obj.enc):=λQ=>xV k Q _ 0 (.inr (by simp;omega))
    have hd:BR l k k= .aS:=by
     have:Nat.blt k k=false:=Bool.eq_false_iff.2 λh=>by rw[abJ]at h;omega
     simp only[BR,this]
    rw[hd,hR];refine bc (λj=>j<=ar.length) [0,3,5,9,10,11,24,25] (λj=>[(26,am .i64 (j:Nat)),(6,.rv (.one (.row 4 4 0 none)))])
     (λj=>[.row 9 (aa ((l.take k).map Obj.enc)),.aS,.var [.ah (.val (.int .i64 ag)),.ah (.sl 1 data),.row 3 2 0 none,.ah (.val (.string target)),.ah (.val (.int .i64 bp)),.ah (.sl 4 (ar.map di.enc)),.ah (.val (.int .i64 ba)),.ah (.val (.int .i64 al)),.ah (.val (.int .i64 up))],.row 2 (aa ak),.row 4 (aa ((ar.take j).map di.enc))]) (λj=>ar.length-j) 0 (aaj _) ?_ (λj hj=>?_)
    .refine View.trans (View.aO 6 4 4 rfl rfl rfl) (View.o1 5 [0,1,2,3,4] [] ?_)
     .exact .pr rfl rfl rfl (.aS (.pe rfl rfl rfl (.pr rfl rfl rfl (.pn rfl rfl rfl))))
    .have hj:j<=ar.length:=hj;refine aN (λh=>?_) (λh=>?_)
     .have ez:j<ar.length:=by have h:(j:Int)<((ar.map di.enc).length:Int):=h;rw[Pj]at h;omega
      have y7:=vU ez;have JW:=LM _ (aaw ez);generalize ar[j]=q at y7 JW;obtain⟨qd,qh,qo,qr⟩:=q;have CF:dD (ar.map di.enc) (j:Nat)=some [.sl 1 qd,.val (.bool qh),.val (.int .i64 qo),.val (.int .i64 qr)]:=by rw[bG,Tm,y7];rfl
      refine af CF ?_;refine iE qd JW ?_;refine⟨?_,?_⟩
      .show((aa ((ar.take j).map di.enc)).length+1)*48<=_;simp[aa];omega
      refine⟨j+1,ez,(show ar.length-(j+1)<ar.length-j by omega),View.o2 8 [0,1,2,3,7] [] ?_⟩
      .refine .pr rfl rfl rfl (.aS (.pe rfl rfl rfl (.pr rfl rfl rfl (.pt rfl rfl (.bL ?_) (.nil _)))));rw[sD y7,abm,dx];rfl
     .have d8:¬(j:Int)<((ar.map di.enc).length:Int):=h;rw[Pj]at d8;have hq:ar.take j=ar:=abM om;refine⟨?_,?_⟩
      .show((aa ((l.take k).map Obj.enc)).length+1)*128<=_;simp[aa];omega
      have Uy:BR l k (k+1)= .row 2 (aa ak):=by
       have:Nat.blt k (k+1)=true:=by rw[abJ];omega
       simp only[BR,this,hi]
      refine⟨k+1,aC,(show l.length-(k+1)<l.length-k by omega),View.o2 7 [6,3] [4] ?_⟩
      .rw[xW hi,Uy,hR];refine .pt rfl rfl (.JU (iy _ _) rfl ?_) (.pn rfl rfl rfl);intro j' c c' h1 h2;have e5:kY k 1 k ⟨ag,data,ak,target,bp,ar,ba,al,up⟩=[.ah (.val (.int .i64 ag)),.ah (.sl 1 data),.row 1 2 0 none,.ah (.val (.string target)),.ah (.val (.int .i64 bp)),.ah (.sl 4 ((ar.take j).map di.enc)),.ah (.val (.int .i64 ba)),.ah (.val (.int .i64 al)),.ah (.val (.int .i64 up))]:=by simp[kY,hq]
       rw[e5]at h2
       match j',h1,h2 with
       |0,h1,h2=>cases h1;cases h2;exact .bb (.ah _)
       |1,h1,h2=>cases h1;cases h2;exact .bb (.ah _)
       |2,h1,h2=>cases h1;cases h2;exact .bb (.row 1 2 0 none)
       |3,h1,h2=>cases h1;cases h2;exact .bb (.ah _)
       |4,h1,h2=>cases h1;cases h2;exact .bb (.ah _)
       |5,h1,h2=>cases h1;cases h2;exact .fQ (d5.fl (Z:=λk=>br [4] k=true) rfl (by rw[<-aT];rfl) 0 none)
       |6,h1,h2=>cases h1;cases h2;exact .bb (.ah _)
       |7,h1,h2=>cases h1;cases h2;exact .bb (.ah _)
       |8,h1,h2=>cases h1;cases h2;exact .bb (.ah _)
       |n+9,h1,h2=>simp at h1
   .refine tX ak LL ?_;refine⟨trivial,?_⟩;refine⟨trivial,?_⟩;refine⟨trivial,?_⟩;refine bc (λj=>j<=ar.length) [0,3,5,9,10,11,24,25] (λj=>[(26,am .i64 (j:Nat)),(6,.rv (.one (.row 3 4 0 none)))])
     (λj=>[.row 9 (bQ p 1 0 (l.take k)),BR l p k,.var ((⟨ag,data,ak,target,bp,ar,ba,al,up⟩:Obj).enc.map .ah),.row 4 (aa ((ar.take j).map di.enc))]) (λj=>ar.length-j) 0 (aaj _) ?_ (λj hj=>?_)
    .refine View.trans (View.aO 6 4 3 rfl rfl rfl) (View.o1 4 [0,1,2,3] [] ?_)
     .exact .pt rfl rfl (.eq (congrArg (Bk.row 9) (nA p 1 _ _)) aE) (.gk (dE rfl) rfl (wn l p k) (.pe rfl rfl rfl (.pn rfl rfl rfl)))
    .have hj:j<=ar.length:=hj;refine aN (λh=>?_) (λh=>?_)
     .have ez:j<ar.length:=by have h:(j:Int)<((ar.map di.enc).length:Int):=h;rw[Pj]at h;omega
      have y7:=vU ez;have JW:=LM _ (aaw ez);generalize ar[j]=q at y7 JW;obtain⟨qd,qh,qo,qr⟩:=q;have CF:dD (ar.map di.enc) (j:Nat)=some [.sl 1 qd,.val (.bool qh),.val (.int .i64 qo),.val (.int .i64 qr)]:=by rw[bG,Tm,y7];rfl
      refine af CF ?_;refine iE qd JW ?_;refine⟨?_,?_⟩
      .show((aa ((ar.take j).map di.enc)).length+1)*48<=_;simp[aa];omega
      refine⟨j+1,ez,(show ar.length-(j+1)<ar.length-j by omega),View.o2 7 [0,1,2,6] [] ?_⟩
      .refine .pt rfl rfl (.eq (congrArg (Bk.row 9) (nA p 1 _ _)) aE) (.gk (dE rfl) rfl (wn l p k) (.pe rfl rfl rfl (.pt rfl rfl (.bL ?_) (.nil _))));rw[sD y7,abm,dx];rfl
     .have d8:¬(j:Int)<((ar.map di.enc).length:Int):=h;rw[Pj]at d8;have hq:ar.take j=ar:=abM om;refine⟨?_,?_⟩
      .show((bQ p 1 0 (l.take k)).length+1)*128<=_;rw[gu];simp;omega
      have Uy:BR l p (k+1)=BR l p k:=by
       have:Nat.blt p (k+1)=Nat.blt p k:=by rw[aee,abJ,abJ];omega
       simp only[BR,this]
      refine⟨k+1,aC,(show l.length-(k+1)<l.length-k by omega),View.o2 6 [5,1] [3] ?_⟩
      .rw[xW hi,Uy];refine .pt rfl rfl (.JU (nA p 1 _ _) rfl ?_) (.gk (dE rfl) rfl (wn l p k) (.nil _));intro j' c c' h1 h2;have e5:kY p 1 k ⟨ag,data,ak,target,bp,ar,ba,al,up⟩=[.ah (.val (.int .i64 ag)),.ah (.sl 1 data),.ah (.sl 2 ak),.ah (.val (.string target)),.ah (.val (.int .i64 bp)),.ah (.sl 4 ((ar.take j).map di.enc)),.ah (.val (.int .i64 ba)),.ah (.val (.int .i64 al)),.ah (.val (.int .i64 up))]:=by simp[kY,EQ,hq]
       rw[e5]at h2
       match j',h1,h2 with
       |0,h1,h2=>cases h1;cases h2;exact .bb (.ah _)
       |1,h1,h2=>cases h1;cases h2;exact .bb (.ah _)
       |2,h1,h2=>cases h1;cases h2;exact .bb (.ah _)
       |3,h1,h2=>cases h1;cases h2;exact .bb (.ah _)
       |4,h1,h2=>cases h1;cases h2;exact .bb (.ah _)
       |5,h1,h2=>cases h1;cases h2;exact .fQ (d5.fl (Z:=λk=>br [3] k=true) rfl (by rw[<-aT];rfl) 0 none)
       |6,h1,h2=>cases h1;cases h2;exact .bb (.ah _)
       |7,h1,h2=>cases h1;cases h2;exact .bb (.ah _)
       |8,h1,h2=>cases h1;cases h2;exact .bb (.ah _)
       |n+9,h1,h2=>simp at h1
  .have d8:¬(k:Int)<((l.map Obj.enc).length:Int):=h;rw[Pj]at d8;have gA:k=l.length:=by have:k<=l.length:=hk;omega
   subst gA;rw[aaV];exact⟨rfl,rfl⟩
theorem BS(l:List Obj)(hf:l5 l)(p:Nat){m:Mem}{K:CV->Mem->Prop}(h:K (.rv (.one (.row m.length 9 0 none))) (m++ [.row 9 (bQ p (m.length+1) 0 l),BR l p l.length])):ap prog 98 [cC l] m K:=by
 refine bu [] m.length rfl rfl rfl rfl rfl (λi b' hi=>by simp at hi) (aZ func98 l98 (Kt l hf p)) (λr m1 hr=>?_)
 obtain⟨h1,h2⟩:=hr;subst h1;subst h2;refine⟨aaj _,?_⟩;show K (.rv (.one (.row (m.length+(0-0)) 9 0 none))) (gJ m [.row 9 ((bQ p 1 0 l).map (λcs=>cs.map (CC.bb (sg [] m.length)))),(BR l p l.length).bb (sg [] m.length)])
 rw[nA,wn,cg];exact h
def c108:LF:= ⟨46,[.tmp 6],(.seq (.ai [qu 6 (.aM (qi 0))]) (.seq (.seq (.ai [qm 9 1,qu 10 (.aJ .lss 9 (qi 0)),qm 11 10,qg 12 (.aM 1) 11 false,qg 13 (.aM 0) 11 false,qg 14 (.len 1 13) 11 false,qg 15 (.aJ .geq 12 14) 11 false,qu 16 (.pick 11 (qb true) 15),qm 17 16,qg 18 (.aM 0) 17 false,qg 19 (.aM 1) 17 false,qg 20 (.cz 9 18 19) 17 false,qg 21 (.b8 0 20) 17 false,qg 22 (.load false 1 21) 17 false,qg 23 (.aJ .neq 22 (qi 2)) 17 false,qu 24 (.pick 17 (qb true) 23)]) (.cond 24 (.seq (.ai [qu 6 (.aM (qi (-1)))]) .ret) .skip)) (.seq (.ai [qm 26 0,qm 27 1,qu 28 (.cz 9 26 27),qf 29 2 28,ql 30 29,qm 31 2,qu 32 (qc 134 [30,31,(.c (.rv (.one (.fn 135 []))))]),qm 25 32,qu 33 (.ext 25 0),qu 34 (.ext 25 1),qm 7 33,qm 8 34]) (.seq (.seq (.ai [qm 35 8,qu 36 (.un .not 35)]) (.cond 36 (.seq (.ai [qu 6 (.aM (qi (-1)))]) .ret) .skip)) (.seq (.ai [qm 37 0,qm 38 1,qu 39 (.cz 9 37 38),qf 40 2 39,ql 41 40,qm 42 7,qu 43 (.cz 2 41 42),qf 44 1 43,ql 45 44,qm 6 45]) .ret)))))⟩
def c139:LF:= ⟨9,[.tmp 4],(.seq (.ai [qu 2 (.box 0),qu 4 (.aM (qi 0))]) (.seq (.ai [qf 5 0 2,ql 6 5,qm 7 1,qu 8 (qc 136 [6,7]),qm 4 8]) .ret))⟩
theorem l139:bz prog f139=some c139:=by kernel_rfl
theorem l108:bz prog f108=some c108:=by kernel_rfl
theorem DZ(e:ByteArray×Int)(s:ByteArray):body prog c139 [xQ e,fb s] [] (λr m=>r=am .i64 (lD e.1 s)):=
 N5 e.1 s rfl
theorem U0(e:ByteArray×Int)(s:ByteArray){m:Mem}{K:CV->Mem->Prop}(h:K (am .i64 (lD e.1 s)) m):ap prog 139 [xQ e,fb s] m K:=
 bw func139 l139 rfl (aad rfl) (DZ e s) rfl rfl h
def xX(l:List Obj)(es:List (ByteArray×Int))(cL:Nat)(s:ByteArray):Int:=if BH es s=true then(match es[rk es s]? with|some e=>e.2|none=>0)else -1
theorem Gw(l:List Obj)(cL:Nat)(hd:cL<l.length)(hk:l[cL].ag=2)(es:List (ByteArray×Int))(he:l[cL].ak=es.map c9)(hl:es.length<=2147483648)(s:ByteArray):body prog c108 [cC l,am .i64 (cL:Nat),fb s] [] (λr m=>r=am .i64 (xX l es cL s)):=by
 have hg:dD (l.map Obj.enc) (cL:Nat)=some l[cL].enc:=by rw[bG,Tm,vU hd];rfl
 generalize l[cL]=o at hg hk he;obtain⟨ag,data,ak,target,bp,ar,ba,al,up⟩:=o;have hk:ag=2:=hk;have he:ak=es.map c9:=he;subst hk he;have hg:dD (l.map Obj.enc) (cL:Nat)=some [.val (.int .i64 2),.sl 1 data,.sl 2 (es.map c9),.val (.string target),.val (.int .i64 bp),.sl 4 (ar.map di.enc),.val (.int .i64 ba),.val (.int .i64 al),.val (.int .i64 up)]:=hg;refine aN (λh1=>?_) (λh1=>?_)
 .exfalso;have h1:(cL:Int)>=((l.map Obj.enc).length:Int):=h1;rw[Pj]at h1;omega
 refine af hg ?_;refine af hg ?_;refine N6 es hl s 135 (λe m K h=>Tl e s h) ?_
 refine aG (λh2=>?_) (λh2=>?_)
 .have h2:BH es s=false:=by simpa using h2
  show am _ _=am _ _;rw[xX,if_neg (by rw[h2];simp)]
 .have h2:BH es s=true:=by simpa using h2
  refine af hg ?_;have aC:rk es s<es.length:=by
   unfold BH at h2;split at h2
   .rename_i e he;exact(Km.1 he).1
   .cases h2
  refine af (pl aC) ?_;show am _ _=am _ _;rw[xX,if_pos h2,vU aC]
theorem D0(l:List Obj)(cL:Nat)(hd:cL<l.length)(hk:l[cL].ag=2)(es:List (ByteArray×Int))(he:l[cL].ak=es.map c9)(hl:es.length<=2147483648)(s:ByteArray){m:Mem}{K:CV->Mem->Prop}(h:K (am .i64 (xX l es cL s)) m):ap prog 108 [cC l,am .i64 (cL:Nat),fb s] m K:=
 bw func108 l108 rfl (aad rfl) (Gw l cL hd hk es he hl s) (by simp[cC,am,fb,CV.dB,CC.dB,RV.dB]) rfl h
theorem Gx(l:List Ob)(ok:nX l)(cL:Nat)(hd:cL<l.length)(hk:l[cL].ag=2)(w:bM.dQ):body prog c108 [Bt l,am .i64 (cL:Nat),bM.vT w] [] (λr m=>r=am .i64 (mN l cL w)):=by
 obtain⟨BT,age,hlen,vI⟩:=ok.dO cL;have vI:=vI hd;have hf:mN l cL w=(if BH (i9 (lY l cL)) (bM.cG w)=true then(match (i9 (lY l cL))[rk (i9 (lY l cL)) (bM.cG w)]? with|some e=>e.2|none=>0)else -1):=vp BT (i3 _ _) (Iz BT _)
 rw[hf];have hg:=nv hd;generalize i9 (lY l cL)=es at*
 generalize l[cL]=o at hg hk vI;obtain⟨ag,data,ak,target,bp,ar,ba,al,up⟩:=o;have hk:ag=2:=hk;have he:ak=es.map c9:=vI;subst hk he;refine aN (λh1=>?_) (λh1=>?_)
 .exfalso;have h1:(cL:Int)>=((l.map Ob.enc).length:Int):=h1;rw[Pj]at h1;omega
 refine af hg ?_;refine af hg ?_;refine N6 es om (bM.cG w) 135 (λe m K h=>Tl e (bM.cG w) h) ?_
 refine aG (λh2=>?_) (λh2=>?_)
 .have h2:BH es (bM.cG w)=false:=by simpa using h2
  show am _ _=am _ _;rw[if_neg (by rw[h2];simp)]
 .have h2:BH es (bM.cG w)=true:=by simpa using h2
  refine af hg ?_;have aC:rk es (bM.cG w)<es.length:=by
   unfold BH at h2;split at h2
   .rename_i e he;exact(Km.1 he).1
   .cases h2
  refine af (pl aC) ?_;show am _ _=am _ _;rw[if_pos h2,vU aC]
theorem Oh(l:List Ob)(ok:nX l)(cL:Nat)(hd:cL<l.length)(hk:l[cL].ag=2)(w:bM.dQ){m:Mem}{K:CV->Mem->Prop}(h:K (am .i64 (mN l cL w)) m):ap prog 108 [Bt l,am .i64 (cL:Nat),bM.vT w] m K:=
 bw func108 l108 rfl (aad rfl) (Gx l ok cL hd hk w) rfl rfl h
def Wc(l:List Ob)(aq:Int):Nat->Int->Bool
 |0,_=>false
 |n+1,d=>if o7 l d 2=false then false else if d=aq then true else if d=0 then false else Wc l aq n (lY l d.toNat).up
theorem xY{l:List Ob}{aq:Int}(V:List Nat)(h:∀x,x∈V->(x:Int)≠aq/\∃y,y∈V/\(lY l x).up=(y:Nat)):∀(n x:Nat),x∈V->Wc l aq n (x:Nat)=false
 |0,_,_=>rfl
 |n+1,x,hx=>by
  obtain⟨h1,y,hy,h2⟩:=h x hx;rw[Wc];by_cases hI:o7 l x 2=false
  .rw[if_pos hI]
  rw[if_neg hI,if_neg h1];by_cases h0:(x:Int)=0
  .rw[if_pos h0]
  rw[if_neg h0,Y6,h2];exact xY V h n y hy
theorem xZ:∀{N:Nat}{V:List Nat},V.Nodup->(∀x,x∈V->x<N)->V.length<=N
 |0,V,_,h=>by
  cases V with
  |nil=>exact Ym _
  |cons x r=>exact absurd (h x aE) (aaU x)
 |N+1,V,hd,h=>by
  by_cases hm:N∈V
  .have h1:=List.length_erase_of_mem hm;have h2:=xZ (N:=N) (hd.erase N) λx hx=>by rw[hd.mem_erase_iff]at hx;have:=h x hx.2;have:=hx.1;omega
   have:=List.length_pos_of_mem hm;omega
  .have:=xZ (N:=N) hd λx hx=>by
    have h1:=h x hx;have:x≠N:=λe=>hm (e▸hx)
    omega
   omega
structure U1 where
 d:Int
 V:List Nat
structure Rb(l:List Ob)(aq cL:Int)(a:U1):Prop where
 nd:a.V.Nodup
 rg:∀x,x∈a.V->x<l.length
 cl:∀x,x∈a.V->(x:Int)≠aq/\((lY l x).up=a.d\/∃y,y∈a.V/\(lY l x).up=(y:Nat))
 eq:Wc l aq (l.length+1-a.V.length) a.d=Wc l aq (l.length+1) cL
theorem Rb.le{l:List Ob}{aq cL:Int}{a:U1}(h:Rb l aq cL a):a.V.length<=l.length:=xZ h.nd h.rg
theorem Rb.vH{l:List Ob}{aq cL:Int}{a:U1}(h:Rb l aq cL a){n:Nat}(hn:a.d=n)(hm:n∈a.V):Wc l aq (l.length+1) cL=false:=by
 rw[<-h.eq,hn];refine xY a.V (λx hx=>?_) _ n hm
 obtain⟨h1,h2⟩:=h.cl x hx;refine⟨h1,?_⟩;rcases h2 with h2|h2
 .exact⟨n,hm,h2.trans hn⟩
 .exact h2
def c132:LF:= ⟨32,[.tmp 2],(.seq (.ai [qu 2 (.aM (qb false))]) (.seq (.seq (.bV [qm 3 0,qu 4 (.aP 3),qf 5 4 4,ql 6 5,qm 7 0,qu 8 (.aP 7),qf 9 1 8,ql 10 9,qu 11 (.aJ .eql 6 10),qm 12 11,qg 13 (.aM 0) 12 true,qg 14 (.aP 13) 12 true,qg 15 (.b8 2 14) 12 true,qg 16 (.load false 1 15) 12 true,qu 17 (.pick 12 16 (qb false))] [eK 15 0 .nil]) (.cond 17 (.seq (.ai [qu 2 (.aM (qb false))]) .ret) .skip)) (.seq (.bV [qm 18 0,qm 19 0,qu 20 (.aP 19),qf 21 0 20,ql 22 21,qm 23 0,qu 24 (.aP 23),qf 25 4 24,ql 26 25,qu 27 (.cz 9 22 26),qf 28 8 27,ql 29 28,qu 30 (.aP 18),qf 31 4 30,qw (.store 1 31 29)] [(eK 14 0 (.cons 14 (some []) .nil))]) (.seq (.ai [qu 2 (.aM (qb true))]) .ret))))⟩
def c133:LF:= ⟨48,[.tmp 4],(.seq (.ai [qu 4 (.aM (qi 0))]) (.seq (.seq (.ai [qm 8 0,qu 9 (.aP 8),qf 10 3 9,ql 11 10,qu 12 (.aJ .eql 11 (qi 6))]) (.cond 12 (.seq (.ai [qu 4 (.aM (qi 13))]) .ret) .skip)) (.seq (.ai [qm 13 0,qu 14 (.aP 13),qf 15 3 14,ql 16 15,qu 17 (.aJ .add 16 (qi 1)),qu 18 (.aP 13),qf 19 3 18,qw (.store 1 19 17)]) (.seq (.ai [qm 21 1,qu 22 (qc 66 [21]),qm 20 22,qu 23 (.ext 20 0),qu 24 (.ext 20 1),qu 25 (.ext 20 2),qm 5 23,qm 6 24,qm 7 25]) (.seq (.seq (.ai [qm 26 7,qu 27 (.aJ .neq 26 (qi 0))]) (.cond 27 (.seq (.ai [qm 28 7,qm 4 28]) .ret) .skip)) (.seq (.seq (.ai [qm 29 6]) (.cond 29 (.seq (.seq (.ai [qm 30 0,qu 31 (.aP 30),qf 32 2 31,ql 33 32]) (.cond 33 (.seq (.ai [qu 4 (.aM (qi 14))]) .ret) .skip)) (.ai [qm 34 0,qu 35 (.aP 34),qf 36 4 35,qw (.store 1 36 (qi 0))])) .skip)) (.seq (.bV [qm 37 0,qu 38 (.od 1 [(.ah (.val (.string ⟨#[]⟩)))] 0 []),qm 39 5,qu 40 (.pO 1 16 38 39),qm 41 0,qu 42 (.aP 41),qf 43 5 42,ql 44 43,qu 45 (.pO 1 16 40 44),qu 46 (.aP 37),qf 47 5 46,qw (.store 1 47 45)] [(.cons 0 none (.cons 2 none (eK 4 4 (.cons 1 (some [7]) (.cons 3 (some [7]) (.cons 8 (some []) (.cons 9 none (.cons 10 none (.cons 11 (some []) .nil)))))))))]) (.seq (.ai [qu 4 (.aM (qi 0))]) .ret))))))))⟩
theorem l132:bz prog f132=some c132:=by kernel_rfl
theorem l133:bz prog f133=some c133:=by kernel_rfl
def uq(l:List Ob)(aq:Nat)(ax:Bool)(h a:Nat)(t:List bM.dQ):Bk:= .var [.ah (QQ l),.ah (.val (.int .i64 (aq:Nat))),.ah (.val (.bool ax)),.ah (.val (.int .i64 (h:Nat))),.ah (.val (.int .i64 (a:Nat))),.ah (bM.ZV t)]
theorem x4(l:List Ob)(aq:Nat)(ax:Bool)(h a:Nat)(t:List bM.dQ):uq l aq ax h a t≠.aS:=by intro x;cases x
theorem Oi{f:Nat}{args:List CV}(ha:∀Y,args.map (CV.bb Y)=args){l:List Ob}{aq:Nat}{ax:Bool}{h a:Nat}{t:List bM.dQ}{Q:CV->Nat->Nat->List bM.dQ->Prop}(hr:∀r h a t,Q r h a t->∀Y,r.bb Y=r)(hc:ap prog f (.rv (.one (.ptr 0 0))::args) [uq l aq ax h a t] (λr m=>∃h' a' t',m=[uq l aq ax h' a' t']/\Q r h' a' t')){m:Mem}(id:Nat)(hb:cF m id=some (uq l aq ax h a t)){K:CV->Mem->Prop}(hK:∀r h' a' t',Q r h' a' t'->K r (aV m id (uq l aq ax h' a' t'))):ap prog f (.rv (.one (.ptr id 0))::args) m K:=by
 have hid:id<m.length:=by rw[aT]at hb;exact(Km.1 hb).1
 refine bu [id] m.length rfl rfl rfl (by simp[eP,hid]) (args0:= .rv (.one (.ptr 0 0))::args) (by rw[aaL,ha];rfl) (λi b' hi=>?_) hc (λr1 m1 xm=>?_)
 .cases i with
  |zero=>
   simp at hi;subst hi;refine .inr ⟨λh=>h,_,?_,.eq rfl (x4 _ _ _ _ _ _)⟩
   rw[aT]at hb;exact hb
  |succ i=>simp at hi
 .obtain⟨h',a',t',rfl,hq⟩:=xm;refine⟨Ym _,?_⟩;rw[hr _ _ _ _ hq];show K r1 (c6 m [id] [uq l aq ax h' a' t']);rw[Dz];exact hK _ _ _ _ hq
theorem Ku{r:CV}{l:List Ob}{aq:Nat}{ax:Bool}{h a:Nat}{t:List bM.dQ}{X:Mem}(hr:∀Y,r.bb Y=r):View 1 ⟨[r],uq l aq ax h a t::X⟩ ⟨[r],[uq l aq ax h a t]⟩:=
 View.of (X.length+1) [0] [] rfl rfl rfl rfl rfl (by simp[eP,Nat.blt]) (.eq (hr _) .nil) (.pt rfl rfl (.eq rfl (x4 _ _ _ _ _ _)) (.nil _))
def upR(l:List Ob)(aq:Nat)(ax:Bool)(h a:Nat)(t:List bM.dQ)(r:CV)(h' a':Nat)(t':List bM.dQ):Prop:=
 h'=h/\t'=t/\((ax=true/\a=aq)/\r=aD false/\a'=a\/¬(ax=true/\a=aq)/\r=aD true/\a'=BN l a)
theorem Rc(l:List Ob)(ok:nX l)(aq:Nat)(ax:Bool)(h a:Nat)(ha:a<l.length)(t:List bM.dQ):body prog c132 [.rv (.one (.ptr 0 0))] [uq l aq ax h a t] (λr m=>∃h' a' t',m=[uq l aq ax h' a' t']/\upR l aq ax h a t r h' a' t'):=by
 have hg:=nv ha;have hu:=ok.Oa ha;refine bs (λh1=>?_) (λh1=>?_)
 .cases ax with
  |true=>exact⟨_,_,_,rfl,rfl,rfl,.inl ⟨⟨rfl,om⟩,rfl,rfl⟩⟩
  |false=>
   refine af hg ?_;refine⟨trivial,?_⟩;rw[hu];exact⟨_,_,_,rfl,rfl,rfl,.inr ⟨aE,rfl,rfl⟩⟩
 .refine af hg ?_;refine⟨trivial,?_⟩;rw[hu];exact⟨_,_,_,rfl,rfl,rfl,.inr ⟨λh=>h1 (by rw[h.2]),rfl,rfl⟩⟩
theorem Yc(l:List Ob)(ok:nX l)(aq:Nat)(ax:Bool)(h a:Nat)(ha:a<l.length)(t:List bM.dQ){m:Mem}(id:Nat)(hb:cF m id=some (uq l aq ax h a t)){K:CV->Mem->Prop}(Ur:(ax=true/\a=aq)->K (aD false) (aV m id (uq l aq ax h a t)))(hK2:¬(ax=true/\a=aq)->K (aD true) (aV m id (uq l aq ax h (BN l a) t))):ap prog 132 [.rv (.one (.ptr id 0))] m K:=by
 refine Oi (args:=[]) (λ_=>rfl) (Q:=upR l aq ax h a t) (λr h a t hq Y=>?_) (aZ func132 l132 (Rc l ok aq ax h a ha t)) id hb (λr h' a' t' hq=>?_)
 .rcases hq.2.2 with⟨_,rfl,_⟩|⟨_,rfl,_⟩<;>rfl
 .obtain⟨rfl,rfl,hq⟩:=hq;rcases hq with⟨h1,rfl,rfl⟩|⟨h1,rfl,rfl⟩
  .exact Ur h1
  .exact hK2 h1
theorem rn(t:bM.dQ):(bM.cO t).1.length<=61:=by
 unfold bM.cO;split
 .simp
 .split
  .simp
  .split
   .show(bM.BM t).length<=61;have h1:=acW bM.sR (bM.hU 47 t);have h2:=bM.xS 47 t;unfold bM.BM;omega
   .simp
inductive P7(p:List bM.dQ×Bool×Int)(ax:Bool)(h a:Nat)(t:List bM.dQ):CV->Nat->Nat->List bM.dQ->Prop
 |loop (h' a':Nat) (t':List bM.dQ) (h6:h=6):P7 p ax h a t (am .i64 13) h' a' t'
 |eS (h' a':Nat) (t':List bM.dQ) (h6:h≠6) (he:p.2.2≠0):P7 p ax h a t (am .i64 p.2.2) h' a' t'
 |out (h' a':Nat) (t':List bM.dQ) (h6:h≠6) (he:p.2.2=0) (hr:p.2.1=true) (hf:ax=true):P7 p ax h a t (am .i64 14) h' a' t'
 |ok (h6:h≠6) (he:p.2.2=0) (hr:¬(p.2.1=true/\ax=true)):P7 p ax h a t (am .i64 0) (h+1) (if p.2.1=true then 0 else a) (p.1++t)
theorem P7.data{p:List bM.dQ×Bool×Int}{ax:Bool}{h a:Nat}{t:List bM.dQ}{r:CV}{h' a':Nat}{t':List bM.dQ}(x:P7 p ax h a t r h' a' t')(Y:Nat->Nat):r.bb Y=r:=by cases x<;>rfl
def TV1(Q:CV->Mem->Prop)(r:CV)(m:Mem):Prop:=∃r' m',View 1 ⟨[r],m⟩ ⟨[r'],m'⟩/\Q r' m'
theorem Rd(a b:List bM.dQ):aa (a.map bM.tD)++aa (b.map bM.tD)=aa ((a++b).map bM.tD):=by rw[abm,bM.dx]
theorem Yd{m:Mem}{Z:Nat->Prop}{id:Nat}{p:Option Nat}{X:List (List CC)}{ds:List (List Dt)}(hz:Z id)(hm:m[id]? =some (.row 1 X))(hX:X=aa ds):d5 m Z p (.row id 1 0 none) (.sl 1 ds):=by
 subst hX;refine d5.row id 1 0 none (aa ds) ds hz hm (by simp[aa]) (λi cs es h1 h2=>?_) (λi cs es j c d h1 h2 h3 h4=>?_)
 .simp only[aa,Tm,h2,aaD,aav]at h1;subst h1;simp
 .simp only[aa,Tm,h2,aaD,aav]at h1;subst h1;rw[Tm,h4]at h3;cases h3;exact .ah _
theorem Ye{l:List Ob}{aq:Nat}{ax:Bool}{h a:Nat}{t parts:List bM.dQ}{m:Mem}{Y:Nat->Nat}(hm:m[3]? =some (.row 1 ((([]:List (List CC))++aa (parts.map bM.tD))++aa (t.map bM.tD)))):
  mH Y m (λk=>br [3] k=true) 0 (.var [.ah (QQ l),.ah (.val (.int .i64 (aq:Nat))),.ah (.val (.bool ax)),.ah (.val (.int .i64 (h:Nat))),.ah (.val (.int .i64 (a:Nat))),.row 3 1 0 none]) (uq l aq ax h a (parts++t)):=
 fv.var (.cons (.bb (.ah _)) (.cons (.bb (.ah _)) (.cons (.bb (.ah _)) (.cons (.bb (.ah _)) (.cons (.bb (.ah _)) (.cons (.fQ (Yd rfl hm (by rw[aed];exact Rd parts t))) .nil))))))
theorem Kv(l:List Ob)(aq:Nat)(ax:Bool)(h a:Nat)(hh:h<=6)(t:List bM.dQ)(ht:t.length<=1000)(s:bM.dQ):
  body prog c133 [.rv (.one (.ptr 0 0)),bM.vT s] [uq l aq ax h a t] (TV1 λr m=>∃h' a' t',m=[uq l aq ax h' a' t']/\P7 (bM.cO s) ax h a t r h' a' t'):=by
 refine bs (λh1=>?_) (λh1=>?_)
 .exact⟨_,_,Ku (X:=[]) (λ_=>rfl),_,_,_,rfl,.loop _ _ _ om⟩
 have h6:h≠6:=λe=>h1 (by rw[e];rfl)
 refine bM.xT s ?_;have hp:=rn s;generalize bM.cO s=p at hp|-;obtain⟨parts,aj,er⟩:=p;have hp:parts.length<=61:=hp;have e1:IntKind.i64.wrap ((h:Int)+1)=((h+1:Nat):Int):=by
  rw[show(h:Int)+1=((h+1:Nat):Int) by omega,mr om]
 rw[e1];refine bx (λh2=>?_) (λh2=>?_)
 .exact⟨_,_,Ku (h:=h+1) (X:=[]) (λ_=>rfl),_,_,_,rfl,.eS _ _ _ h6 h2⟩
 have h2:er=0:=by simpa using h2
 subst h2;cases aj with
 |true=>
  cases ax with
  |true=>exact⟨_,_,Ku (h:=h+1) (X:=[]) (λ_=>rfl),_,_,_,rfl,.out _ _ _ h6 rfl rfl rfl⟩
  |false=>
   refine⟨⟨rfl,trivial⟩,?_⟩;refine⟨?_,?_⟩
   .show(0+(aa (parts.map bM.tD)).length)*16<=_;rw[bM.bg,Pj];omega
   refine⟨⟨rfl,trivial⟩,?_⟩;refine⟨?_,?_⟩
   .show((([]:List (List CC))++aa (parts.map bM.tD)).length+(aa (t.map bM.tD)).length)*16<=_;rw[aa3,bM.bg,bM.bg,Pj,Pj];show(0+parts.length+t.length)*16<=_;omega
   refine⟨trivial,?_⟩;refine⟨trivial,?_⟩;exact⟨_,_,View.o 4 [0] [3] (.eq rfl .nil) (.pt rfl rfl (Ye (t:=t) (parts:=parts) rfl) (.nil _)),_,_,_,rfl,.ok h6 rfl aE⟩
 |false=>
  refine⟨⟨rfl,trivial⟩,?_⟩;refine⟨?_,?_⟩
  .show(0+(aa (parts.map bM.tD)).length)*16<=_;rw[bM.bg,Pj];omega
  refine⟨⟨rfl,trivial⟩,?_⟩;refine⟨?_,?_⟩
  .show((([]:List (List CC))++aa (parts.map bM.tD)).length+(aa (t.map bM.tD)).length)*16<=_;rw[aa3,bM.bg,bM.bg,Pj,Pj];show(0+parts.length+t.length)*16<=_;omega
  refine⟨trivial,?_⟩;refine⟨trivial,?_⟩;exact⟨_,_,View.o 4 [0] [3] (.eq rfl .nil) (.pt rfl rfl (Ye (t:=t) (parts:=parts) rfl) (.nil _)),_,_,_,rfl,.ok h6 rfl aE⟩
theorem IA(l:List Ob)(aq:Nat)(ax:Bool)(h a:Nat)(hh:h<=6)(t:List bM.dQ)(ht:t.length<=1000)(s:bM.dQ){m:Mem}(id:Nat)(hb:cF m id=some (uq l aq ax h a t)){K:CV->Mem->Prop}(hK:∀r h' a' t',P7 (bM.cO s) ax h a t r h' a' t'->K r (aV m id (uq l aq ax h' a' t'))):ap prog 133 [.rv (.one (.ptr id 0)),bM.vT s] m K:=
 Oi (args:=[bM.vT s]) (λ_=>rfl) (Q:=P7 (bM.cO s) ax h a t) (λr h a t hq Y=>hq.data Y)
  (bJ (aZ func133 l133 (Kv l aq ax h a hh t ht s)) λr m1⟨r',m',hv,hq⟩=>⟨r',m',hv,hq⟩) id hb hK
def c107:LF:= ⟨118,[.cell true 3 4,.tmp 5,.tmp 6],(.seq (.ai [qu 4 (.alloc [qd 0,qd 0,(.ah (.val (.string ⟨#[]⟩)))]),qu 5 (.aM (qb false)),qu 6 (.aM (qi 0))]) (.seq (.ai [qm 10 0,qu 11 (.aP 10),qf 12 5 11,ql 13 12,qu 14 (.cz 1 13 (qi 0)),ql 15 14,qm 7 15]) (.seq (.ai [qm 16 0,qm 17 0,qu 18 (.aP 17),qf 19 5 18,ql 20 19,qu 21 (.oG 1 20 (some (qi 1)) none none),qu 22 (.aP 16),qf 23 5 22,qw (.store 1 23 21)]) (.seq (.seq (.bV [qm 24 0,qu 25 (.aP 24),qf 26 0 25,ql 27 26,qm 28 0,qu 29 (.aP 28),qf 30 4 29,ql 31 30,qu 32 (.cz 9 27 31),qf 33 0 32,ql 34 33,qu 35 (.aJ .neq 34 (qi 2))] [eK 12 0 .nil]) (.cond 35 (.seq (.ai [qu 36 (.build [qd 0,qd 0,(.ah (.val (.string ⟨#[]⟩)))] []),qw (.store 3 4 36),qu 5 (.aM (qb false)),qu 6 (.aM (qi 11))]) .ret) .skip)) (.seq (.seq (.ai [qm 37 7,qu 38 (.aJ .eql 37 (.c (.rv (.one (.ah (.val (.string ⟨#[46,46]⟩)))))))]) (.cond 38 (.seq (.seq (.ai [qm 39 0,qu 40 (qc 132 [39]),qu 41 (.un .not 40)]) (.cond 41 (.seq (.ai [qu 42 (.build [qd 0,qd 0,(.ah (.val (.string ⟨#[]⟩)))] []),qw (.store 3 4 42),qu 5 (.aM (qb false)),qu 6 (.aM (qi 14))]) .ret) .skip)) (.seq (.ai [qu 43 (.build [qd 0,qd 0,(.ah (.val (.string ⟨#[]⟩)))] []),qw (.store 3 4 43),qu 5 (.aM (qb false)),qu 6 (.aM (qi 0))]) .ret)) .skip)) (.seq (.bV [qm 44 0,qu 45 (.aP 44),qf 46 0 45,ql 47 46,qm 48 0,qu 49 (.aP 48),qf 50 4 49,ql 51 50,qm 52 7,qu 53 (qc 108 [47,51,52]),qm 8 53] [(eK 9 0 (.cons 9 (some []) (.cons 10 none .nil)))]) (.seq (.ai [qm 54 0,qu 55 (.aP 54),qf 56 5 55,ql 57 56,qu 58 (.len 1 57),qu 59 (.aJ .eql 58 (qi 0)),qm 9 59]) (.seq (.block 0 (.seq (.ai [qm 61 8,qu 62 (.aJ .lss 61 (qi 0)),qm 63 62,qg 64 (.aM 9) 63 true,qu 65 (.pick 63 64 (qb false)),qm 60 65]) (.cond 60 (.seq (.ai [qm 66 0,qu 67 (.aP 66),qf 68 4 67,ql 69 68,qm 70 7,qu 71 (.build [qd 0,qd 0,(.ah (.val (.string ⟨#[]⟩)))] [(0,1,(qi (-1))),(1,1,69),(2,1,70)]),qw (.store 3 4 71),qu 5 (.aM (qb true)),qu 6 (.aM (qi 0))]) .ret) (.seq (.ai [qm 73 8,qu 74 (.aJ .lss 73 (qi 0)),qm 72 74]) (.cond 72 (.seq (.ai [qu 75 (.build [qd 0,qd 0,(.ah (.val (.string ⟨#[]⟩)))] []),qw (.store 3 4 75),qu 5 (.aM (qb false)),qu 6 (.aM (qi 6))]) .ret) (.seq (.ai [qm 77 0,qu 78 (.aP 77),qf 79 0 78,ql 80 79,qm 81 8,qu 82 (.cz 9 80 81),qf 83 0 82,ql 84 83,qu 85 (.aJ .eql 84 (qi 3)),qm 86 85,qg 87 (.aM 9) 86 true,qg 88 (.un .not 87) 86 true,qg 89 (.aM 88) 86 true,qg 90 (.aM 1) 89 false,qg 91 (.pick 89 (qb true) 90) 86 true,qu 92 (.pick 86 91 (qb false)),qm 76 92]) (.cond 76 (.seq (.ai [qu 93 (.build [qd 0,qd 0,(.ah (.val (.string ⟨#[]⟩)))] []),qm 94 0,qm 95 0,qu 96 (.aP 95),qf 97 0 96,ql 98 97,qm 99 8,qu 100 (.cz 9 98 99),qf 101 3 100,ql 102 101,qu 103 (qc 133 [94,102]),qw (.store 3 4 93),qu 5 (.aM (qb false)),qm 6 103]) .ret) (.seq (.ai [qm 105 9,qm 104 105]) (.cond 104 (.seq (.ai [qm 106 8,qm 107 0,qu 108 (.aP 107),qf 109 4 108,ql 110 109,qm 111 7,qu 112 (.build [qd 0,qd 0,(.ah (.val (.string ⟨#[]⟩)))] [(0,1,106),(1,1,110),(2,1,111)]),qw (.store 3 4 112),qu 5 (.aM (qb true)),qu 6 (.aM (qi 0))]) .ret) .skip))))))))) (.seq (.ai [qm 113 0,qm 114 8,qu 115 (.aP 113),qf 116 4 115,qw (.store 1 116 114)]) (.seq (.ai [qu 117 (.build [qd 0,qd 0,(.ah (.val (.string ⟨#[]⟩)))] []),qw (.store 3 4 117),qu 5 (.aM (qb false)),qu 6 (.aM (qi 0))]) .ret))))))))))⟩
theorem l107:bz prog f107=some c107:=by kernel_rfl
def Oj(l:List Ob)(aq:Nat)(ax follow:Bool):Nat->Nat->List bM.dQ->Nat->R4
 |0=>λ_ _ _=>R4.no 13
 |n+1=>Q9 l ax (CH l aq ax follow n)
theorem U2(l:List Ob)(aq:Nat)(ax follow:Bool)(n:Nat):CH l aq ax follow n=Iy l aq ax follow (Oj l aq ax follow n):=by
 cases n<;>rfl
def Wd(r:R4):List Dt:=[.val (.int .i64 r.bm),.val (.int .i64 r.cL),.val (.string (bM.cG r.name))]
def stV(r:R4)(ok:Bool):CV:= .bD [.agg ((Wd r).map .ah),.one (.ah (.val (.bool ok))),.one (.ah (.val (.int .i64 r.eS)))]
inductive Tn(l:List Ob)(aq:Nat)(ax follow:Bool)(h a:Nat)(s:bM.dQ)(t:List bM.dQ):CV->Nat->Nat->List bM.dQ->Prop
 |done (r:R4) (ok:Bool) (h' a':Nat) (t':List bM.dQ) (hd:ok=true\/r.eS≠0) (he:CH l aq ax follow (6-h) (s::t) a=r):Tn l aq ax follow h a s t (stV r ok) h' a' t'
 |go (h' a':Nat) (t':List bM.dQ) (he:CH l aq ax follow (6-h) (s::t) a=CH l aq ax follow (6-h') t' a') (ha:a'<l.length) (hm:h'=h/\t'=t\/h'=h+1/\h<6/\t'.length<=61+t.length):Tn l aq ax follow h a s t (stV (R4.no 0) false) h' a' t'
theorem Tn.data{l:List Ob}{aq:Nat}{ax follow:Bool}{h a:Nat}{s:bM.dQ}{t:List bM.dQ}{r:CV}{h' a':Nat}{t':List bM.dQ}(x:Tn l aq ax follow h a s t r h' a' t')(Y:Nat->Nat):r.bb Y=r:=by cases x<;>rfl
theorem Kw(t:List bM.dQ):((t.map bM.tD).length:Int)=t.length:=by rw[Pj]
theorem ur(l:List Ob)(ok:nX l)(aq:Nat)(ax follow:Bool)(h a:Nat)(hh:h<=6)(ha:a<l.length)(s:bM.dQ)(t:List bM.dQ)(ht:t.length<=1000):
  body prog c107 [.rv (.one (.ptr 0 0)),aD follow] [uq l aq ax h a (s::t)] (TV1 λr m=>∃h' a' t',m=[uq l aq ax h' a' t']/\Tn l aq ax follow h a s t r h' a' t'):=by
 have hg:=nv ha;have hw:=U2 l aq ax follow (6-h);have hS:∀r,Iy l aq ax follow (Oj l aq ax follow (6-h)) (s::t) a=r->CH l aq ax follow (6-h) (s::t) a=r:=λr e=>by rw[hw];exact e
 refine cN (by rw[aab,aa9,aa9,Pj,aau];exact⟨Nat.succ_le_succ (aaj _),Ym _⟩) ?_
 rw[show List.drop 1 (List.take (List.map bM.tD (s::t)).length (List.map bM.tD (s::t)))=t.map bM.tD by rw[aaV];rfl]
 refine af hg ?_;refine bx (λh1=>?_) (λh1=>?_)
 .exact⟨_,_,Ku (λ_=>rfl),_,_,_,rfl,.done (R4.no 11) false _ _ _ (.inr (by simp[R4.no])) (hS _ (by rw[Iy,if_pos (by rw[uo ha];exact h1)]))⟩
 have h1:l[a].ag=2:=by simpa using h1
 have oW:¬(lY l a).ag≠2:=by rw[uo ha,h1];simp
 refine bM.lE (b:=[46,46]) (λh2=>?_) (λh2=>?_)
 .subst h2;refine Yc l ok aq ax h a ha t 0 rfl (λh3=>?_) (λh3=>?_)
  .exact⟨_,_,Ku (λ_=>rfl),_,_,_,rfl,.done (R4.no 14) false _ _ _ (.inr (by simp[R4.no])) (hS _ (by rw[Iy,if_neg oW,if_pos rfl,if_pos h3]))⟩
  .exact⟨_,_,Ku (λ_=>rfl),_,_,_,rfl,.go h (BN l a) t (hS _ (by rw[Iy,if_neg oW,if_pos rfl,if_neg h3,hw])) (ok.UU a) (.inl ⟨rfl,rfl⟩)⟩
 refine Oh l ok a ha h1 s ?_;refine⟨trivial,?_⟩;have hf:=ok.UW a s;have X8:mN l a s<0->mN l a s= -1:=λh=>by
  rcases i3 (i9 (lY l a)) (bM.cG s)with⟨e,he,_,h3⟩|⟨h3,_⟩
  .have:=(ok.dO a).2.1 e he;rw[mN,h3]at h;omega
  .exact h3
 have hW:∀r,(if mN l a s<0 then(if t≠[]then R4.no 6 else⟨-1,a,s,0⟩)else if(lY l (mN l a s).toNat).ag=3/\(follow=true\/t≠[])then Oj l aq ax follow (6-h) a t (mN l a s).toNat
  else if t=[]then⟨mN l a s,a,s,0⟩else Iy l aq ax follow (Oj l aq ax follow (6-h)) t (mN l a s).toNat)=r->CH l aq ax follow (6-h) (s::t) a=r:=λr e=>hS r (by rw[Iy,if_neg oW,if_neg h2];exact e)
 refine aN (λh3=>?_) (λh3=>?_)
 .refine bs (λh4=>?_) (λh4=>?_)
  .rw[Kw]at h4;have h4:t=[]:=aag om;exact⟨_,_,Ku (λ_=>rfl),_,_,_,rfl,.done ⟨-1,a,s,0⟩ true _ _ _ (.inl rfl) (hW _ (by rw[if_pos h3,if_neg (by simp[h4])]))⟩
  .rw[Kw]at h4;have h4:t≠[]:=λe=>h4 (by rw[e];rfl)
   refine cN (decide_eq_true h3) ?_;exact⟨_,_,Ku (λ_=>rfl),_,_,_,rfl,.done (R4.no 6) false _ _ _ (.inr (by simp[R4.no])) (hW _ (by rw[if_pos h3,if_pos h4]))⟩
 obtain⟨k,JA,hk⟩:=hf h3;rw[if_neg h3]at hW;refine ig (decide_eq_false h3) ?_;rw[JA,Y6,uo hk]at hW;have U3:=nv hk;have htg:l[k].target=bM.cG (N9 l k):=by obtain⟨tg,e⟩:=bM.BK l[k].target;rw[N9,uo hk,e];rfl
 rw[htg]at U3;rw[JA];have Yf:¬(l[k].ag=3/\(follow=true\/t≠[]))->∀r,(if t=[]then⟨(k:Int),a,s,0⟩else Iy l aq ax follow (Oj l aq ax follow (6-h)) t k)=r->CH l aq ax follow (6-h) (s::t) a=r:=λhn r e=>hW r (by rw[if_neg hn];exact e)
 refine af U3 ?_;refine bs (λh6=>?_) (λh6=>?_)
 .have h6:l[k].ag=3:=h6;have Yg:(follow=true\/t≠[])->∀r h' a' t',P7 (bM.cO (N9 l k)) ax h a t r h' a' t'->∃e,r=am .i64 e/\Tn l aq ax follow h a s t (stV (R4.no e) false) h' a' t':=by
   intro WL;rw[if_pos ⟨h6,WL⟩]at hW;intro r h' a' t' hq;cases hq with
   |loop _ _ _ e6=>exact⟨13,rfl,.done (R4.no 13) false _ _ _ (.inr (by simp[R4.no])) (hW _ (by rw[e6];rfl))⟩
   |eS _ _ _ e6 he=>exact⟨_,rfl,.done (R4.no _) false _ _ _ (.inr he) (hW _ (by rw[show 6-h=(5-h)+1 by omega];show Q9 _ _ _ _ _ _=_;rw[Q9,if_pos he]))⟩
   |out _ _ _ e6 he hr hf'=>exact⟨14,rfl,.done (R4.no 14) false _ _ _ (.inr (by simp[R4.no])) (hW _ (by rw[show 6-h=(5-h)+1 by omega];show Q9 _ _ _ _ _ _=_;rw[Q9,if_neg (by simp[he]),if_pos ⟨hr,hf'⟩]))⟩
   |ok e6 he hr=>exact⟨0,rfl,.go _ _ _ (hW _ (by rw[show 6-h=(5-h)+1 by omega];show Q9 _ _ _ _ _ _=_;rw[Q9,if_neg (by simp[he]),if_neg hr,show 6-(h+1)=5-h by omega])) (by split;exact ok.pos;exact ha) (.inr ⟨rfl,om,by rw[aa3];have:=rn (N9 l k);omega⟩)⟩
  refine aG (λh5=>?_) (λh5=>?_)
  .have h5:t≠[]:=λe=>by subst e;cases h5
   refine af U3 ?_;refine IA l aq ax h a hh t ht (N9 l k) 0 rfl λr h' a' t' hq=>?_
   obtain⟨e,rfl,P6⟩:=Yg (.inr h5) _ _ _ _ hq;exact⟨_,_,Ku (λ_=>rfl),_,_,_,rfl,P6⟩
  .have h5:t=[]:=by
    cases t with
    |nil=>rfl
    |cons x r=>cases h5
   cases follow with
   |true=>
    refine af U3 ?_;refine IA l aq ax h a hh t ht (N9 l k) 0 rfl λr h' a' t' hq=>?_
    obtain⟨e,rfl,P6⟩:=Yg (.inl rfl) _ _ _ _ hq;exact⟨_,_,Ku (λ_=>rfl),_,_,_,rfl,P6⟩
   |false=>
    have gQ:=Yf (by rw[h5];simp)
    rw[if_pos h5]at gQ;subst h5;exact⟨_,_,Ku (λ_=>rfl),_,_,_,rfl,.done ⟨(k:Nat),a,s,0⟩ true _ _ _ (.inl rfl) (gQ _ rfl)⟩
 .have h6:l[k].ag≠3:=h6;have gQ:=Yf (λh=>h6 h.1)
  refine bs (λh7=>?_) (λh7=>?_)
  .rw[Kw]at h7;have h7:t=[]:=aag om;rw[if_pos h7]at gQ;exact⟨_,_,Ku (λ_=>rfl),_,_,_,rfl,.done ⟨(k:Nat),a,s,0⟩ true _ _ _ (.inl rfl) (gQ _ rfl)⟩
  .rw[Kw]at h7;have h7:t≠[]:=λe=>h7 (by rw[e];rfl)
   rw[if_neg h7,<-hw]at gQ;exact⟨_,_,Ku (λ_=>rfl),_,_,_,rfl,.go h k t (gQ _ rfl) hk (.inl ⟨rfl,rfl⟩)⟩
theorem BU(l:List Ob)(ok:nX l)(aq:Nat)(ax follow:Bool)(h a:Nat)(hh:h<=6)(ha:a<l.length)(s:bM.dQ)(t:List bM.dQ)(ht:t.length<=1000){m:Mem}(id:Nat)(hb:cF m id=some (uq l aq ax h a (s::t))){K:CV->Mem->Prop}(hK:∀r h' a' t',Tn l aq ax follow h a s t r h' a' t'->K r (aV m id (uq l aq ax h' a' t'))):ap prog 107 [.rv (.one (.ptr id 0)),aD follow] m K:=
 Oi (args:=[aD follow]) (λ_=>rfl) (Q:=Tn l aq ax follow h a s t) (λr h a t hq Y=>hq.data Y)
  (bJ (aZ func107 l107 (ur l ok aq ax follow h a hh ha s t ht)) λr m1⟨r',m',hv,hq⟩=>⟨r',m',hv,hq⟩) id hb hK
def c67:LF:= ⟨102,[.cell true 3 10,.tmp 11],(.seq (.ai [qu 10 (.alloc [qd 0,qd 0,(.ah (.val (.string ⟨#[]⟩)))]),qu 11 (.aM (qi 0))]) (.seq (.seq (.ai [qm 19 1,qu 20 (.aJ .lss 19 (qi 0)),qm 21 20,qg 22 (.aM 1) 21 false,qg 23 (.aM 0) 21 false,qg 24 (.len 1 23) 21 false,qg 25 (.aJ .geq 22 24) 21 false,qu 26 (.pick 21 (qb true) 25),qm 27 26,qg 28 (.aM 0) 27 false,qg 29 (.aM 1) 27 false,qg 30 (.cz 9 28 29) 27 false,qg 31 (.b8 0 30) 27 false,qg 32 (.load false 1 31) 27 false,qg 33 (.aJ .eql 32 (qi 0)) 27 false,qu 34 (.pick 27 (qb true) 33)]) (.cond 34 (.seq (.ai [qu 35 (.build [qd 0,qd 0,(.ah (.val (.string ⟨#[]⟩)))] []),qw (.store 3 10 35),qu 11 (.aM (qi 6))]) .ret) .skip)) (.seq (.seq (.ai [qm 36 0,qm 37 1,qu 38 (.cz 9 36 37),qf 39 0 38,ql 40 39,qu 41 (.aJ .neq 40 (qi 2))]) (.cond 41 (.seq (.ai [qu 42 (.build [qd 0,qd 0,(.ah (.val (.string ⟨#[]⟩)))] []),qw (.store 3 10 42),qu 11 (.aM (qi 11))]) .ret) .skip)) (.seq (.ai [qm 44 2,qu 45 (qc 66 [44]),qm 43 45,qu 46 (.ext 43 0),qu 47 (.ext 43 1),qu 48 (.ext 43 2),qm 12 46,qm 13 47,qm 14 48]) (.seq (.seq (.ai [qm 49 14,qu 50 (.aJ .neq 49 (qi 0))]) (.cond 50 (.seq (.ai [qu 51 (.build [qd 0,qd 0,(.ah (.val (.string ⟨#[]⟩)))] []),qm 52 14,qw (.store 3 10 51),qm 11 52]) .ret) .skip)) (.seq (.ai [qm 53 0,qm 54 1,qm 55 3,qm 56 1,qm 57 12,qu 58 (.build [.aO,qd 0,(.ah (.val (.bool false))),qd 0,qd 0,.aO] [(0,1,53),(1,1,54),(2,1,55),(4,1,56),(5,1,57)]),qu 59 (.box 58),qm 15 59]) (.seq (.seq (.ai [qm 60 13]) (.cond 60 (.seq (.seq (.ai [qm 61 3]) (.cond 61 (.seq (.ai [qu 62 (.build [qd 0,qd 0,(.ah (.val (.string ⟨#[]⟩)))] []),qw (.store 3 10 62),qu 11 (.aM (qi 14))]) .ret) .skip)) (.ai [qm 63 15,qu 64 (.aP 63),qf 65 4 64,qw (.store 1 65 (qi 0))])) .skip)) (.cX (.seq (.block 0 (.loop (.seq (.seq (.ai [qm 66 15,qu 67 (.aP 66),qf 68 5 67,ql 69 68,qu 70 (.len 1 69),qu 71 (.aJ .gtr 70 (qi 0))]) (.cond 71 .skip (.exit 0))) (.block 1 (.seq (.ai [qm 73 15,qm 74 4,qu 75 (qc 107 [73,74]),qm 72 75,qu 76 (.ext 72 0),qu 77 (.ext 72 1),qu 78 (.ext 72 2),qu 16 (.alloc [qd 0,qd 0,(.ah (.val (.string ⟨#[]⟩)))]),qw (.store 3 16 76),qm 17 77,qm 18 78]) (.seq (.ai [qm 79 17,qm 80 79,qg 81 (.aM 18) 80 false,qg 82 (.aJ .neq 81 (qi 0)) 80 false,qu 83 (.pick 80 (qb true) 82)]) (.cond 83 (.seq (.ai [qL 84 3 16,qm 85 18,qw (.store 3 10 84),qm 11 85]) .ret) .skip))))))) (.seq (.bV [qm 86 15,qu 87 (.aP 86),qf 88 4 87,ql 89 88,qm 90 15,qu 91 (.aP 90),qf 92 0 91,ql 93 92,qm 94 15,qu 95 (.aP 94),qf 96 4 95,ql 97 96,qu 98 (.cz 9 93 97),qf 99 8 98,ql 100 99,qu 101 (.build [qd 0,qd 0,(.ah (.val (.string ⟨#[]⟩)))] [(0,1,89),(1,1,100)]),qw (.store 3 10 101),qu 11 (.aM (qi 0))] [(eK 16 0 (.cons 16 (some []) (.cons 17 none .nil)))]) .ret))))))))))⟩
theorem l67:bz prog f67=some c67.er:=by kernel_rfl
def We(r:R4):CV:= .bD [.agg ((Wd r).map .ah),.one (.ah (.val (.int .i64 r.eS)))]
theorem Yh(r:R4):(We r).Dm=true:=rfl
structure StP where
 h:Nat
 a:Nat
 t:List bM.dQ
theorem Re(l:List Ob)(aq:Nat)(ax follow:Bool)(n a:Nat):CH l aq ax follow n [] a=⟨a,BN l a,[],0⟩:=by
 cases n<;>rfl
def G9:LC:=rf (bN (bN (bN (bN (bN (bN (bN c67.code)))))))
def Yi:Bk:= .var ((Wd (R4.no 0)).map .ah)
theorem D1(l:List Ob)(ok:nX l)(b:Nat)(ax follow:Bool)(a0:Nat)(Wf:a0<l.length)(parts:List bM.dQ)(hp:parts.length<=61):
  aw prog 0 G9 (oO prog c67.l8 (λr m=>r=We (CH l b ax follow 6 parts a0))) ⟨kS 102 [(0,Bt l),(4,aD follow),(10,.rv (.one (.ptr 0 0))),(15,.rv (.one (.ptr 1 0)))],[Yi,uq l b ax 0 a0 parts]⟩:=by
 refine bc (λa:StP=>a.h<=6/\a.a<l.length/\a.t.length<=61*(a.h+1)/\CH l b ax follow (6-a.h) a.t a.a=CH l b ax follow 6 parts a0) [0,4,10,15] (λ_=>[]) (λa=>[Yi,uq l b ax a.h a.a a.t]) (λa=>(6-a.h)*1000+a.t.length) ⟨0,a0,parts⟩ ⟨aaj _,Wf,by simpa using hp,rfl⟩ ?_ (λa ha=>?_)
 .refine View.o1 2 [0,1] [] (.pt rfl rfl (.eq rfl (by intro x;cases x)) (.pt rfl rfl (.eq rfl (x4 _ _ _ _ _ _)) (.nil _)))
 obtain⟨h,a,t⟩:=a;obtain⟨hh,ha,ht,he⟩:=ha;have hh:h<=6:=hh;have ha:a<l.length:=ha;have ht:t.length<=61*(h+1):=ht;have he:CH l b ax follow (6-h) t a=CH l b ax follow 6 parts a0:=he;refine aN (λh1=>?_) (λh1=>?_)
 .have h1:((t.map bM.tD).length:Int)>0:=h1;rw[Kw]at h1;obtain⟨s,t',rfl⟩:∃s t',t=s::t':=by
   cases t with
   |nil=>simp at h1
   |cons s t'=>exact⟨s,t',rfl⟩
  have ht:t'.length+1<=61*(h+1):=by simpa using ht
  refine BU l ok b ax follow h a hh ha s t' om 1 rfl λr h' a' Yj hq=>?_
  cases hq with
  |done r okk h' a' Yj hd hr=>
   rw[<-he,hr];cases okk with
   |true=>exact rfl
   |false=>
    have hd:r.eS≠0:=by simpa using hd
    refine bx (λh2=>?_) (λh2=>?_)
    .exact rfl
    .exact absurd h2 hd
  |go h' a' Yj hr To hm=>
   refine⟨⟨h',a',Yj⟩,⟨?_,To,?_,hr.symm.trans he⟩,?_,View.o 3 [0,1] [] ?_ (.pt rfl rfl (.eq rfl (by intro x;cases x)) (.pt rfl rfl (.eq rfl (x4 _ _ _ _ _ _)) (.nil _)))⟩
   .show h'<=6;omega
   .show Yj.length<=61*(h'+1);rcases hm with⟨rfl,rfl⟩|⟨rfl,h6,hl⟩
    .omega
    .omega
   .show(6-h')*1000+Yj.length<(6-h)*1000+(s::t').length;rw[aau];rcases hm with⟨rfl,rfl⟩|⟨rfl,h6,hl⟩
    .omega
    .omega
   .repeat(first|exact .nil|refine .aA ?_|refine .eq rfl ?_)
 .have h1:¬((t.map bM.tD).length:Int)>0:=h1;rw[Kw]at h1;have h1:t=[]:=aag om;subst h1;rw[Re]at he;refine af (nv ha) ?_;refine⟨trivial,?_⟩;rw[<-he,ok.Oa ha];exact rfl
theorem Kx(l:List Ob)(ok:nX l)(aq:Int)(s:bM.dQ)(ax follow:Bool):body prog c67 [Bt l,am .i64 aq,bM.vT s,aD ax,aD follow] [] (λr m=>r=We (qG l aq s ax follow)):=by
 have kF:o7 l aq 0=false->qG l aq s ax follow=R4.no 6:=λh=>by rw[qG,h];rfl
 refine aN (λh1=>?_) (λh1=>?_)
 .rw[kF (by rw[o7,decide_eq_false om];rfl)];rfl
 obtain⟨b,rfl⟩:∃b:Nat,aq=b:=⟨aq.toNat,om⟩;refine aN (λh2=>?_) (λh2=>?_)
 .have h2:(b:Int)>=((l.map Ob.enc).length:Int):=h2;rw[Pj]at h2;rw[kF (by rw[o7,decide_eq_false (p:=(b:Int)<l.length) om];simp)];rfl
 have h2:¬(b:Int)>=((l.map Ob.enc).length:Int):=h2;rw[Pj]at h2;have hb:b<l.length:=om;have hg:=nv hb;refine af hg ?_;refine bs (λh3=>?_) (λh3=>?_)
 .have h3:l[b].ag=0:=h3;rw[kF (by unfold o7;rw[Y6,vU hb];simp[h3])];rfl
 have h3:l[b].ag≠0:=h3;have hI:o7 l b 0=true:=by unfold o7;rw[Y6,vU hb];simp[h3,hb]
 have hL:∀r,(if l[b].ag≠2 then R4.no 11 else if(bM.cO s).2.2≠0 then R4.no (bM.cO s).2.2 else if(bM.cO s).2.1=true/\ax=true then R4.no 14
  else CH l b ax follow 6 (bM.cO s).1 (if(bM.cO s).2.1=true then 0 else b))=r->qG l b s ax follow=r:=λr e=>by
  rw[qG,if_pos hI,Y6,uo hb];exact e
 refine af hg ?_;refine bx (λh4=>?_) (λh4=>?_)
 .rw[hL _ (if_pos h4)];rfl
 have h4:l[b].ag=2:=by simpa using h4
 rw[if_neg (by rw[h4];simp)]at hL
 refine bM.xT s ?_;have hp:=rn s;generalize bM.cO s=p at hp hL|-;obtain⟨parts,aj,er⟩:=p;have hp:parts.length<=61:=hp;refine bx (λh5=>?_) (λh5=>?_)
 .rw[hL _ (if_pos h5)];rfl
 have h5:er=0:=by simpa using h5
 rw[if_neg (by simp[h5])]at hL
 have view:∀a0:Nat,∀e,iC (sg [0,1] 2) [Yi,uq l b ax 0 a0 parts] (λk=>br [] k=true) e (kS 102 [(0,Bt l),(4,aD follow),(10,.rv (.one (.ptr 0 0))),(15,.rv (.one (.ptr 1 0)))])->
   View 0 ⟨e,[Yi,uq l b ax 0 a0 parts]⟩ ⟨kS 102 [(0,Bt l),(4,aD follow),(10,.rv (.one (.ptr 0 0))),(15,.rv (.one (.ptr 1 0)))],[Yi,uq l b ax 0 a0 parts]⟩:=λa0 e he=>
  View.o 2 [0,1] [] he (.pt rfl rfl (.eq rfl (by intro x;cases x)) (.pt rfl rfl (.eq rfl (x4 _ _ _ _ _ _)) (.nil _)))
 cases aj with
 |true=>
  cases ax with
  |true=>
   rw[hL _ (if_pos ⟨rfl,rfl⟩)];rfl
  |false=>
   rw[hL _ (by rw[if_neg aE,if_pos rfl])]
   refine⟨_,view 0 _ ?_,D1 l ok b false follow 0 ok.pos parts hp⟩;repeat(first|exact .nil|refine .aA ?_|refine .eq rfl ?_)
 |false=>
  rw[hL _ (by rw[if_neg aE,if_neg aE])]
  refine⟨_,view b _ ?_,D1 l ok b ax follow b hb parts hp⟩;repeat(first|exact .nil|refine .aA ?_|refine .eq rfl ?_)
theorem Rf(l:List Ob)(ok:nX l)(aq:Int)(s:bM.dQ)(ax follow:Bool){m:Mem}{K:CV->Mem->Prop}(h:K (We (qG l aq s ax follow)) m):ap prog 67 [Bt l,am .i64 aq,bM.vT s,aD ax,aD follow] m K:=by
 refine bh (K0:=λr _=>r=We (qG l aq s ax follow)) (ct func67 l67 (Kx l ok aq s ax follow)) (by simp[Bt,am,aD,bM.vT,fb,CV.dB,CC.dB]) λr m1 hr=>?_
 subst hr;exact⟨_,cV.self (Yh _),h⟩
theorem U4{es:List NE}(hs:FT es){s:ByteArray}(hf:BH es s=false)(n:Int):iZ (s,n) es=es.take (rk es s)++(s,n)::es.drop (rk es s):=by
 obtain⟨h0,h1,h2⟩:=po hs s es.length 0 es.length om om om (λk e hk=>absurd hk (aaU k)) (λk e hk he=>by have:=(Km.1 he).1;omega)
 have hI:Kj es s es.length 0 es.length=rk es s:=rfl;rw[hI]at h0 h1 h2;have e1:∀e,e∈es.take (rk es s)->FU e.1 s=false:=λe he=>by obtain⟨k,hk⟩:=aaa he;have gA:=(Km.1 hk).1;rw[aaA]at gA;rw[aaM,if_pos om]at hk;have h3:=h1 k e om hk;unfold FU;unfold Br at h3;rw[h3];rfl
 have:=DA (x:=(s,n)) (a:=es.take (rk es s)) (b:=es.drop (rk es s)) e1;rw[adG]at this;rw[this];congr 1;cases hd:es.drop (rk es s)with
 |nil=>rfl
 |cons e r=>
  have kD:es[rk es s]? =some e:=by
   have:(es.drop (rk es s))[0]? =some e:=by rw[hd];rfl
   rw[abj]at this;simpa using this
  refine QP ?_;have h3:=h2 (rk es s) e (Ym _) kD;unfold BH at hf;rw[kD]at hf;have dh:¬lD e.1 s=0:=by simpa using hf
  have dh:e.1.toList≠s.toList:=λh=>dh (xU.2 h)
  show FU e.1 s=true;unfold FU;unfold Br at h3;have h3:Op.bytesLess e.1.toList s.toList=false:=by simpa using h3
  rw[h3];simp[dh]
theorem Al{es:List NE}(hs:FT es)(s:ByteArray):(if BH es s=true then(match es[rk es s]? with|some e=>e.2|none=>0)else -1)=fT es s:=vp hs (Iz hs s) (i3 es s)
def c65:LF:= ⟨20,[.tmp 2],(.seq (.ai [qu 1 (.box 0),qu 2 (.aM qe)]) (.seq (.ai [qu 3 (.aM qe)]) (.seq (.seq (.ai [qf 6 2 1,ql 7 6,qu 8 (.len 1 7),qu 9 (.aM (qi 0))]) (.block 0 (.loop (.seq (.ai [qu 10 (.aJ .lss 9 8)]) (.seq (.cond 10 .skip (.exit 0)) (.seq (.block 1 (.seq (.ai [qu 11 (.cz 2 7 9),qL 12 2 11,qu 5 (.alloc [(.ah (.val (.string ⟨#[]⟩))),qd 0]),qw (.store 2 5 12)]) (.ai [qm 13 3,qf 14 0 5,ql 15 14,qu 16 (.od 1 [(.ah (.val (.string ⟨#[]⟩)))] 1 [(0,15)]),qu 17 (.pO 1 16 13 16),qm 3 17]))) (.ai [qu 18 (.aJ .add 9 (qi 1)),qm 9 18]))))))) (.seq (.ai [qm 19 3,qm 2 19]) .ret))))⟩
def c112:LF:= ⟨128,[.tmp 8,.tmp 9],(.seq (.ai [qu 8 (.aM qe),qu 9 (.aM (qi 0))]) (.seq (.block 0 (.seq (.ai [qm 14 1,qu 15 (.aJ .lss 14 (qi 0)),qm 16 15,qg 17 (.aM 1) 16 false,qg 18 (.aM 0) 16 false,qg 19 (.len 1 18) 16 false,qg 20 (.aJ .geq 17 19) 16 false,qu 21 (.pick 16 (qb true) 20),qm 22 21,qg 23 (.aM 0) 22 false,qg 24 (.aM 1) 22 false,qg 25 (.cz 9 23 24) 22 false,qg 26 (.b8 0 25) 22 false,qg 27 (.load false 1 26) 22 false,qg 28 (.aJ .eql 27 (qi 0)) 22 false,qu 29 (.pick 22 (qb true) 28),qm 30 29,qg 31 (.aM 3) 30 false,qg 32 (.aJ .lss 31 (qi 0)) 30 false,qu 33 (.pick 30 (qb true) 32),qm 34 33,qg 35 (.aM 3) 34 false,qg 36 (.aM 0) 34 false,qg 37 (.len 1 36) 34 false,qg 38 (.aJ .geq 35 37) 34 false,qu 39 (.pick 34 (qb true) 38),qm 40 39,qg 41 (.aM 0) 40 false,qg 42 (.aM 3) 40 false,qg 43 (.cz 9 41 42) 40 false,qg 44 (.b8 0 43) 40 false,qg 45 (.load false 1 44) 40 false,qg 46 (.aJ .eql 45 (qi 0)) 40 false,qu 47 (.pick 40 (qb true) 46),qm 13 47]) (.cond 13 (.seq (.ai [qu 8 (.aM qe),qu 9 (.aM (qi 6))]) .ret) (.seq (.ai [qm 49 0,qm 50 1,qu 51 (.cz 9 49 50),qf 52 0 51,ql 53 52,qu 54 (.aJ .neq 53 (qi 2)),qm 48 54]) (.cond 48 (.seq (.ai [qu 8 (.aM qe),qu 9 (.aM (qi 11))]) .ret) (.seq (.ai [qm 56 0,qm 57 1,qu 58 (.cz 9 56 57),qf 59 7 58,ql 60 59,qu 61 (.aJ .eql 60 (qi 0)),qm 55 61]) (.cond 55 (.seq (.ai [qu 8 (.aM qe),qu 9 (.aM (qi 6))]) .ret) (.seq (.ai [qm 63 2,qu 64 (qc 106 [63]),qu 65 (.un .not 64),qm 66 65,qg 67 (.aM 0) 66 false,qg 68 (.aM 1) 66 false,qg 69 (.aM 2) 66 false,qg 70 (qc 108 [67,68,69]) 66 false,qg 71 (.aJ .geq 70 (qi 0)) 66 false,qu 72 (.pick 66 (qb true) 71),qm 62 72]) (.cond 62 (.seq (.ai [qu 8 (.aM qe),qu 9 (.aM (qi 7))]) .ret) (.seq (.ai [qm 74 0,qm 75 1,qu 76 (.cz 9 74 75),qf 77 2 76,ql 78 77,qu 79 (.len 1 78),qu 80 (.aJ .geq 79 (qi 8)),qm 73 80]) (.cond 73 (.seq (.ai [qu 8 (.aM qe),qu 9 (.aM (qi 15))]) .ret) .skip))))))))))) (.seq (.ai [qm 81 0,qu 82 (qc 98 [81]),qm 10 82]) (.seq (.ai [qm 84 10,qm 85 1,qu 86 (.cz 9 84 85),qf 87 2 86,ql 88 87,qm 89 2,qu 90 (qc 134 [88,89,(.c (.rv (.one (.fn 139 []))))]),qm 83 90,qu 91 (.ext 83 0),qu 92 (.ext 83 1),qm 11 91,qm 12 92]) (.seq (.ai [qm 93 10,qm 94 1,qm 95 10,qm 96 1,qu 97 (.cz 9 95 96),qf 98 2 97,ql 99 98,qm 100 11,qm 101 2,qm 102 3,qu 103 (.build [(.ah (.val (.string ⟨#[]⟩))),qd 0] [(0,1,101),(1,1,102)]),qu 104 (.od 2 [(.ah (.val (.string ⟨#[]⟩))),qd 0] 1 [(0,103)]),qu 105 (qc 140 [99,100,104]),qu 106 (.cz 9 93 94),qf 107 2 106,qw (.store 1 107 105)]) (.seq (.ai [qm 108 10,qm 109 3,qu 110 (.cz 9 108 109),qf 111 7 110,ql 112 111,qu 113 (.aJ .add 112 (qi 1)),qu 114 (.cz 9 108 109),qf 115 7 114,qw (.store 1 115 113)]) (.seq (.seq (.ai [qm 116 10,qm 117 3,qu 118 (.cz 9 116 117),qf 119 0 118,ql 120 119,qu 121 (.aJ .eql 120 (qi 2))]) (.cond 121 (.ai [qm 122 10,qm 123 3,qm 124 1,qu 125 (.cz 9 122 123),qf 126 8 125,qw (.store 1 126 124)]) .skip)) (.cX (.seq (.ai [qm 127 10,qm 8 127,qu 9 (.aM (qi 0))]) .ret)))))))))⟩
def c140:LF:= ⟨95,[.tmp 6],(.seq (.ai [qu 6 (.aM qe)]) (.seq (.ai [qm 10 0,qm 11 1,qu 12 (.oG 2 10 (some 11) none none)]) (.seq (.ai [qm 13 2,qu 14 (.len 1 13),qm 7 14]) (.seq (.seq (.ai [qm 15 7,qu 16 (.aJ .eql 15 (qi 0))]) (.cond 16 (.seq (.ai [qm 17 0,qm 6 17]) .ret) .skip)) (.seq (.ai [qm 18 0,qu 19 (.len 1 18),qm 8 19]) (.seq (.seq (.ai [qm 20 1,qm 21 8,qu 22 (.aJ .eql 20 21)]) (.cond 22 (.seq (.ai [qm 23 0,qm 24 2,qu 25 (.pO 2 24 23 24),qm 6 25]) .ret) .skip)) (.seq (.seq (.ai [qm 26 8,qm 27 7,qu 28 (.aJ .add 26 27),qm 29 0,qu 30 (.kq true []),qu 31 (.aJ .gtr 28 30)]) (.cond 31 (.seq (.ai [qm 32 0,qm 33 1,qu 34 (.oG 2 32 none (some 33) none),qm 35 8,qm 36 7,qu 37 (.aJ .add 35 36),qm 38 1,qu 39 (.aJ .sub 37 38),qu 40 (.kq true []),qm 9 40]) (.seq (.ai [qm 41 9,qm 42 1,qu 43 (.oG 2 41 (some 42) none none),qm 44 2,qu 45 (.copy 2 43 44)]) (.seq (.bV [qm 46 9,qm 47 1,qm 48 7,qu 49 (.aJ .add 47 48),qu 50 (.oG 2 46 (some 49) none none),qm 51 0,qm 52 1,qu 53 (.oG 2 51 (some 52) none none),qu 54 (.copy 2 50 53)] [(eK 8 0 (.cons 8 (some []) .nil))]) (.seq (.ai [qm 55 9,qm 6 55]) .ret)))) .skip)) (.seq (.ai [qm 56 0,qm 57 8,qm 58 7,qu 59 (.aJ .add 57 58),qu 60 (.oG 2 56 none (some 59) none),qm 0 60]) (.seq (.seq (.ai [qm 61 2,qm 62 0,qm 63 1,qm 64 7,qu 65 (.aJ .add 63 64),qu 66 (.oG 2 62 (some 65) none none),qu 67 (qc 151 [61,66]),qu 68 (.un .not 67)]) (.cond 68 (.seq (.bV [qm 69 0,qm 70 1,qm 71 7,qu 72 (.aJ .add 70 71),qu 73 (.oG 2 69 (some 72) none none),qm 74 0,qm 75 1,qu 76 (.oG 2 74 (some 75) none none),qu 77 (.copy 2 73 76)] [(eK 8 0 (.cons 8 (some []) .nil))]) (.seq (.ai [qm 78 0,qm 79 1,qu 80 (.oG 2 78 (some 79) none none),qm 81 2,qu 82 (.copy 2 80 81)]) (.seq (.ai [qm 83 0,qm 6 83]) .ret))) .skip)) (.seq (.ai [qm 84 0,qm 85 8,qu 86 (.oG 2 84 (some 85) none none),qm 87 2,qu 88 (.copy 2 86 87)]) (.seq (.ai [qm 89 0,qm 90 1,qu 91 (.oG 2 89 (some 90) none none),qm 92 7,qu 93 (qc 152 [91,92])]) (.seq (.ai [qm 94 0,qm 6 94]) .ret))))))))))))⟩
theorem l65:bz prog f65=some c65:=by kernel_rfl
theorem l140:bz prog f140=some c140:=by kernel_rfl
theorem l112:bz prog f112=some c112.er:=by kernel_rfl
def ZW(e:ByteArray×Int):List Dt:=[.val (.string e.1)]
theorem Gy(o:Obj)(es:List (ByteArray×Int))(he:o.ak=es.map c9)(hl:es.length<=4194304):body prog c65 [o.cv] [] (λr m=>cV m r (sA 1 (es.map ZW))):=by
 obtain⟨ag,data,ak,target,bp,ar,ba,al,up⟩:=o;have he:ak=es.map c9:=he;subst he;refine bc (λk=>k<=es.length) [7,8] (λk=>[(9,am .i64 (k:Nat)),(3,.rv (.one (.row 0 1 0 none)))]) (λk=>[.row 1 (aa ((es.take k).map ZW))]) (λk=>es.length-k) 0 (aaj _) ?_ (λk hk=>?_)
 .refine View.trans (View.aO 3 1 1 rfl rfl rfl) (View.o1 2 [1] [] ?_)
  .exact .au
 have hk:k<=es.length:=hk;refine aN (λh=>?_) (λh=>?_)
 .have aC:k<es.length:=by have h:(k:Int)<((es.map c9).length:Int):=h;rw[Pj]at h;omega
  refine af (pl aC) ?_;refine⟨by simp[b9,aa];omega,?_⟩
  refine⟨k+1,aC,(show es.length-(k+1)<es.length-k by omega),View.o2 4 [3] [] ?_⟩
  .refine .pt rfl rfl (.bL ?_) (.nil _);rw[sD (vU aC),abm,dx];rfl
 .have Bu:k=es.length:=by have h:¬(k:Int)<((es.map c9).length:Int):=h;rw[Pj]at h;omega
  subst Bu;rw[aaV];exact .rv (.one (fk.fl rfl 0 none))
theorem Ok(o:Obj)(es:List (ByteArray×Int))(he:o.ak=es.map c9)(hl:es.length<=4194304){m:Mem}{K:CV->Mem->Prop}(h:K (sA 1 (es.map ZW)) m):ap prog 65 [o.cv] m K:=
 bh (aZ func65 l65 (Gy o es he hl)) (by simp[Obj.cv,Obj.enc,CV.dB,CC.dB,RV.dB]) λr m1 hf=>⟨_,hf,h⟩
theorem Ol(S:List (List Dt))(e:List Dt)(hl:S.length<=4194304):body prog c140 [.rv (.one (.row 0 2 0 none)),am .i64 (S.length:Nat),.rv (.one (.row 1 2 0 none))] [.row 2 (aa S),.row 2 (aa [e])]
  (λr m=>r= .rv (.one (.row 2 2 0 none))/\m=[.aS,.aS,.row 2 (aa (S++ [e]))]):=by
 have hlen:lenOf (aa S).length 0 none=S.length:=dW S;refine cN (by show(Nat.ble S.length (lenOf (aa S).length 0 none)&&Nat.ble (lenOf (aa S).length 0 none) ((aa S).length-0))=true;rw[hlen,dW];simp[aa9]) ?_
 refine bs (λh=>?_) (λh=>?_)
 .refine⟨by simp[b9,aa];omega,rfl,?_⟩
  show [Bk.aS,.aS,.row 2 (b9 (aa S) 0 none++b9 (aa [e]) 0 none)]=_;simp[b9,aa]
 .exfalso;apply h;show((S.length:Nat):Int)=((lenOf (aa S).length 0 none:Nat):Int);rw[hlen]
theorem U5(S:List (List Dt))(e:List Dt)(hl:S.length<=4194304){m:Mem}{K:CV->Mem->Prop}(a b:Nat)(EV:fJ [a,b]=true)(aC:eP m.length [a,b]=true)(ha:cF m a=some (.row 2 (aa S)))(hb:cF m b=some (.row 2 (aa [e])))(h:K (.rv (.one (.row m.length 2 0 none))) (c6 m [a,b] [.aS,.aS,.row 2 (aa (S++ [e]))])):ap prog 140 [.rv (.one (.row a 2 0 none)),am .i64 (S.length:Nat),.rv (.one (.row b 2 0 none))] m K:=by
 refine bu [a,b] m.length rfl rfl EV aC (args0:=[.rv (.one (.row 0 2 0 none)),am .i64 (S.length:Nat),.rv (.one (.row 1 2 0 none))]) rfl (m0:=[.row 2 (aa S),.row 2 (aa [e])]) (λi b' hi=>?_) (aZ func140 l140 (Ol S e hl)) (λr1 m1 hr=>?_)
 .match i,hi with
  |0,hi=>cases hi;exact .inr ⟨λh=>h,_,by rw[aT]at ha;exact ha,.bL rfl⟩
  |1,hi=>cases hi;exact .inr ⟨λh=>h,_,by rw[aT]at hb;exact hb,.bL rfl⟩
  |n+2,hi=>simp at hi
 .obtain⟨rfl,rfl⟩:=hr;refine⟨aE,?_⟩;show K (.rv (.one (.row (m.length+(2-2)) 2 0 none))) (c6 m [a,b] [.aS,.aS,.row 2 ((aa (S++ [e])).map (λcs=>cs.map (CC.bb (sg [a,b] m.length))))])
  rw[iy];exact h
def ab1:LC:=unW (nz (nz (nz (nz (nz (nz (nz c112.code)))))))
end Go.Proofs.YtodckkkbiidffaaGreatDoor
namespace Go.Proofs.YtodckkkbiidffaaGreatDoor
open Proofs.Tryz
open Go.AM Go.ChangeShapes Go.WideShapes Go.ChangeAt Go.RowKit
open Go.Shelf Go.Lib
theorem kZ{P:Program}(w:World)(dT sT ty elem:TypeId)(b o dLen dCap:Nat)(a:Addr)(sLen sCap:Nat)(cs:List Value)(hu:P.underlying dT=some (.slice elem))(hs:(P.info? elem).map (·.size)=some 2)(hn:Nat.min sLen dLen*2=cs.length)(hsrc:∀j v,cs[j]? =some v->w.cell? (a.add j)=some v)(hc:∀j,j<cs.length->(w.cell? ⟨b,o+j,none⟩).isSome=true)(hf:∀j,j<cs.length->w.frozen? ⟨b,o+j,none⟩=false)(h1:∀v∈cs,v.oneCell'=true):
  (Builtin.copy_ #[dT,sT] ty #[.slice (some ⟨b,o,none⟩) dLen dCap,.slice (some a) sLen sCap]).run P w= .ok (goInt (Nat.min sLen dLen)) (w.setCells b o cs):=by
 have hl:=run_loadCells_list (P:=P) w a cs hsrc;have hst:=run_storeCells_cells (P:=P) b o cs 0 w (by simpa using hc) (by simpa using hf) h1
 cases hq:P.info? elem with
 |none=>simp[hq]at hs
 |some i=>
  have hi:i.size=2:=by simpa[hq]using hs
  simp[Builtin.copy_,run_underlying hu,Builtin.lenOf,Builtin.firstCells,sizeOf,typeInfo,hq,hi,hn,hl,hst]
open Go.Shelf Go.Lib in
theorem BV(b off n c i vb voff vc:Nat)(cs vs:List Value)(w:World)(hi:i<n)(hroom:n+1<=c)(hc63:c<=9223372036854775807)(hvb:vb≠b)(hcl:cs.length=n*2)(hvl:vs.length=2)(hcs:∀j v,cs[j]? =some v->w.cell? ⟨b,off+j,none⟩=some v)(hsp:∀j,j<(n+1)*2->(w.cell? ⟨b,off+j,none⟩).isSome=true)(hfz:∀j,j<(n+1)*2->w.frozen? ⟨b,off+j,none⟩=false)(hvs:∀j v,vs[j]? =some v->w.cell? ⟨vb,voff+j,none⟩=some v)(h1c:∀v∈cs,v.oneCell'=true)(h1v:∀v∈vs,v.oneCell'=true)(tA tB:TypeId)(kA kB:Nat)(hsa:w.shape? vb=some (tA,kA))(hsb:w.shape? b=some (tB,kB))(hkB:kB≠0)(hfa:w.frozen? ⟨vb,voff,none⟩=false)(hfe:w.frozen? ⟨vb,kA,none⟩=false):
  Calls prog 140 #[.slice (some ⟨b,off,none⟩) n c,.int .i64 i,.slice (some ⟨vb,voff,none⟩) 1 vc] w λe w'=>
   e= .returned (.slice (some ⟨b,off,none⟩) (n+1) c)/\w'=(w.drew.setCells b (off+(i+1)*2) (cs.drop (i*2))).setCells b (off+i*2) vs:=by
 have hz2:¬((i:Int)=(n:Int)):=om;have hov:∀lb cb,(callFunc 151 #[.slice (some ⟨vb,voff,none⟩) 1 vc,.slice (some ⟨b,off+(i+1)*2,none⟩) lb cb]).run prog w= .ok (.value (.bool false)) w:=λlb cb=>by
  rw[run_callFunc_extern func151 (by kernel_rfl) (by kernel_rfl) (by kernel_rfl) (e:=Extern.SlicesOverlaps.overlaps #[84,84] #[4]) (by kernel_rfl),
   Lib.run_overlaps_apart w 84 4 206 underlying84 2 (λw=>by kernel_rfl) ⟨vb,voff,none⟩ ⟨b,off+(i+1)*2,none⟩ 1 vc lb cb hvb tA tB kA kB hsa hsb hkB hfa hfe]
  rfl
 have hsz:(prog.info? 206).map (·.size)=some 2:=by kernel_rfl
 have hdl:(cs.drop (i*2)).length=(n-i)*2:=by rw[abz,hcl,aef]
 have hw1:IntKind.i64.wrap ((i:Int)+1)=(i:Int)+1:=by rw[IntKind.wrap_i64];omega
 have hw2:IntKind.i64.wrap ((n:Int)+1)=(n:Int)+1:=by rw[IntKind.wrap_i64];omega
 have hb1:(0:Int)<=(i:Int)+1:=om;have hin:i<=n:=om;have htn:((i:Int)+1).toNat=i+1:=om;have htn2:((n:Int)+1).toNat=n+1:=om;have hb2:¬(c=i+1):=om;have hb3:(i:Int)<=(n:Int)+1:=om;have hb4:¬(c=i):=om;have hcp1:∀ty dc sc,(Builtin.copy_ #[84,84] ty #[.slice (some ⟨b,off+(i+1)*2,none⟩) (n-i) dc,.slice (some ⟨b,off+i*2,none⟩) (n+1-i) sc]).run prog w.drew= .ok (goInt ((n-i:Nat):Int)) (w.drew.setCells b (off+(i+1)*2) (cs.drop (i*2))):=λty dc sc=>by
  have hm:Nat.min (n+1-i) (n-i)=n-i:=by simp only[aek];split<;>omega
  have:=kZ (P:=prog) w.drew 84 84 ty 206 b (off+(i+1)*2) (n-i) dc ⟨b,off+i*2,none⟩ (n+1-i) sc (cs.drop (i*2)) underlying84 hsz (by rw[hm,hdl])
   (λj v hj=>by rw[Addr.add_lit,abg];exact hcs (i*2+j) v (by rwa [abj]at hj))
   (λj hj=>by rw[abg];exact hsp _ (by rw[hdl]at hj;omega)) (λj hj=>by rw[abg];exact hfz _ (by rw[hdl]at hj;omega)) (λv hv=>h1c v (acN hv))
  rwa [hm]at this
 obtain⟨W1,hW1⟩:∃W1,W1=w.drew.setCells b (off+(i+1)*2) (cs.drop (i*2)):=⟨_,rfl⟩;have hsp1:∀k,k<(n+1)*2->(W1.cell? ⟨b,off+k,none⟩).isSome=true:=λk hk=>by rw[hW1];exact isSome_setCells b _ _ _ (λj hj=>by rw[abg];exact hsp _ (by rw[hdl]at hj;omega)) _ (hsp k hk)
 have hcp2:∀(W:World),(∀x,W.cell? x=W1.cell? x)->(∀x,W.frozen? x=W1.frozen? x)->∀ty dc,(Builtin.copy_ #[84,84] ty #[.slice (some ⟨b,off+i*2,none⟩) (n+1-i) dc,.slice (some ⟨vb,voff,none⟩) 1 vc]).run prog W= .ok (goInt 1) (W.setCells b (off+i*2) vs):=λW hWc hWf ty dc=>by
  have hm:Nat.min 1 (n+1-i)=1:=by simp only[aek];split<;>omega
  have:=kZ (P:=prog) W 84 84 ty 206 b (off+i*2) (n+1-i) dc ⟨vb,voff,none⟩ 1 vc vs underlying84 hsz (by rw[hm,hvl])
   (λj v hj=>by
    rw[Addr.add_lit,hWc,hW1,World.cell?_setCells_out b _ _ _ _ (λh _=>absurd h hvb)]
    exact hvs j v hj)
   (λj hj=>by rw[hWc,abg];exact hsp1 _ om) (λj hj=>by rw[hWf,hW1,World.frozen?_setCells,abg];exact hfz _ om) h1v
  rwa [hm]at this
 subst hW1
 go_enter func140,ntmps140
 go_wp2_with (simp only[hov])
 have mixed:prog.follows .mixedOrders=true:=by kernel_rfl
 go_region_law_o (refine step_copy_runI rfl _ _ 84 84 rfl _ _ (by simp[Act.eval,Act.put]) (by simp[Act.eval,Act.put]) (hcp1 _ _ _) ?_)
 go_wp2_with (at_builtin;refine wpList_copy_runI _ rfl _ _ 84 84 rfl _ _ rfl rfl (hcp2 _ (λ_=>rfl) (λ_=>rfl) _ _) ?_)
 go_ret
 exact⟨rfl,rfl⟩
def vV:Value:= .agg #[.string ⟨#[]⟩,.int .i64 0]
open Go.Shelf Go.Lib in
theorem D2(b off n c i vb voff vc:Nat)(cs vs:List Value)(w:World)(hi:i<n)(hnc:n<=c)(hroom:c<n+1)(hbig:(n+1)*24<=140737488355328)(hcl:cs.length=n*2)(hvl:vs.length=2)(hcs:∀j v,cs[j]? =some v->w.cell? ⟨b,off+j,none⟩=some v)(hvs:∀j v,vs[j]? =some v->w.cell? ⟨vb,voff+j,none⟩=some v)(h1c:∀v∈cs,v.oneCell'=true)(h1v:∀v∈vs,v.oneCell'=true):
  Calls prog 140 #[.slice (some ⟨b,off,none⟩) n c,.int .i64 i,.slice (some ⟨vb,voff,none⟩) 1 vc] w λe w'=>
   e= .returned (.slice (some ⟨w.heap.size,0,none⟩) (n+1) (grownCap w (n+1) c 206))/\
   w'=(((w.alloc (.cells ((cs.take (i*2)).toArray++Builtin.zeroCells vV.cells (n+1-i)++Builtin.zeroCells vV.cells (grownCap w (n+1) c 206-(n+1))) 206)).drew.setCells w.heap.size (i*2) vs).drew).setCells w.heap.size ((i+1)*2) (cs.drop (i*2)):=by
 obtain⟨i0,hi0,hz0,hzs,hzb⟩:∃i0,prog.info? 206=some i0/\i0.zero=some vV/\i0.size=2/\i0.bytes=24:=by
  have h9:(prog.info? 206).map (λi=>(i.zero,i.size,i.bytes))=some (some vV,2,24):=by kernel_rfl
  cases hi0:prog.info? 206 with
  |none=>rw[hi0]at h9;cases h9
  |some i0=>
   rw[hi0]at h9;simp only[aaD,aav,adq]at h9;exact⟨i0,rfl,h9.1,h9.2.1,h9.2.2⟩
 have hz2:¬((i:Int)=(n:Int)):=om;have hz3:(c:Int)<(n:Int)+1:=om;have hsz:(prog.info? 206).map (·.size)=some 2:=by rw[hi0];simp[hzs]
 have hbw:b<w.heap.size:=block_lt_of_cell (hcs 0 _ (vU om));have hvw:vb<w.heap.size:=block_lt_of_cell (hvs 0 _ (vU om));have hwn:IntKind.i64.wrap ((n:Int)+1)=(n:Int)+1:=by rw[IntKind.wrap_i64];omega
 have hwm:IntKind.i64.wrap ((n:Int)+1-(i:Int))=(n:Int)+1-(i:Int):=by rw[IntKind.wrap_i64];omega
 have hkk:(n:Int)+1-(i:Int)=((n+1-i:Nat):Int):=om;have hik:i+(n+1-i)=n+1:=om;have hold:(Builtin.firstCells i0.size i (.slice (some ⟨b,off,none⟩) i c)).run prog w.drew= .ok (cs.take (i*2)).toArray w.drew:=by
  rw[hzs];exact run_firstCells_some w.drew 2 i ⟨b,off,none⟩ i c (cs.take (i*2)) (by rw[aaA];omega) (λj v hj=>by
   rw[Addr.add_lit];rw[aaM]at hj;split at hj
   .exact hcs j v hj
   .cases hj)
 have hrz:∀ty,(Builtin.append_ #[84,3] ty #[.slice (some ⟨b,off,none⟩) i c,.int .i64 ((n:Int)+1-(i:Int))]).run prog w=
   .ok (.slice (some ⟨w.heap.size,0,none⟩) (n+1) (grownCap w (n+1) c 206)) (w.drew.alloc (.cells ((cs.take (i*2)).toArray++Builtin.zeroCells vV.cells (n+1-i)++Builtin.zeroCells vV.cells (grownCap w (n+1) c 206-(n+1))) 206)):=λty=>by
  have h:=Lib.run_append_grow_zeros (P:=prog) w 84 3 ty 206 i0 _ .i64 .i64 underlying84 underlying3 hi0 hz0 (some ⟨b,off,none⟩) i c (cs.take (i*2)) hold (n+1-i) om om om om (by rw[hzb];omega) (by rw[hzb,hik];exact growslice_fits hroom hbig)
  rw[hik]at h;rw[hkk];exact h
 obtain⟨G,hG⟩:∃G,G=grownCap w (n+1) c 206:=⟨_,rfl⟩;obtain⟨ROW,hROW⟩:∃ROW:Array Value,ROW=(cs.take (i*2)).toArray++Builtin.zeroCells vV.cells (n+1-i)++Builtin.zeroCells vV.cells (G-(n+1)):=⟨_,rfl⟩;rw[<-hG]at hrz|-;rw[<-hROW]at hrz|-;have hRl:(n+1)*2<=ROW.size:=by rw[hROW];simp[Builtin.zeroCells,Value.cells,vV];omega
 obtain⟨W1,hW1⟩:∃W1,W1=w.drew.alloc (.cells ROW 206):=⟨_,rfl⟩;rw[<-hW1]at hrz;have hN:∀j,j<(n+1)*2->(W1.cell? ⟨w.heap.size,j,none⟩).isSome=true:=λj hj=>by rw[hW1,World.cell?_alloc_at (w:=w.drew) ROW _ w.heap.size j rfl,abI om];rfl
 have hNf:∀j,W1.frozen? ⟨w.heap.size,j,none⟩=false:=λj=>by rw[hW1];exact World.frozen?_alloc_at (w:=w.drew) ROW _ w.heap.size j rfl
 have hOb:∀j v,w.cell? ⟨b,j,none⟩=some v->W1.cell? ⟨b,j,none⟩=some v:=λj v h=>by rw[hW1,World.cell?_alloc_past (w:=w.drew) _ b j hbw];exact h
 have hOv:∀j v,w.cell? ⟨vb,j,none⟩=some v->W1.cell? ⟨vb,j,none⟩=some v:=λj v h=>by rw[hW1,World.cell?_alloc_past (w:=w.drew) _ vb j hvw];exact h
 have hcpA:∀(W:World),(∀x,W.cell? x=W1.cell? x)->(∀x,W.frozen? x=W1.frozen? x)->∀ty dc,(Builtin.copy_ #[84,84] ty #[.slice (some ⟨w.heap.size,i*2,none⟩) (n+1-i) dc,.slice (some ⟨vb,voff,none⟩) 1 vc]).run prog W= .ok (goInt 1) (W.setCells w.heap.size (i*2) vs):=λW hWc hWf ty dc=>by
  have hm:Nat.min 1 (n+1-i)=1:=by simp only[aek];split<;>omega
  have:=kZ (P:=prog) W 84 84 ty 206 w.heap.size (i*2) (n+1-i) dc ⟨vb,voff,none⟩ 1 vc vs underlying84 hsz (by rw[hm,hvl])
   (λj v hj=>by rw[Addr.add_lit,hWc];exact hOv _ v (hvs j v hj))
   (λj hj=>by rw[hWc];exact hN _ om) (λj hj=>by rw[hWf];exact hNf _) h1v
  rwa [hm]at this
 have hGn:n+1<=G:=by rw[hG];exact grownCap_ge w _ _ _
 have hG63:G<=9223372036854775807:=by
  have:=grownCap_le_maxLen w (n+1) c 206 (by unfold maxLen;omega)
  rw[<-hG]at this;unfold maxLen at this;omega
 have hGi:¬(G=i):=om;have hGim:¬(G=i+1):=om;have hci:¬(c=i):=om;have hbN:b≠w.heap.size:=om;have hdl:(cs.drop (i*2)).length=(n-i)*2:=by rw[abz,hcl,aef]
 have hcpB:∀(W:World),(∀x,W.cell? x=(W1.setCells w.heap.size (i*2) vs).cell? x)->(∀x,W.frozen? x=(W1.setCells w.heap.size (i*2) vs).frozen? x)->∀ty dc sc,(Builtin.copy_ #[84,84] ty #[.slice (some ⟨w.heap.size,(i+1)*2,none⟩) (n-i) dc,.slice (some ⟨b,off+i*2,none⟩) (n-i) sc]).run prog W= .ok (goInt ((n-i:Nat):Int)) (W.setCells w.heap.size ((i+1)*2) (cs.drop (i*2))):=λW hWc hWf ty dc sc=>by
  have hm:Nat.min (n-i) (n-i)=n-i:=by simp[aek]
  have:=kZ (P:=prog) W 84 84 ty 206 w.heap.size ((i+1)*2) (n-i) dc ⟨b,off+i*2,none⟩ (n-i) sc (cs.drop (i*2)) underlying84 hsz (by rw[hm,hdl])
   (λj v hj=>by
    rw[Addr.add_lit,hWc,World.cell?_setCells_out _ _ _ _ _ (λh _=>absurd h hbN),abg]
    exact hOb _ v (hcs (i*2+j) v (by rwa [abj]at hj)))
   (λj hj=>by rw[hWc];exact isSome_setCells _ _ _ _ (λt ht=>hN _ om) _ (hN _ om))
   (λj hj=>by rw[hWf,World.frozen?_setCells];exact hNf _) (λv hv=>h1c v (acN hv))
  rwa [hm]at this
 subst hW1;have hE1:∀x,((w.alloc (.cells ROW 206)).drew).cell? x=(w.drew.alloc (.cells ROW 206)).cell? x:=λx=>rfl
 have hE2:∀x,((w.alloc (.cells ROW 206)).drew).frozen? x=(w.drew.alloc (.cells ROW 206)).frozen? x:=λx=>rfl
 have hF1:∀x,(((w.alloc (.cells ROW 206)).drew.setCells w.heap.size (i*2) vs).drew).cell? x=((w.drew.alloc (.cells ROW 206)).setCells w.heap.size (i*2) vs).cell? x:=λx=>rfl
 have hF2:∀x,(((w.alloc (.cells ROW 206)).drew.setCells w.heap.size (i*2) vs).drew).frozen? x=((w.drew.alloc (.cells ROW 206)).setCells w.heap.size (i*2) vs).frozen? x:=λx=>rfl
 have hw1:IntKind.i64.wrap ((i:Int)+1)=(i:Int)+1:=by rw[IntKind.wrap_i64];omega
 have hb1:(0:Int)<=(i:Int)+1:=om;have hin:i<=n:=om;have htn:((i:Int)+1).toNat=i+1:=om;have hb3:(i:Int)<=(n:Int):=om;have hnn:n+1-(i+1)=n-i:=om;clear hkk hik hold hROW hG hRl;have mixed:prog.follows .mixedOrders=true:=by kernel_rfl
 go_enter func140,ntmps140
 go_wp2_with (first
  |(at_builtin;refine Lib.wpList_append_run _ rfl _ _ _ _ rfl _ _ rfl rfl _ _ (hrz _) ?_)
  |(at_builtin;refine wpList_copy_runI _ rfl _ _ 84 84 rfl _ _ rfl rfl (hcpA _ hE1 hE2 _ _) ?_)
  |(at_builtin;refine wpList_copy_runI _ rfl _ _ 84 84 rfl _ _ rfl rfl (hcpB _ (λ_=>rfl) (λ_=>rfl) _ _ _) ?_))
 go_region_law_o (refine step_copy_runI rfl _ _ 84 84 rfl (.slice (some ⟨w.heap.size,(i+1)*2,none⟩) (n-i) (G-(i+1))) (.slice (some ⟨b,off+i*2,none⟩) (n-i) (c-i)) (by simp[Act.eval,Act.put]) (by simp[Act.eval,Act.put]) (hcpB _ hF1 hF2 3 (G-(i+1)) (c-i)) ?_)
 go_wp2
 go_ret
 exact⟨rfl,rfl⟩
end Go.Proofs.YtodckkkbiidffaaGreatDoor
namespace Go.Proofs.YtodckkkbiidffaaGreatDoor
open Proofs.Tryz
open Go.AM Go.ChangeShapes Go.WideShapes Go.ChangeAt Go.RowKit
theorem ja{mk:Prop}{b:Nat}:∀(vs:List Value)(o:Nat)(w:World)(cur:Array Value),mE mk w b cur->o+vs.length<=cur.size->
  ∃gX,mE mk (w.setCells b o vs) b gX/\eV w (w.setCells b o vs) b/\gX.size=cur.size/\∀k,gX[k]? =if o<=k/\k<o+vs.length then vs[k-o]? else cur[k]?
 | [],o,w,cur,hc,_=>⟨cur,hc,⟨λ_ _=>rfl,rfl,rfl,rfl,rfl⟩,rfl,λk=>by rw[if_neg aE]⟩
 |v::r,o,w,cur,hc,hle=>by
  have CA:mE mk (w.setCell ⟨b,o,none⟩ v) b (cur.setIfInBounds o v):=by
   obtain⟨ty,fr,hb,hf⟩:=hc;refine⟨ty,fr,?_,by simpa using hf⟩
   simp[World.setCell,aba,hb]
  have AU:eV w (w.setCell ⟨b,o,none⟩ v) b:=⟨λb hb=>by simp[World.setCell,aba,Ne.symm hb],aE,rfl,rfl,rfl⟩
  simp only[aau]at hle;obtain⟨gX,h1,ht,h2,h3⟩:=ja (mk:=mk) r (o+1) _ _ CA (by simp;omega)
  refine⟨gX,h1,⟨λb hb=>(ht.heap b hb).trans (AU.heap b hb),ht.size.trans AU.size,ht.os,ht.tape,ht.output⟩,by rw[h2];simp,λk=>?_⟩
  rw[h3 k];simp only[aau];by_cases hk:k=o
  .subst hk;rw[if_neg om,if_pos om,ab2 om];simp
  .by_cases oW:o+1<=k/\k<o+1+r.length
   .rw[if_pos oW,if_pos om];obtain⟨j,rfl⟩:∃j,k=o+1+j:=⟨k-(o+1),om⟩;rw[show o+1+j-(o+1)=j by omega,show o+1+j-o=j+1 by omega,abK]
   .rw[if_neg oW,if_neg om,acm om]
theorem GA{S:List (List Dt)}{i:Nat}{cs:List CC}(h:(aa S)[i]? =some cs):∃ds,S[i]? =some ds/\cs=ds.map .ah:=by simp only[aa,Tm]at h;obtain⟨ds,h1,h2⟩:=aaz.1 h;exact⟨ds,h1,h2.symm⟩
theorem IB{S:List (List Dt)}{e:List Dt}{i:Nat}(hi:i<S.length)(k:Nat)(ds:List Dt)(h:(S.take i++e::S.drop i)[k]? =some ds):(k<i/\S[k]? =some ds)\/(k=i/\ds=e)\/(i<k/\S[k-1]? =some ds):=by
 have hl:(S.take i).length=i:=by rw[aaA];omega
 rcases adk k i with h1|h1|h1
 .rw[aac om,aaM,if_pos h1]at h;exact .inl ⟨h1,h⟩
 .subst h1;rw[ZZ om,hl,ac3]at h;exact .inr (.inl ⟨rfl,by simpa using h.symm⟩)
 .rw[ZZ om,hl,show k-i=(k-1-i)+1 by omega,abK,abj,show i+(k-1-i)=k-1 by omega]at h
  exact .inr (.inr ⟨h1,h⟩)
theorem Kz(S:List (List Dt))(e:List Dt)(i:Nat)(hi:i<S.length)(hl:S.length<=4194304):ap prog 140 [.rv (.one (.row 0 2 0 none)),am .i64 (i:Nat),.rv (.one (.row 1 2 0 none))] [.row 2 (aa S),.row 2 (aa [e])]
  (λr m=>r= .rv (.one (.row 2 2 0 none))/\m=[.aS,.aS,.row 2 (aa (S.take i++e::S.drop i))]):=by
 refine⟨⟨f140,func140,rfl,by decide⟩,λρ w vs hM yZ hd=>?_⟩
 obtain⟨v0,h0,d0⟩:=hd 0 _ rfl;obtain⟨v1,h1,d1⟩:=hd 1 _ rfl;obtain⟨v2,h2,d2⟩:=hd 2 _ rfl;have EO:vs=[v0,v1,v2]:=by
  match vs,yZ with
  | [a,b,c],_=>simp at h0 h1 h2;rw[h0,h1,h2]
 have Fo:v1= .int .i64 (i:Nat):=(bF d1).1;obtain⟨_,_,_,agB,U8,a0,V4,Wf⟩:=(show bj ρ w none (.row 0 2 0 none) v0 from d0);obtain⟨_,_,_,XB,Qh,a1,vL,Z0⟩:=(show bj ρ w none (.row 1 2 0 none) v2 from d2);obtain⟨acd,_,_,Mx,ace⟩:=hM.bk 0 _ rfl;obtain⟨acf,_,_,Xu,acg⟩:=hM.bk 1 _ rfl;have Yn:(ρ.aI (.aj 0)).len=S.length:=by rw[<-acd];simp[aa]
 have Yo:(ρ.aI (.aj 1)).len=1:=by rw[<-acf];simp[aa]
 have Om:0<(ρ.aI (.aj 0)).cap:=om;have HN:0<(ρ.aI (.aj 1)).cap:=om;obtain⟨On,Am,Dp,Rg⟩:=ace Om;obtain⟨Oo,Oq,XD,Rh⟩:=acg HN;have Wf:=Wf Om;have Z0:=Z0 HN;have Ot:Live ρ [.row 2 (aa S),.row 2 (aa [e])] (.aj 0):=⟨_,rfl,aE,λ_=>Om⟩
 have Yp:Live ρ [.row 2 (aa S),.row 2 (aa [e])] (.aj 1):=⟨_,rfl,aE,λ_=>HN⟩
 have ZX:(ρ.aI (.aj 1)).b≠(ρ.aI (.aj 0)).b:=λhe=>by have:=hM.inj _ _ Yp Ot he;cases this
 simp only[adn,acQ,adJ,ac6]at V4 vL Wf Z0;have Yq:ρ.n=2:=hM.n;have Z1:=hM;generalize P0:ρ.aI (.aj 0)=L0 at*
 generalize hL1:ρ.aI (.aj 1)=L1 at*
 obtain⟨b,aq,len,cap⟩:=L0;obtain⟨vb,Ao,agC,U9⟩:=L1;simp only at*
 subst Yn Yo;have Va:=Am.lt;have Wg:∀(k:Nat)(ds:List Dt),S[k]? =some ds->ds.length=2:=λk ds hk=>by
  have:=Mx (ds.map .ah) (Tp (i:=k) (by simp[aa,hk]))
  simpa using this
 have kL:e.length=2:=by
  have:=Xu (e.map .ah) (by simp[aa])
  simpa using this
 obtain⟨cs,Yr⟩:∃cs,cs=(On.toList.drop aq).take (S.length*2):=⟨_,rfl⟩;have iB:cs.length=S.length*2:=by have:=abR (xs:=On);rw[Yr,aaA,abz];omega
 have V5:∀j,j<S.length*2->cs[j]? =On[aq+j]? :=λj hj=>by rw[Yr,aaM,if_pos hj,abj,abq]
 obtain⟨vv,Ys⟩:∃vv,vv=(Oo.toList.drop Ao).take 2:=⟨_,rfl⟩;have BW:vv.length=2:=by have:=abR (xs:=Oo);rw[Ys,aaA,abz];omega
 have hvg:∀j,j<2->vv[j]? =Oo[Ao+j]? :=λj hj=>by rw[Ys,aaM,if_pos hj,abj,abq]
 have Ou:∀(k:Nat)(ds:List Dt)(j:Nat)(d:Dt),S[k]? =some ds->ds[j]? =some d->∃u,cs[k*2+j]? =some u/\de ρ.S w d u:=λk ds j d hk hj=>by
  have gA:=(Km.1 hk).1;have mh:=(Km.1 hj).1;rw[Wg k ds hk]at mh;obtain⟨u,hu,cy⟩:=Rg k (ds.map .ah) j (.ah d) (by simp[aa,hk]) (by simp[hj])
  exact⟨u,by rw[V5 _ om,<-abg];exact hu,cy⟩
 have Tq:∀(j:Nat)(d:Dt),e[j]? =some d->∃u,vv[j]? =some u/\de ρ.S w d u:=λj d hj=>by
  have mh:=(Km.1 hj).1;rw[kL]at mh;obtain⟨u,hu,cy⟩:=Rh 0 (e.map .ah) j (.ah d) (by simp[aa]) (by simp[hj])
  exact⟨u,by rw[hvg _ mh];simpa using hu,cy⟩
 have Tr:∀v∈cs,v.oneCell'=true:=λv hv=>by
  obtain⟨j,hj⟩:=aaa hv;have mh:=(Km.1 hj).1;have hk:j/2<S.length:=om;have yJ:=Wg (j/2) S[j/2] (vU hk);obtain⟨u,hu,cy⟩:=Ou (j/2) S[j/2] (j%2) (S[j/2][j%2]'(by omega)) (vU hk) (vU _)
  rw[show j/2*2+j%2=j by omega,hj]at hu
  cases hu;exact cy.one
 have Ts:∀v∈vv,v.oneCell'=true:=λv hv=>by
  obtain⟨j,hj⟩:=aaa hv;have mh:=(Km.1 hj).1;obtain⟨u,hu,cy⟩:=Tq j (e[j]'(by omega)) (vU _)
  rw[hj]at hu;cases hu;exact cy.one
 have Bg:∀(j:Nat)(v:Value),cs[j]? =some v->w.cell? ⟨b,aq+j,none⟩=some v:=λj v hj=>by
  rw[Am.cell,<-V5 j (by rw[<-iB];exact(Km.1 hj).1)];exact hj
 have Bh:∀(j:Nat)(v:Value),vv[j]? =some v->w.cell? ⟨vb,Ao+j,none⟩=some v:=λj v hj=>by
  rw[Oq.cell,<-hvg j (by rw[<-BW];exact(Km.1 hj).1)];exact hj
 have eX:vs.toArray= #[.slice (some ⟨b,aq,none⟩) S.length cap,.int .i64 (i:Nat),.slice (some ⟨vb,Ao,none⟩) 1 U9]:=by rw[EO,V4,Fo,vL,Wf,Z0]
 rw[eX];have D3:∀(w':World)(l:AM.wu)(gX:Array Value),iL ρ w (ρ.move l λ_ _=>.sub 0 0 0) w'->(∀k,k<i*2->gX[l.aq+k]? =cs[k]?)->(∀k,k<2->gX[l.aq+(i*2+k)]? =vv[k]?)->(∀k,k<(S.length-i)*2->gX[l.aq+((i+1)*2+k)]? =cs[i*2+k]?)->
   ∀(k:Nat)EX(j:Nat)c,(aa (S.take i++e::S.drop i))[k]? =some EX->EX[j]? =some c->∃u,gX[l.aq+k*2+j]? =some u/\bj (ρ.move l λ_ _=>.sub 0 0 0) w' (some (ρ.n,k,j)) c u:=by
  intro w' l gX g q1 q2 q3 k EX j c hk hj;obtain⟨ds,zG,rfl⟩:=GA hk;rw[Tm]at hj;obtain⟨d,vG,rfl⟩:=aaz.1 hj;have mh:=(Km.1 vG).1;rcases IB hi k ds zG with⟨H6,hS⟩|⟨rfl,rfl⟩|⟨H6,hS⟩
  .rw[Wg k ds hS]at mh;obtain⟨u,hu,cy⟩:=Ou k ds j d hS vG;exact⟨u,by rw[abg,q1 _ om];exact hu,cy.mono g.S g.heap⟩
  .rw[kL]at mh;obtain⟨u,hu,cy⟩:=Tq j d vG;exact⟨u,by rw[abg,q2 _ mh];exact hu,cy.mono g.S g.heap⟩
  .rw[Wg _ ds hS]at mh;obtain⟨u,hu,cy⟩:=Ou (k-1) ds j d hS vG;have gA:=(Km.1 hS).1;refine⟨u,?_,cy.mono g.S g.heap⟩;rw[abg,show k*2+j=(i+1)*2+((k-1-i)*2+j) by omega,q3 _ om,show i*2+((k-1-i)*2+j)=(k-1)*2+j by omega]
   exact hu
 have Ib:(aa (S.take i++e::S.drop i)).length=S.length+1:=by simp[aa];omega
 have EP:∀cs,cs∈aa (S.take i++e::S.drop i)->cs.length=2:=λEX hm=>by
  obtain⟨k,hk⟩:=aaa hm;obtain⟨ds,zG,rfl⟩:=GA hk;rw[Pj];rcases IB hi k ds zG with⟨_,hS⟩|⟨_,rfl⟩|⟨_,hS⟩
  .exact Wg _ _ hS
  .exact kL
  .exact Wg _ _ hS
 have js:∀(k:Nat)EX(j:Nat)s el,(aa (S.take i++e::S.drop i))[k]? =some EX->EX[j]? =some (.ei s el)->False:=λk EX j s el hk hj=>by obtain⟨ds,_,rfl⟩:=GA hk;rw[Tm]at hj;obtain⟨d,_,h⟩:=aaz.1 hj;cases h
 have pX:([.aS,.aS]:Mem).length=([.row 2 (aa S),.row 2 (aa [e])]:Mem).length:=rfl;have jv:∀(id:Nat)bk,([.aS,.aS]:Mem)[id]? =some bk->bk= .aS\/(([.row 2 (aa S),.row 2 (aa [e])]:Mem)[id]? =some bk/\¬(id=0\/id=1)):=λid bk h=>by
  match id,h with
  |0,h=>cases h;exact .inl rfl
  |1,h=>cases h;exact .inl rfl
  |id+2,h=>simp at h
 have D4:∀k,(cs.drop (i*2))[k]? =cs[i*2+k]? :=λk=>by rw[abj]
 have mw:(cs.drop (i*2)).length=(S.length-i)*2:=by rw[abz,iB,aef]
 by_cases oi:S.length+1<=cap
 ·
  obtain⟨ty0,fr0,hh0,agF,agG,agH⟩:=id Am;obtain⟨ty1,fr1,VX,agK,agL,Yt⟩:=id Oq;have Yt:fr1.2<=Oo.size:=by
   rcases Yt with h|h
   .cases h
   .exact h
  have Bf:∀j,j<(S.length+1)*2->(w.cell? ⟨b,aq+j,none⟩).isSome=true:=λj hj=>by rw[Am.cell,abI om];rfl
  have zi:=BV b aq S.length cap i vb Ao U9 cs vv w hi oi (by unfold maxLen at U8;omega) ZX iB BW Bg Bf (λj hj=>Am.qN om) Bh Tr Ts ty1 ty0 Oo.size On.size
   (by simp[World.shape?,VX]) (by simp[World.shape?,hh0]) om (Oq.qN om) (by simp only[World.frozen?,VX];simp;omega)
  refine zi.mono ?_;rintro e' w' ⟨rfl,rfl⟩;obtain⟨c1,CA,AU,LD,kM⟩:=ja (cs.drop (i*2)) (aq+(i+1)*2) w.drew On (Am.dC rfl) (by rw[mw];omega)
  obtain⟨c2,wV,wT,ES,oW⟩:=ja vv (aq+i*2) _ c1 CA (by rw[BW];omega)
  have hT:eV w ((w.drew.setCells b (aq+(i+1)*2) (cs.drop (i*2))).setCells b (aq+i*2) vv) b:=
   ⟨λx hx=>((wT.heap x hx).trans (AU.heap x hx)).trans rfl,(wT.size.trans AU.size).trans rfl,(wT.os.trans AU.os).trans rfl,(wT.tape.trans AU.tape).trans rfl,(wT.output.trans AU.output).trans rfl⟩
  obtain⟨jo,hX⟩:=hM.move (w':=(w.drew.setCells b (aq+(i+1)*2) (cs.drop (i*2))).setCells b (aq+i*2) vv) (m1:=[.aS,.aS]) (D:=λid=>id=0\/id=1) (esz:=2) (E:=aa (S.take i++e::S.drop i)) (l:=⟨b,aq,S.length+1,cap⟩) (src:=λ_ _=>.sub 0 0 0)
   pX jv (by rw[hT.size];exact Ym _) hT.os hT.tape hT.output (λx hx dh=>hT.heap x (λhe=>dh 0 (.inl rfl) Ot (by rw[P0];exact he.symm)))
   (λ_=>⟨by rw[hT.size];exact Va,.inr ⟨0,.inl rfl,Ot,by rw[P0]⟩⟩) Ib oi U8 EP
   (λg _=>⟨c2,wV,by rw[ES,LD];exact Dp,D3 _ ⟨b,aq,S.length+1,cap⟩ c2 g (λk hk=>by
    show c2[aq+k]? =_;rw[oW,if_neg (by rw[BW];omega),kM,if_neg om,V5 _ om]) (λk hk=>by
    show c2[aq+(i*2+k)]? =_;rw[oW,if_pos (by rw[BW];omega),show aq+(i*2+k)-(aq+i*2)=k by omega]) (λk hk=>by
    show c2[aq+((i+1)*2+k)]? =_;rw[oW,if_neg (by rw[BW];omega),kM,if_pos (by rw[mw];omega),show aq+((i+1)*2+k)-(aq+(i+1)*2)=k by omega,D4])⟩)
   (λk EX j s el hk hj=>(js k EX j s el hk hj).elim) (λ_ _ _ _ _⟨EX,s,el,hk,hj⟩ _=>(js _ EX _ s el hk hj).elim)
  refine⟨_,_,_,_,rfl,⟨rfl,rfl⟩,jo,?_,hX⟩;refine⟨by simp[bI.move,Yq],?_⟩
  have m6:(ρ.move ⟨b,aq,S.length+1,cap⟩ λ_ _=>.sub 0 0 0).aI (.aj 2)=⟨b,aq,S.length+1,cap⟩:=by simp[bI.move,Yq]
  rw[m6];exact⟨aaj _,Ym _,oi,U8,_,rfl,λ_=>aE⟩
 ·
  have zi:=D2 b aq S.length cap i vb Ao U9 cs vv w hi om om om iB BW Bg Bh Tr Ts;refine zi.mono ?_;rintro e' w' ⟨rfl,rfl⟩;have hGn:S.length+1<=grownCap w (S.length+1) cap 206:=grownCap_ge w _ _ _;have hGm:grownCap w (S.length+1) cap 206<=maxLen:=grownCap_le_maxLen w (S.length+1) cap 206 (by unfold maxLen;omega)
  generalize grownCap w (S.length+1) cap 206=G at*
  obtain⟨ROW,Gz⟩:∃ROW:Array Value,ROW=(cs.take (i*2)).toArray++Builtin.zeroCells vV.cells (S.length+1-i)++Builtin.zeroCells vV.cells (G-(S.length+1)):=⟨_,rfl⟩;rw[<-Gz];have hRs:ROW.size=G*2:=by rw[Gz];simp[Builtin.zeroCells,Value.cells,vV,aaA,iB];omega
  have hRg:∀k,k<i*2->ROW[k]? =cs[k]? :=λk hk=>by
   rw[Gz,Array.append_assoc,acY (by simp[iB];omega)]
   simp[aaM,hk]
  have hA:eN w (w.alloc (.cells ROW 206)).drew:=(eN.alloc w _).trans (eN.drew _);obtain⟨c1,CA,AU,LD,kM⟩:=ja (mk:=(2:Nat)=1) vv (i*2) (w.alloc (.cells ROW 206)).drew ROW ((mE.new w ROW 206).dC rfl) (by rw[BW];omega)
  obtain⟨c2,wV,wT,ES,oW⟩:=ja (mk:=(2:Nat)=1) (cs.drop (i*2)) ((i+1)*2) ((w.alloc (.cells ROW 206)).drew.setCells w.heap.size (i*2) vv).drew c1 (CA.dC rfl) (by rw[mw];omega)
  have dk:w.heap.size<((((w.alloc (.cells ROW 206)).drew.setCells w.heap.size (i*2) vv).drew).setCells w.heap.size ((i+1)*2) (cs.drop (i*2))).heap.size:=by rw[wT.size];show w.heap.size<((w.alloc (.cells ROW 206)).drew.setCells w.heap.size (i*2) vv).heap.size;rw[AU.size];show w.heap.size<(w.alloc (.cells ROW 206)).heap.size;simp
  obtain⟨jo,hX⟩:=hM.move (w':=(((w.alloc (.cells ROW 206)).drew.setCells w.heap.size (i*2) vv).drew).setCells w.heap.size ((i+1)*2) (cs.drop (i*2))) (m1:=[.aS,.aS]) (D:=λid=>id=0\/id=1) (esz:=2) (E:=aa (S.take i++e::S.drop i)) (l:=⟨w.heap.size,0,S.length+1,G⟩) (src:=λ_ _=>.sub 0 0 0)
   pX jv (Nat.le_of_lt dk) ((wT.os.trans AU.os).trans rfl) ((wT.tape.trans AU.tape).trans rfl) ((wT.output.trans AU.output).trans rfl)
   (λx hx _=>((wT.heap x om).trans (AU.heap x om)).trans (hA.heap x hx))
   (λ_=>⟨dk,.inl (Ym _)⟩) Ib hGn hGm EP
   (λg _=>⟨c2,wV,by rw[ES,LD,hRs];show 0+G*2<=G*2;omega,D3 _ ⟨w.heap.size,0,S.length+1,G⟩ c2 g (λk hk=>by
    show c2[0+k]? =_;rw[aaP,oW,if_neg om,kM,if_neg om,hRg _ hk]) (λk hk=>by
    show c2[0+(i*2+k)]? =_;rw[aaP,oW,if_neg om,kM,if_pos (by rw[BW];omega),show i*2+k-i*2=k by omega]) (λk hk=>by
    show c2[0+((i+1)*2+k)]? =_;rw[aaP,oW,if_pos (by rw[mw];omega),show(i+1)*2+k-(i+1)*2=k by omega,D4])⟩)
   (λk EX j s el hk hj=>(js k EX j s el hk hj).elim) (λ_ _ _ _ _⟨EX,s,el,hk,hj⟩ _=>(js _ EX _ s el hk hj).elim)
  refine⟨_,_,_,_,rfl,⟨rfl,rfl⟩,jo,?_,hX⟩;refine⟨by simp[bI.move,Yq],?_⟩
  have m6:(ρ.move ⟨w.heap.size,0,S.length+1,G⟩ λ_ _=>.sub 0 0 0).aI (.aj 2)=⟨w.heap.size,0,S.length+1,G⟩:=by simp[bI.move,Yq]
  rw[m6];exact⟨aaj _,Ym _,hGn,hGm,_,rfl,λ_=>aE⟩
def Obj.ob(o:Obj):Ob:=⟨o.ag,o.data,o.ak,o.target,o.bp,.sl 4 (o.ar.map di.enc),o.ba,o.al,o.up⟩
theorem Vb(l:List Obj):dm l=QQ (l.map Obj.ob):=by show Dt.sl 9 (l.map Obj.enc)=Dt.sl 9 ((l.map Obj.ob).map Ob.enc);rw[abF];rfl
def kh(l:List Obj)(n p:Nat)(name:ByteArray):List Obj:=match l[n]? with
 |none=>l
 |some o=>match (l.set n {o with ak:=(iZ (name,(p:Int)) (o.ak.map oo)).map gl})[p]? with
  |none=>l
  |some q=>(l.set n {o with ak:=(iZ (name,(p:Int)) (o.ak.map oo)).map gl}).set p {q with al:=IntKind.i64.wrap (q.al+1),up:=if q.ag=2 then(n:Int)else q.up}
def Ap(b:Bool)(o:Obj)(y:List Obj)(name:ByteArray):List Obj×Int:=
 if o.ag≠2 then([],11)else if o.al=0 then([],6)else if b=false then([],7)else if fT (o.ak.map oo) name>=0 then([],7)else if o.ak.length>=8 then([],15)else(y,0)
def qp(l:List Obj)(k ag:Int):Bool:=o7 (l.map Obj.ob) k ag
def cQ(b:Bool)(l:List Obj)(cL:Int)(name:ByteArray)(bm:Int):List Obj×Int:=
 if qp l cL 0=true then(if qp l bm 0=true then(match l[cL.toNat]? with
  |none=>([],6)
  |some o=>Ap b o (kh l cL.toNat bm.toNat name) name)else([],6))else([],6)
theorem x5{l:List Obj}{k:Int}(h:k<0):qp l k 0=false:=by
 unfold qp o7;rw[decide_eq_false (by omega:¬k>=0)];rfl
theorem x6{l:List Obj}{k:Int}(h:k>=(l.length:Int)):qp l k 0=false:=by
 unfold qp o7;rw[Pj,decide_eq_false (by omega:¬k<(l.length:Int))];simp
theorem x7{l:List Obj}{n:Nat}(hn:n<l.length)(h:l[n].ag=0):qp l n 0=false:=by unfold qp o7;rw[Y6,Tm,vU hn];have:l[n].ob.ag=0:=h;simp[this]
theorem x8{l:List Obj}{n:Nat}(hn:n<l.length)(h:l[n].ag≠0):qp l n 0=true:=by unfold qp o7;rw[Y6,Tm,vU hn,Pj];have:l[n].ob.ag≠0:=h;simp[this,hn]
theorem jc{l:List Obj}{k:Nat}(h:k<l.length):dD (l.map Obj.enc) (k:Nat)=some [.val (.int .i64 l[k].ag),.sl 1 l[k].data,.sl 2 l[k].ak,.val (.string l[k].target),.val (.int .i64 l[k].bp),.sl 4 (l[k].ar.map di.enc),.val (.int .i64 l[k].ba),.val (.int .i64 l[k].al),.val (.int .i64 l[k].up)]:=by rw[bG,Tm,vU h];rfl
theorem Yu{Y:Nat->Nat}{m:Mem}{Z:Nat->Prop}{a a' b b':RV}(h1:yK Y m Z a a')(h2:yK Y m Z b b'):rK Y m Z (.bD [a,b]) (.bD [a',b']):=by
 refine .bD rfl λi r r' h3 h4=>?_
 match i with
 |0=>cases h3;cases h4;exact h1
 |1=>cases h3;cases h4;exact h2
 |n+2=>simp at h3
theorem Yv{Y:Nat->Nat}{m:Mem}{Z:Nat->Prop}{a a' b b' c c':RV}(h1:yK Y m Z a a')(h2:yK Y m Z b b')(h0:yK Y m Z c c'):rK Y m Z (.bD [a,b,c]) (.bD [a',b',c']):=by
 refine .bD rfl λi r r' h3 h4=>?_
 match i with
 |0=>cases h3;cases h4;exact h1
 |1=>cases h3;cases h4;exact h2
 |2=>cases h3;cases h4;exact h0
 |n+3=>simp at h3
theorem p6{p Q:Nat}{l:List Obj}{k:Nat}{o:Obj}(hk:k<l.length):aV (bQ p Q 0 l) k (kY p Q k o)=bQ p Q 0 (l.set k o):=by
 rw[aY];apply abr;intro i;rw[gv,aaP];by_cases h:k=i
 .subst h;rw[TH (by rw[gu];exact hk),TH hk]
  rfl
 .rw[U7 h,U7 h,gv,aaP]
theorem GB{p Q Q':Nat}{l:List Obj}{o:Obj}(hp:l[p]? =some o):aV (bQ p Q 0 l) p (kY p Q' p o)=bQ p Q' 0 l:=by
 have jZ:=(Km.1 hp).1;rw[aY];apply abr;intro i;rw[gv,aaP];by_cases h:p=i
 .subst h;rw[TH (by rw[gu];exact jZ),hp]
  rfl
 .rw[U7 h,gv,aaP];cases l[i]? with
  |none=>rfl
  |some x=>
   have h2:¬i=p:=λe=>h e.symm
   simp only[aaD,kY,if_neg h2]
theorem IC{m:Mem}{Z:Nat->Prop}{pp:Option Nat}{id p Q:Nat}{l:List Obj}{o:Obj}{E:List (List Dt)}(hz:Z id)(hm:m[id]? =some (.row 9 (bQ p Q 0 l)))(hzq:Z Q)(hq:m[Q]? =some (.row 2 (aa E)))(hp:l[p]? =some o):
  d5 m Z pp (.row id 9 0 none) (dm (l.set p {o with ak:=E})):=by
 have jZ:=(Km.1 hp).1;have key:∀(i:Nat)cs es,(bQ p Q 0 l)[i]? =some cs->((l.set p {o with ak:=E}).map Obj.enc)[i]? =some es->kN m Z (some id) cs es:=by
  intro i cs es h1 h2;rw[gv,aaP]at h1;rw[Tm]at h2;by_cases h:p=i
  .subst h;rw[TH jZ]at h2;rw[hp]at h1;cases h1;cases h2;simp only[kY,if_pos,Obj.enc];exact .cons (.ah _) (.cons (.ah _) (.cons (d5.fl hzq hq 0 none) (.cons (.ah _) (.cons (.ah _) (.cons (.ah _) (.cons (.ah _) (.cons (.ah _) (.cons (.ah _) .nil))))))))
  .rw[U7 h]at h2;cases hx:l[i]? with
   |none=>rw[hx]at h1;cases h1
   |some x=>
    rw[hx]at h1 h2;cases h1;cases h2;have h3:¬i=p:=λe=>h e.symm
    simp only[kY,if_neg h3,Obj.enc];exact .cons (.ah _) (.cons (.ah _) (.cons (.ah _) (.cons (.ah _) (.cons (.ah _) (.cons (.ah _) (.cons (.ah _) (.cons (.ah _) (.cons (.ah _) .nil))))))))
 exact d5.row id 9 0 none _ _ hz hm (by rw[gu,Pj,aaF]) (λi cs es h1 h2=>(key i cs es h1 h2).len) (λi cs es j c d h1 h2 h3 h4=>(key i cs es h1 h2).get j c d h3 h4)
theorem KA(S:List (List Dt))(e:List Dt)(i:Nat)(hi:i<=S.length)(hl:S.length<=4194304){m:Mem}{K:CV->Mem->Prop}(a b:Nat)(EV:fJ [a,b]=true)(aC:eP m.length [a,b]=true)(ha:cF m a=some (.row 2 (aa S)))(hb:cF m b=some (.row 2 (aa [e])))(h:K (.rv (.one (.row m.length 2 0 none))) (c6 m [a,b] [.aS,.aS,.row 2 (aa (S.take i++e::S.drop i))])):ap prog 140 [.rv (.one (.row a 2 0 none)),am .i64 (i:Nat),.rv (.one (.row b 2 0 none))] m K:=by
 by_cases oP:i<S.length
 .refine bu [a,b] m.length rfl rfl EV aC (args0:=[.rv (.one (.row 0 2 0 none)),am .i64 (i:Nat),.rv (.one (.row 1 2 0 none))]) rfl (m0:=[.row 2 (aa S),.row 2 (aa [e])]) (λi b' hi=>?_) (Kz S e i oP hl) (λr1 m1 hr=>?_)
  .match i,hi with
   |0,hi=>cases hi;exact .inr ⟨λh=>h,_,by rw[aT]at ha;exact ha,.bL rfl⟩
   |1,hi=>cases hi;exact .inr ⟨λh=>h,_,by rw[aT]at hb;exact hb,.bL rfl⟩
   |n+2,hi=>simp at hi
  .obtain⟨rfl,rfl⟩:=hr;refine⟨aE,?_⟩;show K (.rv (.one (.row (m.length+(2-2)) 2 0 none))) (c6 m [a,b] [.aS,.aS,.row 2 ((aa (S.take i++e::S.drop i)).map (λcs=>cs.map (CC.bb (sg [a,b] m.length))))])
   rw[iy];exact h
 .have:i=S.length:=om;subst this;refine U5 S e hl a b EV aC ha hb ?_;rw[aaV,List.drop_length]at h;exact h
end Go.Proofs.YtodckkkbiidffaaGreatDoor
