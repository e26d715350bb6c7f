/- Part 13 of 16. -/
import Derived.Test.YtodckkkbiidffaaGreatDoorH11
import Derived.Test.YtodckkkbiidffaaGreatDoorH12
import Derived.Test.YtodckkkbiidffaaGreatDoorRows
import Derived.Shelf.Strings.Search3
import Derived.Shelf.Strings.OnBuilder
import Derived.RangeFuncNested
import Derived.RangeFuncCalls
import Derived.Shelf.Abstract
import Derived.WalkKit
import Derived.OwnWalkIn
import Derived.TacticsInMore
import Derived.LoopNIn
import Derived.LoopIn
import Derived.Shelf.Spec.SlicesInsert
import Derived.Lib.AppendZerosOnto
import Derived.Laws.NewBlocks
set_option linter.unusedVariables false
set_option linter.unusedSimpArgs false
set_option maxRecDepth 100000
set_option maxHeartbeats 0
namespace Go.Proofs.YtodckkkbiidffaaGreatDoor
open Proofs.Tryz
open Go.AM Go.ChangeShapes Go.WideShapes Go.ChangeAt Go.RowKit
def c54:LF:= ⟨9,[.tmp 2],(.seq (.ai [qu 2 (.aI (qb false))]) (.seq (.ai [qm 3 0,qu 4 (.aJ .geq 3 (qi 0)),qm 5 4,qg 6 (.aI 0) 5 true,qg 7 (.aJ .leq 6 (qi 4095)) 5 true,qu 8 (.pick 5 7 (qb false)),qm 2 8]) .ret))⟩
def c61:LF:= ⟨24,[.tmp 4,.tmp 5,.tmp 6],(.seq (.ai [qu 4 (.aI qe),qu 5 (.aI (qi 0)),qu 6 (.aI (qi 0))]) (.seq (.ai [qm 10 0,qm 11 1,qu 12 (qc 73 [10,11]),qm 9 12,qu 13 (.ext 9 0),qu 14 (.ext 9 1),qu 7 (.alloc [qd 0,qd 0]),qw (.store 2 7 13),qm 8 14]) (.seq (.seq (.ai [qm 15 8,qu 16 (.aJ .neq 15 (qi 0))]) (.cond 16 (.seq (.ai [qm 17 8,qu 4 (.aI qe),qu 5 (.aI (qi 0)),qm 6 17]) .ret) .skip)) (.seq (.ai [qm 18 0,qL 19 2 7,qu 20 (qc 76 [18,19]),qu 21 (.ext 20 0),qu 22 (.ext 20 1),qu 23 (.ext 20 2),qm 4 21,qm 5 22,qm 6 23]) .ret))))⟩
def c73:LF:= ⟨28,[.cell true 2 4,.tmp 5],(.seq (.ai [qu 4 (.alloc [qd 0,qd 0]),qu 5 (.aI (qi 0))]) (.seq (.seq (.ai [qm 6 1,qu 7 (.aJ .lss 6 (qi 0)),qm 8 7,qg 9 (.aI 1) 8 false,qg 10 (.aI 0) 8 false,qg 11 (.len 1 10) 8 false,qg 12 (.aJ .geq 9 11) 8 false,qu 13 (.pick 8 (qb true) 12),qm 14 13,qg 15 (.aI 0) 14 false,qg 16 (.aI 1) 14 false,qg 17 (.cr 3 15 16) 14 false,qg 18 (.bU 0 17) 14 false,qg 19 (.load false 1 18) 14 false,qg 20 (.un .not 19) 14 false,qu 21 (.pick 14 (qb true) 20)]) (.cond 21 (.seq (.ai [qu 22 (.build [qd 0,qd 0] []),qw (.store 2 4 22),qu 5 (.aI (qi 6))]) .ret) .skip)) (.seq (.ai [qm 23 0,qm 24 1,qu 25 (.cr 3 23 24),qf 26 1 25,qL 27 2 26,qw (.store 2 4 27),qu 5 (.aI (qi 0))]) .ret)))⟩
def c76:LF:= ⟨44,[.tmp 4,.tmp 5,.tmp 6],(.seq (.ai [qu 3 (.box 1),qu 4 (.aI qe),qu 5 (.aI (qi 0)),qu 6 (.aI (qi 0))]) (.seq (.seq (.ai [qf 9 1 3,ql 10 9,qu 11 (qc 54 [10]),qu 12 (.un .not 11),qm 13 12,qg 14 (.bU 0 3) 13 false,qg 15 (.load false 1 14) 13 false,qg 16 (.aJ .lss 15 (qi 0)) 13 false,qu 17 (.pick 13 (qb true) 16)]) (.cond 17 (.seq (.ai [qu 4 (.aI qe),qu 5 (.aI (qi 0)),qu 6 (.aI (qi 3))]) .ret) .skip)) (.seq (.ai [qm 18 0,qu 19 (qc 116 [18,(.c (.rv (.one (.fn 117 []))))]),qm 7 19]) (.seq (.seq (.ai [qm 20 7,qu 21 (.aJ .lss 20 (qi 0))]) (.cond 21 (.seq (.seq (.ai [qm 22 0,qu 23 (.len 1 22),qu 24 (.aJ .geq 23 (qi 10))]) (.cond 24 (.seq (.ai [qu 4 (.aI qe),qu 5 (.aI (qi 0)),qu 6 (.aI (qi 15))]) .ret) .skip)) (.ai [qm 25 0,qu 26 (.len 1 25),qm 7 26])) .skip)) (.seq (.ai [qm 27 0,qu 28 (qc 100 [27]),qm 8 28]) (.seq (.seq (.ai [qm 29 7,qm 30 8,qu 31 (.len 1 30),qu 32 (.aJ .eql 29 31)]) (.cond 32 (.ai [qm 33 8,qu 34 (.build [(.ah (.val (.bool false))),qd 0,qd 0] []),qu 35 (.nw 3 [(.ah (.val (.bool false))),qd 0,qd 0] 1 [(0,34)]),qu 36 (.ov 3 24 33 35),qm 8 36]) .skip)) (.seq (.ai [qm 37 8,qm 38 7,qL 39 2 3,qu 40 (.build [(.ah (.val (.bool false))),qd 0,qd 0] [(0,1,qb true),(1,2,39)]),qu 41 (.cr 3 37 38),qw (.store 3 41 40)]) (.seq (.ai [qm 42 8,qm 43 7,qm 4 42,qm 5 43,qu 6 (.aI (qi 0))]) .ret))))))))⟩
def c116:LF:= ⟨19,[.tmp 4],(.seq (.ai [qu 4 (.aI (qi 0))]) (.seq (.seq (.ai [qm 6 0,qu 7 (.len 1 6),qu 8 (.aI (qi 0))]) (.block 0 (.loop (.seq (.ai [qu 9 (.aJ .lss 8 7)]) (.seq (.cond 9 .skip (.exit 0)) (.seq (.block 1 (.seq (.ai [qm 10 8,qm 5 10]) (.seq (.ai [qm 11 1,qm 12 0,qm 13 5,qu 14 (.cr 3 12 13),qL 15 3 14,qu 16 (.call 11 [15])]) (.cond 16 (.seq (.ai [qm 17 5,qm 4 17]) .ret) .skip)))) (.ai [qu 18 (.aJ .add 8 (qi 1)),qm 8 18]))))))) (.seq (.ai [qu 4 (.aI (qi (-1)))]) .ret)))⟩
def c117:LF:= ⟨6,[.tmp 2],(.seq (.ai [qu 1 (.box 0),qu 2 (.aI (qb false))]) (.seq (.ai [qf 3 0 1,ql 4 3,qu 5 (.un .not 4),qm 2 5]) .ret))⟩
namespace Tb
structure Cap where
 dS:Int
 cj:Int
 deriving DecidableEq
structure bY where
 has:Bool
 cap:Cap
 deriving DecidableEq
def bY.enc(s:bY):List Dt:=[.val (.bool s.has),.val (.int .i64 s.cap.dS),.val (.int .i64 s.cap.cj)]
def qQ(l:List bY):Dt:= .sl 3 (l.map bY.enc)
def dU(l:List bY):CV:= .rv (.one (.ah (qQ l)))
def Cap.rv(c:Cap):RV:= .agg [.ah (.val (.int .i64 c.dS)),.ah (.val (.int .i64 c.cj))]
def cG(n:Int):RV:= .one (.ah (.val (.int .i64 n)))
theorem l73:bw prog f73=some c73:=by kernel_rfl
def eA(l:List bY)(fd:Int):Cap×Int:=
 match (if 0<=fd then l[fd.toNat]? else none)with
 |some s=>if s.has then(s.cap,0)else(⟨0,0⟩,6)
 |none=>(⟨0,0⟩,6)
theorem M8(l:List bY)(fd:Int):body prog c73 [dU l,an .i64 fd] [] (λr m=>r= .bz [(eA l fd).1.rv,cG (eA l fd).2]):=by
 refine aM (λh=>?_) (λh=>?_)
 .have h:fd<0:=of_decide_eq_true h;show CV.bz _=CV.bz _;rw[eA,if_neg om];rfl
 .have h:¬fd<0:=of_decide_eq_false h;refine aM (λh2=>?_) (λh2=>?_)
  .have h2:fd>=((l.map bY.enc).length:Int):=of_decide_eq_true h2;simp at h2;show CV.bz _=CV.bz _;rw[eA,if_pos om,aaz om];rfl
  .have h2:¬fd>=((l.map bY.enc).length:Int):=of_decide_eq_false h2;simp at h2;have aD:fd.toNat<l.length:=om;have hg:dC (l.map bY.enc) fd=some (l[fd.toNat].enc):=by rw[Hr,if_pos om,Sf,vl aD];rfl
   have hs:eA l fd=if l[fd.toNat].has then(l[fd.toNat].cap,0)else(⟨0,0⟩,6):=by rw[eA,if_pos om,vl aD]
   refine af hg ?_;refine aM (λh3=>?_) (λh3=>?_)
   .have h3:l[fd.toNat].has=false:=by simpa using h3
    show CV.bz _=CV.bz _;rw[hs,h3];rfl
   .have h3:l[fd.toNat].has=true:=by simpa using h3
    refine af hg ?_;show CV.bz _=CV.bz _;rw[hs,h3];rfl
theorem w8(l:List bY)(fd:Int){m:Mem}{K:CV->Mem->Prop}(h:K (.bz [(eA l fd).1.rv,cG (eA l fd).2]) m):ap prog 73 [dU l,an .i64 fd] m K:=
 bA func73 l73 rfl (aah rfl) (M8 l fd) rfl rfl h
theorem l100:bw prog f100=some c100:=by kernel_rfl
theorem l54:bw prog f54=some c54:=by kernel_rfl
theorem l116:bw prog f116=some c116:=by kernel_rfl
theorem l117:bw prog f117=some c117:=by kernel_rfl
def fa(n:Int):Bool:=decide (n>=0)&&decide (n<=4095)
theorem Fx(n:Int):body prog c54 [an .i64 n] [] (λr m=>r=aE (fa n)):=by
 refine aM (λh=>?_) (λh=>?_)
 .show aE _=aE _;unfold fa;rw[h];rfl
 .show aE _=aE _;unfold fa;rw[h];rfl
theorem w9(n:Int){m:Mem}{K:CV->Mem->Prop}(h:K (aE (fa n)) m):ap prog 54 [an .i64 n] m K:=
 bA func54 l54 rfl (aah rfl) (Fx n) rfl rfl h
def bY.cv(s:bY):CV:= .rv (.agg (s.enc.map .ah))
theorem tR(s:bY):body prog c117 [s.cv] [] (λr m=>r=aE (!s.has)):=by show aE _=aE _;rfl
theorem A8(s:bY){m:Mem}{K:CV->Mem->Prop}(h:K (aE (!s.has)) m):ap prog 117 [s.cv] m K:=
 bA func117 l117 rfl (aah rfl) (tR s) rfl rfl h
def uW{α:Type}(p:α->Bool)(l:List α):Int:=match l.findIdx? p with|some i=>(i:Int)|none=>-1
theorem Fy(l:List bY)(hb:l.length<=2097152)(f:Nat)(p:bY->Bool)(hf:∀(s:bY)(m:Mem)(K:CV->Mem->Prop),K (aE (p s)) m->ap prog f [s.cv] m K):
  body prog c116 [dU l,.rv (.one (.fn f []))] [] (λr m=>r=an .i64 (uW p l)):=by
 refine Mm (λk=>k<=l.length/\∀(i:Nat)s,i<k->l[i]? =some s->p s=false) (λk=>[(8,an .i64 (k:Nat)),(5,.aF),(9,.aF),(10,.aF),(11,.aF),(12,.aF),(13,.aF),(14,.aF),(15,.aF),(16,.aF),(17,.aF),(18,.aF)])
  (λ_=>[]) (λk=>l.length-k) 0 ⟨aan _,λi s h=>absurd h (aaR i)⟩ (CH (aan _) ?_) (λk hk=>?_)
 .repeat(first|exact .nil|refine .aF ?_|refine .eN ?_)
 .refine aM (λh=>?_) (λh=>?_)
  .have aD:k<l.length:=by have h:(k:Int)<((l.map bY.enc).length:Int):=of_decide_eq_true h;simp at h;omega
   have hg:dC (l.map bY.enc) (k:Nat)=some (l[k].enc):=by rw[bD,Sf,vl aD];rfl
   refine af hg ?_;refine hf l[k] _ _ ?_;refine aM (λh3=>?_) (λh3=>?_)
   .show an _ _=an _ _;have:l.findIdx? p=some k:=by
     rw[aaO];refine⟨aD,h3,λj hj=>?_⟩
     have:=hk.2 j l[j] hj (vl om);simp[this]
    rw[uW,this]
   .refine⟨k+1,⟨aD,λi s hi hs=>?_⟩,?_,CH (aan _) ?_⟩
    .rcases aaf i k with h5|h5
     .exact hk.2 i s h5 hs
     .have:i=k:=om;subst this;rw[vl aD]at hs;cases hs;exact h3
    .show l.length-(k+1)<l.length-k;omega
    .repeat(first|exact .nil|refine .aF ?_|refine .put (cP om) ?_|refine .eN ?_)
  .have ek:¬(k:Int)<((l.map bY.enc).length:Int):=of_decide_eq_false h;simp at ek;show an _ _=an _ _;have:l.findIdx? p=none:=by rw[acz];intro s hs;obtain⟨i,hi⟩:=X1 hs;have:=(JJ.1 hi).1;simpa using hk.2 i s om hi
   rw[uW,this]
theorem M9(l:List bY)(hb:l.length<=2097152)(f:Nat)(p:bY->Bool)(hf:∀(s:bY)(m:Mem)(K:CV->Mem->Prop),K (aE (p s)) m->ap prog f [s.cv] m K){m:Mem}{K:CV->Mem->Prop}(h:K (an .i64 (uW p l)) m):ap prog 116 [dU l,.rv (.one (.fn f []))] m K:=
 bA func116 l116 rfl (aah rfl) (Fy l hb f p hf) rfl rfl h
def cm(l:List bY):List (List CC):=(l.map bY.enc).map λds=>ds.map CC.ah
theorem De(l:List bY)(hb:l.length<=2097152):body prog c100 [dU l] [] (λr m=>(l=[]/\r= .rv (.one .aK))\/(r= .rv (.one (.row 1 3 0 none))/\m[1]? =some (.row 3 ([]++cm l)))):=by
 have ta:((([]:List (List CC)).length+((l.map bY.enc).map λds=>ds.map CC.ah).length)*24)<=140737488355328:=by simp;omega
 refine aM (λh=>?_) (λh=>?_)
 .have hl:l=[]:=aai (by simpa using aam h)
  exact⟨.inl ⟨hl,rfl⟩,ta,.inr ⟨rfl,rfl⟩⟩
 .exact⟨ta,.inr ⟨rfl,rfl⟩⟩
theorem pG(l:List bY)(hb:l.length<=2097152){m:Mem}{K:CV->Mem->Prop}(h1:l=[]->K (.rv (.one .aK)) m)(h2:K (.rv (.one (.row m.length 3 0 none))) (m++ [.row 3 (cm l)])):
  ap prog 100 [dU l] m K:=by
 refine Jc (aZ func100 l100 (De l hb)) (by simp[dU,CV.dv,CC.dv]) λr m1 hr=>?_
 rcases hr with⟨hl,rfl⟩|⟨rfl,hm⟩
 .exact .inl ⟨rfl,h1 hl⟩
 .refine .inr ⟨1,3,cm l,rfl,by simpa using hm,λcs eC c hc=>?_,λi cs j d hi hj=>?_,h2⟩
  .simp only[cm,aas]at eC;obtain⟨ds,⟨s,_,rfl⟩,rfl⟩:=eC;obtain⟨d,_,rfl⟩:=aas.1 hc;exact⟨d,rfl⟩
  .have eC:=Sj hi;simp only[cm,aas]at eC;obtain⟨ds,⟨s,_,rfl⟩,rfl⟩:=eC;have hd:=Sj hj;simp only[bY.enc,aaJ,ac7,aaB,CC.ah.injEq,acC,or_false]at hd;rcases hd with rfl|rfl|rfl<;>exact⟨_,rfl⟩
theorem l76:bw prog f76=some c76:=by kernel_rfl
def iO(l:List bY)(c:Cap):List bY×Int×Int:=
 if fa c.cj=false\/c.dS<0 then([],0,3)else
 match l.findIdx? (λs=>!s.has)with
 |some k=>(l.set k ⟨true,c⟩,k,0)
 |none=>if l.length>=10 then([],0,15)else(l++ [⟨true,c⟩],l.length,0)
def jx(l:List bY):RV:= .one (.ah (qQ l))
theorem mj{m:Mem}{a b:RV}{x y:Int}(h:eP m a b):cL m (.bz [a,cG x,cG y]) (.bz [b,cG x,cG y]):=by
 refine .bz rfl λi r r' h1 h2=>?_
 match i,h1,h2 with
 |0,h1,h2=>cases h1;cases h2;exact h
 |1,h1,h2=>cases h1;cases h2;exact eP.self rfl
 |2,h1,h2=>cases h1;cases h2;exact eP.self rfl
theorem HM{l:List bY}{c:Cap}{m:Mem}(h:fa c.cj=false\/c.dS<0):cL m (.bz [.one .aK,cG 0,cG 3]) (.bz [jx (iO l c).1,cG (iO l c).2.1,cG (iO l c).2.2]):=by rw[iO,if_pos h];exact mj (.one (.aK 3))
theorem Na{l:List bY}{c:Cap}{m:Mem}(h:¬(fa c.cj=false\/c.dS<0))(hk:l.findIdx? (λs=>!s.has)=none)(hl:l.length>=10):
  cL m (.bz [.one .aK,cG 0,cG 15]) (.bz [jx (iO l c).1,cG (iO l c).2.1,cG (iO l c).2.2]):=by
 rw[iO,if_neg h,hk];simp only;rw[if_pos hl];exact mj (.one (.aK 3))
theorem HN{l:List bY}{c:Cap}{m:Mem}{id:Nat}(h:¬(fa c.cj=false\/c.dS<0))(hk:l.findIdx? (λs=>!s.has)=none)(hl:¬l.length>=10)(hm:m[id]? =some (.row 3 (cm (l++ [⟨true,c⟩])))):
  cL m (.bz [.one (.row id 3 0 none),cG ((l.map bY.enc).length:Nat),cG 0]) (.bz [jx (iO l c).1,cG (iO l c).2.1,cG (iO l c).2.2]):=by
 rw[iO,if_neg h,hk,Nr];simp only;rw[if_neg hl];exact mj (.one (eV.eW hm 0 none))
theorem Qg{l:List bY}{c:Cap}{m:Mem}{id k:Nat}(h:¬(fa c.cj=false\/c.dS<0))(hk:l.findIdx? (λs=>!s.has)=some k)(hm:m[id]? =some (.row 3 (cm (l.set k ⟨true,c⟩)))):
  cL m (.bz [.one (.row id 3 0 none),cG k,cG 0]) (.bz [jx (iO l c).1,cG (iO l c).2.1,cG (iO l c).2.2]):=by
 rw[iO,if_neg h,hk];exact mj (.one (eV.eW hm 0 none))
theorem Nb(l:List bY)(hb:l.length<=2097152)(c:Cap):body prog c76 [dU l,.rv c.rv] [] (λr m=>cL m r (.bz [jx (iO l c).1,cG (iO l c).2.1,cG (iO l c).2.2])):=by
 refine w9 c.cj ?_;refine aM (λh=>?_) (λhr=>?_)
 .exact HM (.inl (by simpa using h))
 .refine aM (λh=>?_) (λho=>?_)
  .exact HM (.inr (of_decide_eq_true h))
  .have fl:¬(fa c.cj=false\/c.dS<0):=by have:=of_decide_eq_false ho;simp at hr;simp[hr];omega
   refine M9 l hb 117 (λs=>!s.has) (λs m K h=>A8 s h) ?_
   cases hk:l.findIdx? (λs=>!s.has)with
   |none=>
    have hi:uW (λs:bY=>!s.has) l= -1:=by rw[uW,hk]
    rw[hi];refine aM (λh=>?_) (λh=>?_)
    .have ek:l.length>=10:=by have h:=of_decide_eq_true h;simp at h;omega
     exact Na fl hk ek
    .have aD:¬l.length>=10:=by have h:=of_decide_eq_false h;simp at h;omega
     refine pG l hb (λhl=>?_) ?_
     .subst hl;refine⟨by decide,?_⟩
      exact HN fl hk aD rfl
     .refine cE (by simp[cm,lenOf]) ?_
      refine⟨by simp[cm,bV];omega,?_⟩
      have hlen:(cm l).length=l.length:=by simp[cm]
      refine af (ct (k:=(l.map bY.enc).length) (by simp[cm,lenOf,bV])) ?_
      refine af (x:=[CC.ah (.val (.bool false)),CC.ah (.val (.int .i64 0)),CC.ah (.val (.int .i64 0))]) (by simp[aT,cm,bV,iB]) ?_
      refine HN (id:=3) fl hk aD ?_;refine congrArg (λx=>some (Bk.row 3 x)) ?_
      show aW (cm l++ [[CC.ah (.val (.bool false)),CC.ah (.val (.int .i64 0)),CC.ah (.val (.int .i64 0))]]) (l.map bY.enc).length [CC.ah (.val (.bool true)),CC.ah (.val (.int .i64 c.dS)),CC.ah (.val (.int .i64 c.cj))]=_;rw[aY,Nr,<-hlen,ac3 _ _ (T5 _),acA];simp[cm,bY.enc]
   |some k=>
    have hi:uW (λs:bY=>!s.has) l=(k:Int):=by rw[uW,hk]
    have gj:k<l.length:=(aaO.1 hk).1;rw[hi];refine pG l hb (λhl=>?_) ?_
    .subst hl;simp at gj
    .have hlen:(cm l).length=l.length:=by simp[cm]
     refine rP (by simp[hlen,lenOf];omega) ?_
     refine af (ct (k:=k) (by simp[hlen,lenOf];omega)) ?_
     refine af (x:=(l[k].enc).map .ah) (by simp[aT,cm,iB,gj]) ?_
     refine Qg (id:=1) fl hk ?_;refine congrArg (λx=>some (Bk.row 3 x)) ?_
     show aW (cm l) k [CC.ah (.val (.bool true)),CC.ah (.val (.int .i64 c.dS)),CC.ah (.val (.int .i64 c.cj))]=_;rw[aY];simp[cm,bY.enc]
theorem Nc(l:List bY)(hb:l.length<=2097152)(c:Cap){m:Mem}{K:CV->Mem->Prop}(h:K (.bz [jx (iO l c).1,cG (iO l c).2.1,cG (iO l c).2.2]) m):ap prog 76 [dU l,.rv c.rv] m K:=
 be (aZ func76 l76 (Nb l hb c)) (by simp[dU,Cap.rv,CV.dv,CC.dv]) λr m1 hf=>⟨_,hf,h⟩
theorem l61:bw prog f61=some c61:=by kernel_rfl
def tS(l:List bY)(fd:Int):List bY×Int×Int:=if(eA l fd).2=0 then iO l (eA l fd).1 else([],0,(eA l fd).2)
theorem Nd(l:List bY)(hb:l.length<=2097152)(fd:Int):body prog c61 [dU l,an .i64 fd] [] (λr m=>cL m r (.bz [jx (tS l fd).1,cG (tS l fd).2.1,cG (tS l fd).2.2])):=by
 refine w8 l fd ?_;refine aM (λh=>?_) (λh=>?_)
 .have h:¬(eA l fd).2=0:=by simpa using h
  rw[tS,if_neg h];exact mj (.one (.aK 3))
 .have h:(eA l fd).2=0:=by simpa using h
  rw[tS,if_pos h];refine Nc l hb (eA l fd).1 ?_;exact cL.self rfl
theorem TJ(l:List bY)(hb:l.length<=2097152)(fd:Int){m:Mem}{K:CV->Mem->Prop}(h:K (.bz [jx (tS l fd).1,cG (tS l fd).2.1,cG (tS l fd).2.2]) m):ap prog 61 [dU l,an .i64 fd] m K:=
 be (aZ func61 l61 (Nd l hb fd)) (by simp[dU,an,CV.dv,CC.dv]) λr m1 hf=>⟨_,hf,h⟩
end Tb
def c44:LF:= ⟨21,[.tmp 2],(.seq (.ai [qu 2 (.aI qe)]) (.seq (.ai [qu 3 (.aI qe)]) (.seq (.seq (.ai [qm 6 0,qu 7 (.len 1 6),qu 8 (.aI (qi 0))]) (.block 0 (.loop (.seq (.ai [qu 9 (.aJ .lss 8 7)]) (.seq (.cond 9 .skip (.exit 0)) (.seq (.block 1 (.seq (.ai [qm 10 8,qu 11 (.cr 3 6 8),qL 12 3 11,qu 5 (.alloc [(.ah (.val (.bool false))),qd 0,qd 0]),qm 4 10,qw (.store 3 5 12)]) (.seq (.ai [qf 13 0 5,ql 14 13]) (.cond 14 (.ai [qm 15 3,qm 16 4,qu 17 (.nw 1 [qd 0] 1 [(0,16)]),qu 18 (.ov 1 8 15 17),qm 3 18]) .skip)))) (.ai [qu 19 (.aJ .add 8 (qi 1)),qm 8 19]))))))) (.seq (.ai [qm 20 3,qm 2 20]) .ret))))⟩
def c60:LF:= ⟨43,[.tmp 4,.tmp 5],(.seq (.ai [qu 4 (.aI qe),qu 5 (.aI (qi 0))]) (.seq (.seq (.ai [qm 10 0,qm 11 1,qu 12 (qc 73 [10,11]),qm 9 12,qu 13 (.ext 9 0),qu 14 (.ext 9 1),qu 6 (.alloc [qd 0,qd 0]),qw (.store 2 6 13),qm 7 14]) (.seq (.ai [qm 15 7,qu 16 (.aJ .neq 15 (qi 0))]) (.cond 16 (.seq (.ai [qm 17 7,qu 4 (.aI qe),qm 5 17]) .ret) .skip))) (.seq (.ai [qm 18 0,qu 19 (qc 100 [18]),qm 8 19]) (.seq (.ai [qm 20 8,qm 21 1,qu 22 (.build [(.ah (.val (.bool false))),qd 0,qd 0] []),qu 23 (.cr 3 20 21),qw (.store 3 23 22)]) (.seq (.block 0 (.loop (.seq (.seq (.ai [qm 24 8,qu 25 (.len 1 24),qu 26 (.aJ .gtr 25 (qi 0)),qm 27 26,qg 28 (.aI 8) 27 true,qg 29 (.aI 8) 27 true,qg 30 (.len 1 29) 27 true,qg 31 (.aJ .sub 30 (qi 1)) 27 true,qg 32 (.cr 3 28 31) 27 true,qg 33 (.bU 0 32) 27 true,qg 34 (.load false 1 33) 27 true,qg 35 (.un .not 34) 27 true,qu 36 (.pick 27 35 (qb false))]) (.cond 36 .skip (.exit 0))) (.block 1 (.ai [qm 37 8,qm 38 8,qu 39 (.len 1 38),qu 40 (.aJ .sub 39 (qi 1)),qu 41 (.nT 3 37 none (some 40) none),qm 8 41]))))) (.seq (.ai [qm 42 8,qm 4 42,qu 5 (.aI (qi 0))]) .ret))))))⟩
def c96:LF:= ⟨28,[.cell true 2 6,.tmp 7],(.seq (.ai [qu 6 (.alloc [qd 0,qd 0]),qu 7 (.aI (qi 0))]) (.seq (.ai [qm 11 0,qm 12 1,qu 13 (qc 73 [11,12]),qm 10 13,qu 14 (.ext 10 0),qu 15 (.ext 10 1),qu 8 (.alloc [qd 0,qd 0]),qw (.store 2 8 14),qm 9 15]) (.seq (.seq (.ai [qm 16 9,qu 17 (.aJ .eql 16 (qi 0)),qm 18 17,qg 19 (.aI 2) 18 true,qg 20 (.bU 1 8) 18 true,qg 21 (.load false 1 20) 18 true,qg 22 (qc 101 [19,21]) 18 true,qg 23 (.un .not 22) 18 true,qu 24 (.pick 18 23 (qb false))]) (.cond 24 (.seq (.ai [qu 25 (.build [qd 0,qd 0] []),qw (.store 2 6 25),qu 7 (.aI (qi 10))]) .ret) .skip)) (.seq (.ai [qL 26 2 8,qm 27 9,qw (.store 2 6 26),qm 7 27]) .ret))))⟩
def c101:LF:= ⟨9,[.tmp 4],(.seq (.ai [qu 4 (.aI (qb false))]) (.seq (.ai [qm 5 0,qm 6 1,qu 7 (.aJ .andNot 5 6),qu 8 (.aJ .eql 7 (qi 0)),qm 4 8]) .ret))⟩
namespace Tb
theorem l101:bw prog f101=some c101:=by kernel_rfl
def g9(a b:Int):Bool:=(IntKind.i64.wrap ((BitVec.ofInt 64 a&&& ~~~ BitVec.ofInt 64 b).toNat:Int))==0
theorem zA(a b:Int){m:Mem}{K:CV->Mem->Prop}(h:K (aE (g9 a b)) m):ap prog 101 [an .i64 a,an .i64 b] m K:=
 bA (r0:=aE (g9 a b)) func101 l101 rfl (aah rfl) (show body prog c101 [an .i64 a,an .i64 b] [] (λr m=>r=aE (g9 a b))from rfl) rfl rfl h
theorem l96:bw prog f96=some c96:=by kernel_rfl
def oa(l:List bY)(fd need:Int):Cap×Int:=
 if(eA l fd).2=0/\g9 need (eA l fd).1.cj=false then(⟨0,0⟩,10)else eA l fd
theorem tT(l:List bY)(fd need:Int):body prog c96 [dU l,an .i64 fd,an .i64 need] [] (λr m=>r= .bz [(oa l fd need).1.rv,cG (oa l fd need).2]):=by
 refine w8 l fd ?_;refine aM (λh=>?_) (λh=>?_)
 .have h:(eA l fd).2=0:=by simpa using h
  refine zA _ _ ?_;refine aM (λh2=>?_) (λh2=>?_)
  .have h2:g9 need (eA l fd).1.cj=false:=by simpa using h2
   show CV.bz _=CV.bz _;rw[oa,if_pos ⟨h,h2⟩];rfl
  .have h2:g9 need (eA l fd).1.cj=true:=by simpa using h2
   show CV.bz _=CV.bz _;rw[oa,if_neg (by simp[h2])];rfl
 .have h:¬(eA l fd).2=0:=by simpa using h
  show CV.bz _=CV.bz _;rw[oa,if_neg (by simp[h])];rfl
theorem kI(l:List bY)(fd need:Int){m:Mem}{K:CV->Mem->Prop}(h:K (.bz [(oa l fd need).1.rv,cG (oa l fd need).2]) m):ap prog 96 [dU l,an .i64 fd,an .i64 need] m K:=
 bA func96 l96 rfl (aah rfl) (tT l fd need) rfl rfl h
theorem l44:bw prog f44=some c44:=by kernel_rfl
def oW(l:List Int):List (List Dt):=l.map λi=>[.val (.int .i64 i)]
def Nf(l:List Int):CV:= .rv (.one (.ah (.sl 1 (oW l))))
def pS:Nat->List bY->List Int
 |_,[]=>[]
 |k,s::r=>if s.has then(k:Int)::pS (k+1) r else pS (k+1) r
theorem sn:∀(l:List bY)(k:Nat),(pS k l).length<=l.length
 | [],k=>by simp[pS]
 |s::r,k=>by
  have:=sn r (k+1);simp only[pS];split<;>simp<;>omega
theorem zB(l:List bY)(k i:Nat)(h:i<l.length):pS k (l.take (i+1))=if l[i].has then pS k (l.take i)++ [((k+i:Nat):Int)]else pS k (l.take i):=by
 induction l generalizing k i with
 |nil=>simp at h
 |cons s r ih=>
  cases i with
  |zero=>simp[pS]
  |succ i=>
   simp at h;have:=ih (k+1) i h;rw[show k+1+i=k+(i+1) by omega]at this
   simp only[List.take_succ_cons,pS,this,List.getElem_cons_succ];split<;>split<;>simp
theorem Ng(l:List bY)(hb:l.length<=2097152):body prog c44 [dU l] [] (λr m=>cL m r (Nf (pS 0 l))):=by
 refine rW (λk=>k<=l.length) (λk=>[(8,an .i64 (k:Nat)),(3,.rv (.one (.row 0 1 0 none))),(4,.aF),(5,.aF),(9,.aF),(10,.aF),(11,.aF),(12,.aF),(13,.aF),(14,.aF),(15,.aF),(16,.aF),(17,.aF),(18,.aF),(19,.aF)])
  (λk=>[.row 1 (aa (oW (pS 0 (l.take k))))]) (λk=>l.length-k) 0 (aan _) ?_ (λk hk=>?_)
 .refine View.trans (View.aK 3 1 0 rfl rfl rfl) (View.o1 1 [0] [] ?_)
  .exact .put (by simp[bx]) rfl (.Fa (.row 1 []) aC) (.nil _)
 .refine aM (λh=>?_) (λh=>?_)
  .have aD:k<l.length:=by have h:(k:Int)<((l.map bY.enc).length:Int):=of_decide_eq_true h;simp at h;omega
   have hg:dC (l.map bY.enc) (k:Nat)=some (l[k].enc):=by rw[bD,Sf,vl aD];rfl
   refine af hg ?_;refine aM (λh3=>?_) (λh3=>?_)
   .have hlen:(pS 0 (l.take k)).length<=2097152:=by have:=sn (l.take k) 0;simp at this;omega
    refine⟨?_,?_⟩
    .show((aa (oW (pS 0 (l.take k)))).length+1)*8<=_;simp[aa,oW];omega
    .refine⟨k+1,aD,?_,View.o 4 [3] [] ?_ ?_⟩
     .show l.length-(k+1)<l.length-k;omega
     .repeat(first|exact .nil|refine .aF ?_|refine .put (.bg (cP om).symm) ?_|refine .eq rfl ?_)
     .refine .put (by simp[bx]) rfl (.bI ?_) (.nil _)
      rw[zB l 0 k aD,if_pos h3];simp[aa,oW,bV]
   .refine⟨k+1,aD,?_,View.o 2 [0] [] ?_ ?_⟩
    .show l.length-(k+1)<l.length-k;omega
    .repeat(first|exact .nil|refine .aF ?_|refine .put (.bg (cP om).symm) ?_|refine .eq rfl ?_)
    .refine .put (by simp[bx]) rfl (.bI ?_) (.nil _)
     rw[zB l 0 k aD,if_neg (by simp[h3])]
  .have ek:¬(k:Int)<((l.map bY.enc).length:Int):=of_decide_eq_false h;simp at ek;have e:l.take k=l:=ab1 ek;rw[e];exact .rv (.one (eV.eW rfl 0 none))
theorem TK(l:List bY)(hb:l.length<=2097152){m:Mem}{K:CV->Mem->Prop}(h:K (Nf (pS 0 l)) m):ap prog 44 [dU l] m K:=
 be (aZ func44 l44 (Ng l hb)) (by simp[dU,CV.dv,CC.dv]) λr m1 hf=>⟨_,hf,h⟩
theorem l60:bw prog f60=some c60:=by kernel_rfl
def zC:Nat->Nat->List bY->Nat
 |_,b,[]=>b
 |k,b,s::r=>zC (k+1) (if s.has then k+1 else b) r
theorem Fz(l:List bY)(k b i:Nat)(h:i<l.length):zC k b (l.take (i+1))=if l[i].has then k+i+1 else zC k b (l.take i):=by
 induction l generalizing k b i with
 |nil=>simp at h
 |cons s r ih=>
  cases i with
  |zero=>simp[zC]
  |succ i=>
   simp at h;have:=ih (k+1) (if s.has then k+1 else b) i h
   rw[show k+1+i=k+(i+1) by omega]at this
   simp only[List.take_succ_cons,zC,this,List.getElem_cons_succ]
def sq(l:List bY):Nat:=zC 0 0 l
theorem FA(l:List bY)(i:Nat)(h:i<l.length):sq (l.take (i+1))=if l[i].has then i+1 else sq (l.take i):=by rw[sq,Fz l 0 0 i h];simp[sq]
def tU:bY:=⟨false,⟨0,0⟩⟩
def nM(l:List bY)(fd:Int):List bY×Int:=
 if(eA l fd).2=0 then((l.set fd.toNat tU).take (sq (l.set fd.toNat tU)),0)else([],(eA l fd).2)
theorem HO{l:List bY}{fd:Int}(h:(eA l fd).2=0):∃k:Nat,fd=k/\∃hk:k<l.length,l[k].has=true/\(eA l fd).1=l[k].cap:=by
 unfold eA at h;split at h
 .rename_i s hs;split at hs
  .refine⟨fd.toNat,om,(JJ.1 hs).1,?_⟩;have e:=(JJ.1 hs).2;split at h
   .rename_i h0 hh;rw[e];refine⟨hh,?_⟩;rw[eA,if_pos h0,hs];simp[hh]
   .simp at h
  .cases hs
 .simp at h
theorem kH{m:Mem}{a b:RV}{x:Int}(h:eP m a b):cL m (.bz [a,cG x]) (.bz [b,cG x]):=by
 refine .bz rfl λi r r' h1 h2=>?_
 match i,h1,h2 with
 |0,h1,h2=>cases h1;cases h2;exact h
 |1,h1,h2=>cases h1;cases h2;exact eP.self rfl
theorem Df{m:Mem}{id h:Nat}{l:List bY}(hm:m[id]? =some (.row 3 (aa (l.map bY.enc)))):eV m (.row id 3 0 (some h)) (.ah (qQ (l.take h))):=by
 have h1:eV m (.row id 3 0 (some h)) (.ah (.sl 3 (bV (l.map bY.enc) 0 (some h)))):=eV.eW hm 0 (some h);have h2:bV (l.map bY.enc) 0 (some h)=(l.take h).map bY.enc:=by simp[bV,acx]
 rw[h2]at h1;exact h1
theorem FB(l:List bY)(hb:l.length<=2097152)(fd:Int):body prog c60 [dU l,an .i64 fd] [] (λr m=>cL m r (.bz [jx (nM l fd).1,cG (nM l fd).2])):=by
 refine w8 l fd ?_;refine aM (λh=>?_) (λh=>?_)
 .have h:¬(eA l fd).2=0:=by simpa using h
  rw[nM,if_neg h];exact kH (.one (.aK 3))
 .have h:(eA l fd).2=0:=by simpa using h
  rw[nM,if_pos h];obtain⟨k,rfl,hk,WW,_⟩:=HO h;refine pG l hb (λhl=>by subst hl;simp at hk) ?_
  refine af (ct (k:=k) (by simp[cm,lenOf];omega)) ?_
  refine af (x:=(l[k].enc).map .ah) (by simp[aT,cm,iB,hk]) ?_
  have jo:aW (cm l) (iB 0 k) [CC.ah (.val (.bool false)),CC.ah (.val (.int .i64 0)),CC.ah (.val (.int .i64 0))]=aa ((l.set k tU).map bY.enc):=by rw[aY];simp[cm,bY.enc,aa,iB,tU]
  have hlen:(l.set k tU).length=l.length:=aC;rw[show((k:Nat):Int).toNat=k from rfl];generalize l.set k tU=l2 at jo hlen;refine rW (λh=>h<=l2.length/\sq (l2.take h)=sq l2) (λh=>[(8,.rv (.one (.row 1 3 0 (some h)))),(24,.aF),(25,.aF),(26,.aF),(27,.aF),(28,.aF),(29,.aF),(30,.aF),(31,.aF),(32,.aF),(33,.aF),(34,.aF),(35,.aF),(36,.aF),(37,.aF),(38,.aF),(39,.aF),(40,.aF),(41,.aF),(19,.aF),(20,.aF),(23,.aF)])
   (λh=>[.aR,.row 3 (aa (l2.map bY.enc))]) (λh=>h) l2.length ⟨T5 _,by rw[aaN]⟩ ?_ (λh hh=>?_)
  .refine View.o 2 [0,1] [] ?_ ?_
   .repeat(first|exact .nil|refine .aF ?_|refine .put (.hi rfl rfl ((congrArg List.length jo).trans (by simp[aa]))) ?_|refine .eq rfl ?_)
   .exact .aR (.put (by simp[bx]) rfl (.bI jo) (.nil _))
  .refine aM (λh2=>?_) (λh2=>?_)
   .have h2:0<h:=by have h2:((h:Nat):Int)>0:=of_decide_eq_true h2;omega
    obtain⟨j,rfl⟩:∃j,h=j+1:=⟨h-1,om⟩;have hj:j<l2.length:=om;have hi:(IntKind.i64.wrap (((j+1:Nat):Int)-1))=((j:Nat):Int):=by rw[<-nY (n:=j) om];congr 1;omega
    have tH:dQ (IntKind.i64.wrap (((j+1:Nat):Int)-1)) (j+1)=some j:=by rw[hi];exact ct om
    refine af tH ?_;refine af (x:=(l2[j].enc).map .ah) (by simp[aT,aa,iB,hj]) ?_
    have ht:=FA l2 j hj;refine aM (λh3=>?_) (λh3=>?_)
    .have h3:l2[j].has=false:=by simpa using h3
     refine af (x:=j) (by show qA (.rv (.one (.ah (.val (.int .i64 (IntKind.i64.wrap (((j+1:Nat):Int)-1)))))))=_;rw[hi];rfl) ?_
     refine cE (by simp[lenOf,aaU,aa];try omega) ?_
     refine⟨j,⟨om,by rw[h3]at ht;simp at ht;rw[<-ht];exact hh.2⟩,acf j,View.o1 2 [0,1] [] ?_⟩
     .exact .aR (.put (by simp[bx]) rfl (.bI rfl) (.nil _))
    .have h3:l2[j].has=true:=by simpa using h3
     have:sq l2=j+1:=by rw[<-hh.2,ht,if_pos h3]
     rw[this];exact kH (.one (Df rfl))
   .have h2:h=0:=by have h2:¬((h:Nat):Int)>0:=of_decide_eq_false h2;omega
    subst h2;have:sq l2=0:=by rw[<-hh.2];rfl
    rw[this];exact kH (.one (Df rfl))
theorem Nh(l:List bY)(hb:l.length<=2097152)(fd:Int){m:Mem}{K:CV->Mem->Prop}(h:K (.bz [jx (nM l fd).1,cG (nM l fd).2]) m):ap prog 60 [dU l,an .i64 fd] m K:=
 be (aZ func60 l60 (FB l hb fd)) (by simp[dU,an,CV.dv,CC.dv]) λr m1 hf=>⟨_,hf,h⟩
end Tb
def c29:LF:= ⟨22,[.tmp 4],(.seq (.ai [qu 2 (.box 0),qu 4 (.aI (qb false))]) (.seq (.ai [qm 5 1,qu 6 (.aJ .geq 5 (qi 0)),qm 7 6,qg 8 (.aI 1) 7 true,qg 9 (.bU 2 2) 7 true,qg 10 (.load false 1 9) 7 true,qg 11 (.len 1 10) 7 true,qg 12 (.aJ .lss 8 11) 7 true,qu 13 (.pick 7 12 (qb false)),qm 14 13,qg 15 (.bU 2 2) 14 true,qg 16 (.load false 1 15) 14 true,qg 17 (.aI 1) 14 true,qg 18 (.cr 4 16 17) 14 true,qg 19 (.bU 0 18) 14 true,qg 20 (.load false 1 19) 14 true,qu 21 (.pick 14 20 (qb false)),qm 4 21]) .ret))⟩
def c113:LF:= ⟨19,[.tmp 4],(.seq (.ai [qu 4 (.aI (qi 0))]) (.seq (.seq (.ai [qm 6 0,qu 7 (.len 1 6),qu 8 (.aI (qi 0))]) (.block 0 (.loop (.seq (.ai [qu 9 (.aJ .lss 8 7)]) (.seq (.cond 9 .skip (.exit 0)) (.seq (.block 1 (.seq (.ai [qm 10 8,qm 5 10]) (.seq (.ai [qm 11 1,qm 12 0,qm 13 5,qu 14 (.cr 2 12 13),qL 15 2 14,qu 16 (.call 11 [15])]) (.cond 16 (.seq (.ai [qm 17 5,qm 4 17]) .ret) .skip)))) (.ai [qu 18 (.aJ .add 8 (qi 1)),qm 8 18]))))))) (.seq (.ai [qu 4 (.aI (qi (-1)))]) .ret)))⟩
def c114:LF:= ⟨6,[.tmp 2],(.seq (.ai [qu 1 (.box 0),qu 2 (.aI (qb false))]) (.seq (.ai [qf 3 0 1,ql 4 3,qu 5 (.aJ .lss 4 (qi 0)),qm 2 5]) .ret))⟩
def c118:LF:= ⟨37,[.tmp 2],(.seq (.ai [qu 2 (.aI (qi 0))]) (.seq (.seq (.ai [qu 5 (.aI (qi 0))]) (.block 0 (.loop (.seq (.ai [qu 6 (.aJ .lss 5 (qi 8))]) (.seq (.cond 6 .skip (.exit 0)) (.seq (.block 1 (.seq (.ai [qm 7 5,qu 3 (.alloc [qd 0]),qw (.store 1 3 7)]) (.seq (.seq (.bR [ql 8 3,qm 9 0,qu 10 (.aO 9),qf 11 2 10,ql 12 11,qu 13 (.len 1 12),qu 14 (.aJ .eql 8 13)] [eh 7 0 .nil]) (.cond 14 (.seq (.ai [ql 15 3,qm 2 15]) .ret) .skip)) (.seq (.ai [qm 16 0,qu 17 (.aO 16),qf 18 0 17,ql 19 18,qu 20 (.fn 141 [3]),qu 21 (qc 80 [19,20]),qm 4 21]) (.seq (.bR [qm 22 0,qu 23 (.aO 22),qf 24 2 23,ql 25 24,ql 26 3,qu 27 (.cr 4 25 26),qf 28 0 27,ql 29 28,qu 30 (.un .not 29),qm 31 30,qg 32 (.aI 4) 31 true,qg 33 (.un .not 32) 31 true,qu 34 (.pick 31 33 (qb false))] [eh 13 0 .nil]) (.cond 34 (.seq (.ai [ql 35 3,qm 2 35]) .ret) .skip)))))) (.ai [qu 36 (.aJ .add 5 (qi 1)),qm 5 36]))))))) (.seq (.ai [qu 2 (.aI (qi (-1)))]) .ret)))⟩
def c141:LF:= ⟨13,[.tmp 3],(.seq (.ai [qu 2 (.box 0),qu 3 (.aI (qb false))]) (.seq (.ai [qf 4 0 2,ql 5 4,qu 6 (.aJ .eql 5 (qi 5)),qm 7 6,qg 8 (.bU 6 2) 7 true,qg 9 (.load false 1 8) 7 true,qg 10 (.load false 1 1) 7 true,qg 11 (.aJ .eql 9 10) 7 true,qu 12 (.pick 7 11 (qb false)),qm 3 12]) .ret))⟩
theorem l29:bw prog Tryz.f29=some c29:=by kernel_rfl
def fj(ps:List bm)(p:Int):Bool:=decide (p>=0)&&(decide (p<ps.length)&&match ps[p.toNat]? with|some x=>x.aP|none=>false)
theorem FC(l:List Obj)(ops:List bF)(ps:List bm)(p:Int):body prog c29 [ez l ops ps,an .i64 p] [] (λr m=>r=aE (fj ps p)):=by
 refine aN (λh0=>?_) (λh0=>?_)
 .obtain⟨n,rfl⟩:∃n:Nat,p=n:=⟨p.toNat,om⟩;refine aN (λh=>?_) (λh=>?_)
  .have aD:n<ps.length:=by have h:(n:Int)<((ps.map bm.enc).length:Int):=h;rw[Nr]at h;omega
   refine af (dy aD) ?_;have hS:fj ps (n:Int)=ps[n].aP:=by simp[fj,aD]
   show aE _=aE _;rw[hS]
  .have ek:¬n<ps.length:=by have h:¬(n:Int)<((ps.map bm.enc).length:Int):=h;rw[Nr]at h;omega
   have hS:fj ps (n:Int)=false:=by simp[fj,ek]
   show aE _=aE _;rw[hS]
 .have hS:fj ps p=false:=by have:decide (p>=0)=false:=decide_eq_false h0;simp[fj,this]
  show aE _=aE _;rw[hS]
theorem oX(l:List Obj)(ops:List bF)(ps:List bm)(p:Int){m:Mem}{K:CV->Mem->Prop}(h:K (aE (fj ps p)) m):ap prog 29 [ez l ops ps,an .i64 p] m K:=
 bA func29 l29 rfl (aah rfl) (FC l ops ps p) (by simp[ez,dk,eX,gl,an,CV.dv,CC.dv,RV.dv]) rfl h
theorem oY{ps:List bm}{p:Int}(h:fj ps p=true):∃n:Nat,p=n/\∃hn:n<ps.length,ps[n].aP=true:=by
 unfold fj at h;by_cases h0:p>=0
 .obtain⟨n,rfl⟩:∃n:Nat,p=n:=⟨p.toNat,om⟩;by_cases hn:n<ps.length
  .refine⟨n,rfl,hn,?_⟩;simpa[hn]using h
  .simp[hn]at h
 .simp[h0]at h
theorem Qh{ps:List bm}{n:Nat}(hn:n<ps.length)(h:ps[n].aP=true):fj ps (n:Int)=true:=by simp[fj,hn,h]
theorem l118:bw prog f118=some c118:=by kernel_rfl
theorem l141:bw prog f141=some c141:=by kernel_rfl
theorem FD(o:Obj)(p:Int):body prog c141 [o.cv,.rv (.one (.ptr 0 0))] [.var ([Dt.val (.int .i64 p)].map .ah)] (λr m=>r=aE (dF p o)/\∃ex,m= .var ([Dt.val (.int .i64 p)].map .ah)::ex):=by
 refine aM (λh=>?_) (λh=>?_)
 .refine⟨?_,_,rfl⟩;show aE _=aE _;rw[dF,h];rfl
 .refine⟨?_,_,rfl⟩;show aE _=aE _;rw[dF,h];rfl
theorem WX(o:Obj)(p:Int)(K:CV->Mem->Prop)(h:K (aE (dF p o)) [.var ([Dt.val (.int .i64 p)].map .ah)]):ap prog 141 [o.cv,.rv (.one (.ptr 0 0))] [.var ([Dt.val (.int .i64 p)].map .ah)] K:=
 eQ rfl (aZ func141 l141 (FD o p)) h
def sr(l:List Obj)(ps:List bm)(p:Nat):Bool:=match ps[p]? with
 |some x=>!x.aP&& !(l.any (dF (p:Nat)))
 |none=>false
def oZ(l:List Obj)(ps:List bm):Nat->Nat->Int
 |0,_=>-1
 |n+1,p=>if p=ps.length then(p:Nat)else if sr l ps p=true then(p:Nat)else oZ l ps n (p+1)
def gO(l:List Obj)(ps:List bm):Int:=oZ l ps 8 0
def kC(l:List Obj)(ops:List bF)(ps:List bm):List Dt:=[dk l,eX ops,gl ps]
theorem tR(l:List Obj)(hl:l.length<=4194304)(ops:List bF)(ps:List bm):body prog c118 [.rv (.one (.ptr 0 0))] [.var ((kC l ops ps).map .ah)] (λr m=>r=an .i64 (gO l ps)/\∃ex,m= .var ((kC l ops ps).map .ah)::ex):=by
 refine ba (λp=>p<=8/\p<=ps.length/\oZ l ps (8-p) p=gO l ps) [0] (λp=>[(5,an .i64 (p:Nat))]) (λ_=>[.var ((kC l ops ps).map .ah)]) (λp=>8-p) 0 ⟨om,aan _,rfl⟩ ?_ (λp hp=>?_)
 .refine View.o1 1 [0] [] ?_
  .exact .au
 obtain⟨hp8,i3,Lb⟩:=hp;have hp8:p<=8:=hp8;have i3:p<=ps.length:=i3;have Lb:oZ l ps (8-p) p=gO l ps:=Lb;refine aN (λh=>?_) (λh=>?_)
 .have aD:p<8:=by have h:(p:Int)<8:=h;omega
  rw[show 8-p=(8-(p+1))+1 by omega,oZ]at Lb
  refine bs (λhe=>?_) (λhe=>?_)
  .have he:p=ps.length:=by have he:(p:Int)=((ps.map bm.enc).length:Int):=he;rw[Nr]at he;omega
   rw[if_pos he]at Lb;rw[<-Lb];exact⟨rfl,_,rfl⟩
  .have du:¬p=ps.length:=by intro hh;apply he;show(p:Int)=((ps.map bm.enc).length:Int);rw[Nr];omega
   rw[if_neg du]at Lb;have CD:p<ps.length:=om;have PC:sr l ps p=(!ps[p].aP&& !(l.any (dF (p:Nat)))):=by rw[sr,vl CD]
   refine fo (args0:=[cA l,.rv (.one (.fn 141 [0]))]) (cs:=[.val (.int .i64 (p:Nat))]) 1 rfl rfl (r0:=aE (l.any (dF (p:Int)))) rfl (λK hK=>tM l hl 141 _ _ (λs K hK=>WX s _ K hK) K hK) ?_
   refine af (dy CD) ?_;rw[PC]at Lb;have go:(!ps[p].aP&& !(l.any (dF (p:Nat))))=false->oZ l ps (8-(p+1)) (p+1)=gO l ps:=λhh=>by
    rw[if_neg (by rw[hh];simp)]at Lb;exact Lb
   refine aM (λh1=>?_) (λh1=>?_)
   .refine aM (λh2=>?_) (λh2=>?_)
    .rw[if_pos (by rw[h1,h2];rfl)]at Lb
     rw[<-Lb];exact⟨rfl,_,rfl⟩
    .refine⟨p+1,⟨om,om,go (by rw[h2,Bool.and_false])⟩,(show 8-(p+1)<8-p by omega),View.o2 2 [0] [] ?_⟩
     .exact .au
   .refine⟨p+1,⟨om,om,go (by rw[h1,Bool.false_and])⟩,(show 8-(p+1)<8-p by omega),View.o2 2 [0] [] ?_⟩
    .exact .au
 .have hp:p=8:=by have h:¬(p:Int)<8:=h;omega
  subst hp;rw[show gO l ps= -1 from Lb.symm];exact⟨rfl,_,rfl⟩
theorem A8(l:List Obj)(hl:l.length<=4194304)(ops:List bF)(ps:List bm)(K:CV->Mem->Prop)(h:K (an .i64 (gO l ps)) [.var ((kC l ops ps).map .ah)]):ap prog 118 [.rv (.one (.ptr 0 0))] [.var ((kC l ops ps).map .ah)] K:=
 eQ rfl (aZ func118 l118 (tR l hl ops ps)) h
theorem l113:bw prog f113=some c113:=by kernel_rfl
theorem l114:bw prog f114=some c114:=by kernel_rfl
def bF.cv(o:bF):CV:= .rv (.agg (o.enc.map .ah))
theorem FE(o:bF):body prog c114 [o.cv] [] (λr m=>r=aE (decide (o.bo<0))):=by show aE _=aE _;rfl
theorem WY(o:bF){m:Mem}{K:CV->Mem->Prop}(h:K (aE (decide (o.bo<0))) m):ap prog 114 [o.cv] m K:=
 bA func114 l114 rfl (aah rfl) (FE o) rfl rfl h
def El(l:List bF):Option Nat:=l.findIdx? λo=>decide (o.bo<0)
def Lc(l:List bF):Int:=match El l with|some i=>(i:Nat)|none=>-1
theorem JC(l:List bF)(hb:l.length<=4194304):body prog c113 [.rv (.one (.ah (eX l))),.rv (.one (.fn 114 []))] [] (λr m=>r=an .i64 (Lc l)):=by
 refine ba (λk=>k<=l.length/\∀(i:Nat)s,i<k->l[i]? =some s->¬s.bo<0) [0,1,7] (λk=>[(8,an .i64 (k:Nat))]) (λ_=>[]) (λk=>l.length-k) 0 ⟨aan _,λi s h=>absurd h (aaR i)⟩ ?_ (λk hk=>?_)
 .refine View.o1 0 [] [] (.nil _)
 obtain⟨gj,Tv⟩:=hk;have gj:k<=l.length:=gj;refine aN (λh=>?_) (λh=>?_)
 .have aD:k<l.length:=by have h:(k:Int)<((l.map bF.enc).length:Int):=h;rw[Nr]at h;omega
  refine af (pF aD) ?_;refine WY l[k] ?_;refine aN (λh3=>?_) (λh3=>?_)
  .show an _ _=an _ _;have:El l=some k:=by
    rw[El,aaO];exact⟨aD,by simpa using h3,λj hj=>by simpa using Tv j _ hj (vl om)⟩
   rw[Lc,this]
  .refine⟨k+1,⟨aD,λi s hi hs=>?_⟩,(show l.length-(k+1)<l.length-k by omega),View.o 0 [] [] ?_ (.nil _)⟩
   .rcases aaf i k with h5|h5
    .exact Tv i s h5 hs
    .have:i=k:=om;subst this;rw[vl aD]at hs;cases hs;exact h3
   .repeat(first|exact .nil|refine .aF ?_|refine .put (.bg (cP om).symm) ?_|refine .eq rfl ?_)
 .have ek:k=l.length:=by have h:¬(k:Int)<((l.map bF.enc).length:Int):=h;rw[Nr]at h;omega
  show an _ _=an _ _;have:El l=none:=by rw[El,acz];intro s hs;obtain⟨i,hi⟩:=X1 hs;have:=(JJ.1 hi).1;simpa using Tv i s om hi
  rw[Lc,this]
theorem HP(l:List bF)(hb:l.length<=4194304){m:Mem}{K:CV->Mem->Prop}(h:K (an .i64 (Lc l)) m):ap prog 113 [.rv (.one (.ah (eX l))),.rv (.one (.fn 114 []))] m K:=
 bA func113 l113 rfl (aah rfl) (JC l hb) (by simp[eX,CV.dv,CC.dv,RV.dv]) rfl h
def c78:LF:= ⟨36,[.cell true 3 6,.tmp 7],(.seq (.ai [qu 3 (.box 0),qu 6 (.alloc [.aK,.aK,.aK]),qu 7 (.aI (qi 0))]) (.seq (.seq (.ai [qL 9 3 3,qm 10 1,qu 11 (qc 29 [9,10]),qu 12 (.un .not 11)]) (.cond 12 (.seq (.ai [qu 13 (.build [.aK,.aK,.aK] []),qw (.store 3 6 13),qu 7 (.aI (qi 6))]) .ret) .skip)) (.seq (.seq (.ai [qm 14 2,qu 15 (.aJ .lss 14 (qi 0)),qm 16 15,qg 17 (.aI 2) 16 false,qg 18 (.aJ .gtr 17 (qi 255)) 16 false,qu 19 (.pick 16 (qb true) 18)]) (.cond 19 (.seq (.ai [qu 20 (.build [.aK,.aK,.aK] []),qw (.store 3 6 20),qu 7 (.aI (qi 3))]) .ret) .skip)) (.seq (.ai [qL 21 3 3,qu 22 (qc 59 [21]),qu 8 (.alloc [.aK,.aK,.aK]),qw (.store 3 8 22)]) (.seq (.bR [qf 23 2 8,ql 24 23,qm 25 1,qf 26 2 3,ql 27 26,qm 28 1,qu 29 (.cr 4 27 28),qf 30 1 29,ql 31 30,qm 32 2,qu 33 (.build [(.ah (.val (.bool false))),(.ah (.val (.bool false))),qd 0,.aK] [(1,1,31),(2,1,32)]),qu 34 (.cr 4 24 25),qw (.store 4 34 33)] [(eh 12 0 (.cons 12 (some []) .nil))]) (.cU (.seq (.ai [qL 35 3 8,qw (.store 3 6 35),qu 7 (.aI (qi 0))]) .ret)))))))⟩
theorem l78:bw prog f78=some c78.er:=by kernel_rfl
def ji(k:Kr):RV:= .agg [.ah (dk k.l),.ah (eX k.ops),.ah (gl k.ps)]
def mr:Kr:=⟨[],[],[]⟩
def iu(k:Kr)(p code:Int):Kr×Int:=
 if fj k.ps p=false then(mr,6)else if code<0\/code>255 then(mr,3)
 else(⟨k.l,k.ops,k.ps.set p.toNat ⟨false,(match k.ps[p.toNat]? with|some x=>x.fenced|none=>false),code,[]⟩⟩,0)
theorem gX{m:Mem}:eP m (.agg [.aK,.aK,.aK]) (ji mr):=by
 refine .agg rfl λi c c' h1 h2=>?_
 match i,h1,h2 with
 |0,h1,h2=>cases h1;cases h2;exact .aK 9
 |1,h1,h2=>cases h1;cases h2;exact .aK 2
 |2,h1,h2=>cases h1;cases h2;exact .aK 4
 |n+3,h1,h2=>simp at h1
theorem A9(k:Kr):(ji k).dv=true:=by simp[ji,dk,eX,gl,CV.dv,CC.dv,RV.dv]
theorem Ni{m:Mem}{Z:Nat->Prop}{p:Option Nat}{id:Nat}{ps:List bm}{k:Nat}{c:List CC}{x:bm}(hc:kh m Z (some id) c x.enc)(hz:Z id)(hm:m[id]? =some (.row 4 (aW (aa (ps.map bm.enc)) k c))):
  dR m Z p (.row id 4 0 none) (gl (ps.set k x)):=by
 rw[aY]at hm;refine dR.row id 4 0 none _ _ hz hm (by simp[aa]) (λi cs es h1 h2=>?_) (λi cs es j c' d h1 h2 h3 h4=>?_)
 .rw[aaS]at h1;rw[Sf,aaS]at h2;by_cases e:k=i
  .subst e;rw[if_pos rfl]at h1 h2;split at h1
   .cases h1;split at h2
    .cases h2;exact hc.len
    .cases h2
   .cases h1
  .rw[if_neg e]at h1 h2;rw[aa,Sf,Sf]at h1;cases hi:ps[i]? with
   |none=>rw[hi]at h1;cases h1
   |some y=>rw[hi]at h1 h2;cases h1;cases h2;simp
 .rw[aaS]at h1;rw[Sf,aaS]at h2;by_cases e:k=i
  .subst e;rw[if_pos rfl]at h1 h2;split at h1
   .cases h1;split at h2
    .cases h2;exact hc.get j _ _ h3 h4
    .cases h2
   .cases h1
  .rw[if_neg e]at h1 h2;rw[aa,Sf,Sf]at h1;cases hi:ps[i]? with
   |none=>rw[hi]at h1;cases h1
   |some y=>
    rw[hi]at h1 h2;cases h1;cases h2;have h4:y.enc[j]? =some d:=h4;rw[Sf,h4]at h3;cases h3;exact .ah d
def G15:LC:=qM (bL (bL (bL (bL (bL c78.code)))))
theorem JD(k:Kr)(hk:dI k.l k.ops k.ps)(p code:Int):body prog c78 [ez k.l k.ops k.ps,an .i64 p,an .i64 code] [] (λr m=>cL m r (.bz [ji (iu k p code).1,cG (iu k p code).2])):=by
 refine oX k.l k.ops k.ps p ?_;refine aM (λh1=>?_) (λh1=>?_)
 .have h1:fj k.ps p=false:=by simpa using h1
  rw[iu,if_pos h1];exact kH gX
 have h1:fj k.ps p=true:=by simpa using h1
 obtain⟨n,rfl,hn,b9⟩:=oY h1;rw[iu,if_neg (by rw[h1];simp)]
 refine aN (λh2=>?_) (λh2=>?_)
 .rw[if_pos (.inl h2)];exact kH gX
 refine aN (λh3=>?_) (λh3=>?_)
 .rw[if_pos (.inr h3)];exact kH gX
 rw[if_neg (λh=>h.elim h2 h3)]
 refine iN k.l k.ops k.ps ⟨hk.ll,λo ho=>(hk.sm o ho).oi⟩ hk.lo hk.lp hk.sl hk.ne ?_
 have hg:=dy hn;have hr:=bJ bm.enc k.ps hn;have hx:(match k.ps[((n:Nat):Int).toNat]? with|some x=>x.fenced|none=>false)=k.ps[n].fenced:=by rw[show((n:Nat):Int).toNat=n from rfl,vl hn]
 rw[hx,show((n:Nat):Int).toNat=n from rfl];generalize k.ps[n]=y at hg hr;obtain⟨aP,fenced,cd,aU⟩:=y;refine af hg ?_;refine af (ml hn) ?_;refine af hr ?_;have eF:aw prog 0 G15 (oC prog c78.lP (λr m=>cL m r (.bz [ji ⟨k.l,k.ops,k.ps.set n ⟨false,fenced,code,[]⟩⟩,cG 0]))) ⟨kz 36 [(6,.rv (.one (.ptr 1 0))),(8,.rv (.one (.ptr 2 0)))],[.var ((kC k.l k.ops k.ps).map .ah),.var [.aK,.aK,.aK],.var ((kC k.l k.ops (k.ps.set n ⟨false,fenced,code,[]⟩)).map .ah)]⟩:=by exact kH (eP.self (A9 _))
 refine⟨?_,_,View.o 6 [0,1,5] [2,3,4] ?_ ?_,eF⟩
 .exact trivial
 .repeat(first|exact .nil|refine .aF ?_|refine .eq rfl ?_)
 .refine .pt rfl rfl (.eq rfl (by simp[kC])) (.pe rfl rfl rfl (.pt rfl rfl (fh.var (.cons (.fE (dR.eW (Z:=λk=>bx [2,3,4] k=true) rfl rfl 0 none)) (.cons (.fE (dR.eW (Z:=λk=>bx [2,3,4] k=true) rfl rfl 0 none)) (.cons (.fE (Ni (Z:=λk=>bx [2,3,4] k=true) ?_ rfl rfl)) .nil)))) (.nil _)))
  exact .cons (.ah _) (.cons (.ah _) (.cons (.ah _) (.cons (.aK 3) .nil)))
theorem Ba(k:Kr)(hk:dI k.l k.ops k.ps)(p code:Int){m:Mem}{K:CV->Mem->Prop}(h:K (.bz [ji (iu k p code).1,cG (iu k p code).2]) m):ap prog 78 [ez k.l k.ops k.ps,an .i64 p,an .i64 code] m K:=
 be (b8 func78 l78 (JD k hk p code)) (by simp[ez,dk,eX,gl,an,CV.dv,CC.dv,RV.dv]) λr m1 hf=>⟨_,hf,h⟩
def c72:LF:= ⟨74,[.cell true 3 8,.tmp 9,.tmp 10],(.seq (.ai [qu 4 (.box 0),qu 8 (.alloc [.aK,.aK,.aK]),qu 9 (.aI (qi 0)),qu 10 (.aI (qi 0))]) (.seq (.ai [qf 16 1 4,ql 17 16,qu 18 (qc 113 [17,(.c (.rv (.one (.fn 114 []))))]),qm 11 18]) (.seq (.seq (.ai [qm 19 11,qu 20 (.aJ .lss 19 (qi 0))]) (.cond 20 (.seq (.seq (.ai [qf 21 1 4,ql 22 21,qu 23 (.len 1 22),qu 24 (.aJ .geq 23 (qi 60))]) (.cond 24 (.seq (.ai [qu 25 (.build [.aK,.aK,.aK] []),qw (.store 3 8 25),qu 9 (.aI (qi 0)),qu 10 (.aI (qi 15))]) .ret) .skip)) (.ai [qf 26 1 4,ql 27 26,qu 28 (.len 1 27),qm 11 28])) .skip)) (.cU (.seq (.ai [qf 30 2 4,ql 31 30,qm 32 1,qu 33 (.cr 4 31 32),qf 34 3 33,ql 35 34,qm 36 11,qm 37 3,qu 38 (.build [qd 0,qd 0] [(0,1,36),(1,1,37)]),qu 39 (qc 76 [35,38]),qm 29 39,qu 40 (.ext 29 0),qu 41 (.ext 29 1),qu 42 (.ext 29 2),qm 12 40,qm 13 41,qm 14 42]) (.seq (.seq (.ai [qm 43 14,qu 44 (.aJ .neq 43 (qi 0))]) (.cond 44 (.seq (.ai [qu 45 (.build [.aK,.aK,.aK] []),qm 46 14,qw (.store 3 8 45),qu 9 (.aI (qi 0)),qm 10 46]) .ret) .skip)) (.seq (.ai [qL 47 3 4,qu 48 (qc 59 [47]),qu 15 (.alloc [.aK,.aK,.aK]),qw (.store 3 15 48)]) (.seq (.seq (.ai [qm 49 11,qf 50 1 15,ql 51 50,qu 52 (.len 1 51),qu 53 (.aJ .eql 49 52)]) (.cond 53 (.ai [qf 54 1 15,ql 55 54,qu 56 (.build [qd 0,qd 0] []),qu 57 (.nw 2 [qd 0,qd 0] 1 [(0,56)]),qu 58 (.ov 2 16 55 57),qf 59 1 15,qw (.store 1 59 58)]) .skip)) (.cU (.seq (.ai [qf 60 1 15,ql 61 60,qm 62 11,qm 63 2,qu 64 (.build [qd 0,qd 0] [(0,1,63)]),qu 65 (.cr 2 61 62),qw (.store 2 65 64)]) (.seq (.ai [qf 66 2 15,ql 67 66,qm 68 1,qm 69 12,qu 70 (.cr 4 67 68),qf 71 3 70,qw (.store 1 71 69)]) (.seq (.ai [qL 72 3 15,qm 73 13,qw (.store 3 8 72),qm 9 73,qu 10 (.aI (qi 0))]) .ret))))))))))))⟩
theorem l72:bw prog f72=some c72.er:=by kernel_rfl
def mw(s:ft):Tb.bY:=⟨s.has,⟨s.dS,s.cj⟩⟩
def Pm(s:Tb.bY):ft:=⟨s.has,s.cap.dS,s.cap.cj⟩
theorem Qi(l:List ft):(l.map mw).map Tb.bY.enc=l.map ft.enc:=by rw[abZ];rfl
theorem Qj(l:List Tb.bY):(l.map Pm).map ft.enc=l.map Tb.bY.enc:=by rw[abZ];rfl
theorem zD(l:List ft):Tb.qQ (l.map mw)=yC l:=by rw[Tb.qQ,Qi];rfl
theorem pH(l:List Tb.bY):Tb.jx l=ML (l.map Pm):=by show RV.one (.ah (.sl 3 (l.map Tb.bY.enc)))= .one (.ah (.sl 3 ((l.map Pm).map ft.enc)));rw[Qj]
def fY(l:List ft)(dS cj:Int):List ft×Int×Int:=((Tb.iO (l.map mw) ⟨dS,cj⟩).1.map Pm,(Tb.iO (l.map mw) ⟨dS,cj⟩).2.1,(Tb.iO (l.map mw) ⟨dS,cj⟩).2.2)
theorem Bb(l:List ft)(hb:l.length<=2097152)(dS cj:Int){m:Mem}{K:CV->Mem->Prop}(h:K (.bz [ML (fY l dS cj).1,cG (fY l dS cj).2.1,cG (fY l dS cj).2.2]) m):
  ap prog 76 [m5 l,.rv (.agg [.ah (.val (.int .i64 dS)),.ah (.val (.int .i64 cj))])] m K:=by
 have:=Tb.Nc (l.map mw) (by simpa using hb) ⟨dS,cj⟩ (m:=m) (K:=K) (by rw[pH];exact h)
 have e:Tb.dU (l.map mw)=m5 l:=by show CV.rv (.one (.ah (Tb.qQ (l.map mw))))=_;rw[zD];rfl
 rw[e]at this;exact this
def cX(ops:List bF):Nat:=(El ops).getD ops.length
def aA(ps:List bm)(n:Nat):List ft:=match ps[n]? with|some x=>x.aU|none=>[]
def jj(ops:List bF)(i:Nat)(o:bF):List bF:=if i=ops.length then ops++ [o]else ops.set i o
def dz(ps:List bm)(n:Nat)(l:List ft):List bm:=match ps[n]? with|some x=>ps.set n {x with aU:=l}|none=>ps
def aL(k:Kr)(n:Nat)(bo cj:Int):Kr×Int×Int:=
 if El k.ops=none/\k.ops.length>=60 then(mr,0,15)
 else if(fY (aA k.ps n) (cX k.ops) cj).2.2≠0 then(mr,0,(fY (aA k.ps n) (cX k.ops) cj).2.2)
 else(⟨k.l,jj k.ops (cX k.ops) ⟨bo,0⟩,dz k.ps n (fY (aA k.ps n) (cX k.ops) cj).1⟩,(fY (aA k.ps n) (cX k.ops) cj).2.1,0)
theorem Bc{ops:List bF}{i:Nat}(h:El ops=some i):i<ops.length:=(aaO.1 h).1
def C30:LC:=bL (bL (bL c72.code))
def G30:LC:=qM C30
def C60:LC:=bL (bL (bL (bL G30)))
def G60:LC:=qM C60
def M60(l:List Obj)(O:List bF)(ps:List bm):Mem:=[.var [.aK,.aK,.aK],.row 9 (aa (l.map Obj.enc)),.row 2 (aa (O.map bF.enc)),.row 4 (aa (ps.map bm.enc)),.var [.row 1 9 0 none,.row 2 2 0 none,.row 3 4 0 none]]
theorem WZ{m:Mem}{a b c:Nat}{l:List Obj}{ops:List bF}{ps:List bm}(h1:m[a]? =some (.row 9 (aa (l.map Obj.enc))))(h2:m[b]? =some (.row 2 (aa (ops.map bF.enc))))(h3:m[c]? =some (.row 4 (aa (ps.map bm.enc)))):
  eP m (.agg [.row a 9 0 none,.row b 2 0 none,.row c 4 0 none]) (ji ⟨l,ops,ps⟩):=by
 refine .agg rfl λi c c' e1 e2=>?_
 match i,e1,e2 with
 |0,e1,e2=>cases e1;cases e2;exact eV.eW h1 0 none
 |1,e1,e2=>cases e1;cases e2;exact eV.eW h2 0 none
 |2,e1,e2=>cases e1;cases e2;exact eV.eW h3 0 none
 |n+3,e1,e2=>simp at e1
theorem Sa(l:List Obj)(O:List bF)(ps:List bm)(n i:Nat)(hn:n<ps.length)(hi:i<O.length)(bo fd:Int)(y:List ft):
  aw prog 0 G60 (oC prog c72.lP (λr m=>cL m r (.bz [ji ⟨l,O.set i ⟨bo,0⟩,dz ps n y⟩,cG fd,cG 0])))
   ⟨kz 74 [(1,an .i64 (n:Nat)),(2,an .i64 bo),(8,.rv (.one (.ptr 0 0))),(11,an .i64 (i:Nat)),(12,m5 y),(13,an .i64 fd),(15,.rv (.one (.ptr 4 0)))],M60 l O ps⟩:=by
 refine af (A2 hi) ?_;have ho:=bJ bF.enc O hi;generalize O[i]=x at ho;obtain⟨xo,xa⟩:=x;refine af ho ?_;refine af (ml hn) ?_;have hp:=bJ bm.enc ps hn;have pQ:dz ps n y=ps.set n {ps[n]with aU:=y}:=by rw[dz,vl hn]
 rw[pQ];generalize ps[n]=z at hp;obtain⟨aP,fenced,cd,aU⟩:=z;refine af hp ?_;refine mj (WZ ?_ ?_ ?_) (eP.self rfl)
 .rfl
 .refine congrArg (λx=>some (Bk.row 2 x)) ?_
  show aW (aa (O.map bF.enc)) i ((bF.enc ⟨bo,0⟩).map .ah)=_;rw[aY,aa,aa,abM,abM]
 .refine congrArg (λx=>some (Bk.row 4 x)) ?_
  show aW (aa (ps.map bm.enc)) n ((bm.enc ⟨aP,fenced,cd,y⟩).map .ah)=_;rw[aY,aa,aa,abM,abM]
theorem Sb(k:Kr)(hk:dI k.l k.ops k.ps)(n:Nat)(hn:n<k.ps.length)(bo cj:Int)(i:Nat)(hi:i=cX k.ops)(ym:i<=k.ops.length)(jX:¬(El k.ops=none/\k.ops.length>=60)):
  aw prog 0 G30 (oC prog c72.lP (λr m=>cL m r (.bz [ji (aL k n bo cj).1,cG (aL k n bo cj).2.1,cG (aL k n bo cj).2.2])))
   ⟨kz 74 [(1,an .i64 (n:Nat)),(2,an .i64 bo),(3,an .i64 cj),(4,.rv (.one (.ptr 0 0))),(8,.rv (.one (.ptr 1 0))),(11,an .i64 (i:Nat))],[.var ((kC k.l k.ops k.ps).map .ah),.var [.aK,.aK,.aK]]⟩:=by
 have zE:aA k.ps n=k.ps[n].aU:=by rw[aA,vl hn]
 have y8:=hk.sl _ (aar hn);have TL:k.ops.length<=4194304:=hk.lo;rw[aL,if_neg jX,zE,<-hi];refine af (dy hn) ?_;generalize k.ps[n].aU=S at y8;refine Bb S om (i:Nat) cj ?_;generalize fY S (i:Nat) cj=A;obtain⟨y,fd,e⟩:=A;refine bt (λhe=>?_) (λhe=>?_)
 .rw[if_pos he];exact mj gX (eP.self rfl)
 have he:e=0:=he;subst he;rw[if_neg aC];refine iN k.l k.ops k.ps ⟨hk.ll,λo ho=>(hk.sm o ho).oi⟩ hk.lo hk.lp hk.sl hk.ne ?_
 refine bs (λlT=>?_) (λlT=>?_)
 .have lT:i=k.ops.length:=by have lT:(i:Int)=((aa (k.ops.map bF.enc)).length:Int):=lT;rw[bh,Nr]at lT;omega
  have jo:jj k.ops i ⟨bo,0⟩=(k.ops++ [bF.mk 0 0]).set i ⟨bo,0⟩:=by rw[jj,if_pos lT,lT];simp
  rw[jo];refine⟨by simp only[bV,bh,Nr,aaj,aa9];omega,?_⟩
  refine⟨_,View.o1 8 [1,2,7,4,5] [] ?_,Sa k.l (k.ops++ [bF.mk 0 0]) k.ps n i hn (by simp;omega) bo fd y⟩
  .exact .pe rfl rfl rfl (.pr rfl rfl rfl (.pt rfl rfl (.bI (by simp[bV,aa,bF.enc])) (.pr rfl rfl rfl (.pm rfl rfl rfl))))
 .have aD:i<k.ops.length:=by have lT:¬(i:Int)=((aa (k.ops.map bF.enc)).length:Int):=lT;rw[bh,Nr]at lT;omega
  have jo:jj k.ops i ⟨bo,0⟩=k.ops.set i ⟨bo,0⟩:=by rw[jj,if_neg om]
  rw[jo];refine⟨_,View.o1 6 [1,2,3,4,5] [] ?_,Sa k.l k.ops k.ps n i hn aD bo fd y⟩
  .exact .au
theorem Dg(k:Kr)(hk:dI k.l k.ops k.ps)(n:Nat)(hn:n<k.ps.length)(bo cj:Int):body prog c72 [ez k.l k.ops k.ps,an .i64 (n:Nat),an .i64 bo,an .i64 cj] []
  (λr m=>cL m r (.bz [ji (aL k n bo cj).1,cG (aL k n bo cj).2.1,cG (aL k n bo cj).2.2])):=by
 refine HP k.ops hk.lo ?_;have TL:k.ops.length<=4194304:=hk.lo;cases ho:El k.ops with
 |none=>
  have TM:Lc k.ops= -1:=by rw[Lc,ho]
  have Pf:cX k.ops=k.ops.length:=by rw[cX,ho];rfl
  rw[TM];refine aN (λxb=>?_) (λxb=>?_)
  .have xb:k.ops.length>=60:=by have xb:((k.ops.map bF.enc).length:Int)>=60:=xb;rw[Nr]at xb;omega
   rw[aL,if_pos ⟨ho,xb⟩];exact mj gX (eP.self rfl)
  .have xb:¬k.ops.length>=60:=by have xb:¬((k.ops.map bF.enc).length:Int)>=60:=xb;rw[Nr]at xb;omega
   refine⟨_,View.o 2 [0,1] [] ?_ ?_,Sb k hk n hn bo cj k.ops.length Pf.symm (T5 _) (λh=>xb h.2)⟩
   .have hlen:an .i64 (((k.ops.map bF.enc).length:Nat):Int)=an .i64 ((k.ops.length:Nat):Int):=by rw[Nr]
    repeat(first|exact .nil|refine .aF ?_|refine .eq rfl ?_)
    refine .eq hlen.symm ?_;repeat(first|exact .nil|refine .aF ?_|refine .eq rfl ?_)
   .exact .au
 |some i=>
  have TM:Lc k.ops=(i:Nat):=by rw[Lc,ho]
  have Pf:cX k.ops=i:=by rw[cX,ho];rfl
  have ym:=Bc ho;rw[TM];refine⟨_,View.o1 2 [0,1] [] ?_,Sb k hk n hn bo cj i Pf.symm om (λh=>by rw[ho]at h;cases h.1)⟩
  .exact .au
theorem tV(k:Kr)(hk:dI k.l k.ops k.ps)(n:Nat)(hn:n<k.ps.length)(bo cj:Int){m:Mem}{K:CV->Mem->Prop}(h:K (.bz [ji (aL k n bo cj).1,cG (aL k n bo cj).2.1,cG (aL k n bo cj).2.2]) m):ap prog 72 [ez k.l k.ops k.ps,an .i64 (n:Nat),an .i64 bo,an .i64 cj] m K:=
 be (b8 func72 l72 (Dg k hk n hn bo cj)) (by simp[ez,dk,eX,gl,an,CV.dv,CC.dv,RV.dv]) λr m1 hf=>⟨_,hf,h⟩
def c77:LF:= ⟨84,[.cell true 3 4,.tmp 5,.tmp 6,.tmp 7],(.seq (.ai [qu 2 (.box 0),qu 4 (.alloc [.aK,.aK,.aK]),qu 5 (.aI (qi 0)),qu 6 (.aI (qi 0)),qu 7 (.aI (qi 0))]) (.seq (.seq (.ai [qL 14 3 2,qm 15 1,qu 16 (qc 29 [14,15]),qu 17 (.un .not 16)]) (.cond 17 (.seq (.ai [qu 18 (.build [.aK,.aK,.aK] []),qw (.store 3 4 18),qu 5 (.aI (qi 0)),qu 6 (.aI (qi 0)),qu 7 (.aI (qi 6))]) .ret) .skip)) (.seq (.ai [qu 19 (qc 118 [2]),qm 8 19]) (.seq (.seq (.ai [qm 20 8,qu 21 (.aJ .lss 20 (qi 0))]) (.cond 21 (.seq (.ai [qu 22 (.build [.aK,.aK,.aK] []),qw (.store 3 4 22),qu 5 (.aI (qi 0)),qu 6 (.aI (qi 0)),qu 7 (.aI (qi 15))]) .ret) .skip)) (.seq (.ai [qL 23 3 2,qu 24 (qc 59 [23]),qu 9 (.alloc [.aK,.aK,.aK]),qw (.store 3 9 24)]) (.seq (.seq (.ai [qm 25 8,qf 26 2 9,ql 27 26,qu 28 (.len 1 27),qu 29 (.aJ .eql 25 28)]) (.cond 29 (.ai [qf 30 2 9,ql 31 30,qu 32 (.build [(.ah (.val (.bool false))),(.ah (.val (.bool false))),qd 0,.aK] []),qu 33 (.nw 4 [(.ah (.val (.bool false))),(.ah (.val (.bool false))),qd 0,.aK] 1 [(0,32)]),qu 34 (.ov 4 40 31 33),qf 35 2 9,qw (.store 1 35 34)]) .skip)) (.cU (.seq (.bR [qf 36 2 9,ql 37 36,qm 38 8,qf 39 2 2,ql 40 39,qm 41 1,qu 42 (.cr 4 40 41),qf 43 1 42,ql 44 43,qf 45 2 2,ql 46 45,qm 47 1,qu 48 (.cr 4 46 47),qf 49 3 48,ql 50 49,qu 51 (qc 100 [50]),qu 52 (.build [(.ah (.val (.bool false))),(.ah (.val (.bool false))),qd 0,.aK] [(0,1,qb true),(1,1,44),(3,1,51)]),qu 53 (.cr 4 37 38),qw (.store 4 53 52)] [(eh 15 0 (.cons 15 (some [8,6,4,1]) (.cons 16 none (.cons 17 none (.cons 18 (some []) .nil)))))]) (.cU (.seq (.ai [qf 55 0 9,ql 56 55,qm 57 8,qu 58 (.build [qd 0,.aK,.aK,(.ah (.val (.string ⟨#[]⟩))),qd 0,.aK,qd 0,qd 0,qd 0] [(0,1,qi 5),(4,1,(qi (-1))),(6,1,57)]),qu 59 (qc 111 [56,58]),qm 54 59,qu 60 (.ext 54 0),qu 61 (.ext 54 1),qu 62 (.ext 54 2),qm 10 60,qm 11 61,qm 12 62]) (.seq (.seq (.ai [qm 63 12,qu 64 (.aJ .neq 63 (qi 0))]) (.cond 64 (.seq (.ai [qu 65 (.build [.aK,.aK,.aK] []),qm 66 12,qw (.store 3 4 65),qu 5 (.aI (qi 0)),qu 6 (.aI (qi 0)),qm 7 66]) .ret) .skip)) (.seq (.ai [qm 67 10,qf 68 0 9,qw (.store 1 68 67)]) (.seq (.ai [qL 70 3 9,qm 71 1,qm 72 11,qu 73 (qc 72 [70,71,72,qi 3200]),qm 69 73,qu 74 (.ext 69 0),qu 75 (.ext 69 1),qu 76 (.ext 69 2),qw (.store 3 9 74),qm 13 75,qm 12 76]) (.seq (.seq (.ai [qm 77 12,qu 78 (.aJ .neq 77 (qi 0))]) (.cond 78 (.seq (.ai [qu 79 (.build [.aK,.aK,.aK] []),qm 80 12,qw (.store 3 4 79),qu 5 (.aI (qi 0)),qu 6 (.aI (qi 0)),qm 7 80]) .ret) .skip)) (.seq (.ai [qL 81 3 9,qm 82 8,qm 83 13,qw (.store 3 4 81),qm 5 82,qm 6 83,qu 7 (.aI (qi 0))]) .ret)))))))))))))))⟩
theorem l77:bw prog f77=some c77.er:=by kernel_rfl
def dm(c:Int):Obj:=⟨5,[],[],⟨#[]⟩,-1,[],c,0,0⟩
theorem Dh(c:Int):(dm c).sm:=⟨⟨⟨[],rfl⟩,⟨[],rfl⟩,λq hq=>by simp[dm]at hq⟩,by simp[dm],by simp[dm],by simp[dm],λq hq=>by simp[dm]at hq⟩
theorem Nj(a:CV)(c:Int):k6 [a,.rv (.agg [.ah (.val (.int .i64 5)),.aK,.aK,.ah (.val (.string ⟨#[]⟩)),.ah (.val (.int .i64 (-1))),.aK,.ah (.val (.int .i64 c)),.ah (.val (.int .i64 0)),.ah (.val (.int .i64 0))])] [a,(dm c).cv]:=
 .dB _ (.agg (.cons (.dB _) (.cons (.aK 1) (.cons (.aK 2) (.cons (.dB _) (.cons (.dB _) (.cons (.aK 4) (.cons (.dB _) (.cons (.dB _) (.cons (.dB _) .nil))))))))) .nil)
theorem zF{l:List Obj}{o x:Obj}(h:x∈(aG l o).1):x∈l\/x=o:=by
 unfold aG at h;split at h
 .exact aaC h
 .split at h
  .simp at h
  .simpa using h
theorem JE(l:List Obj)(o:Obj):(aG l o).1.length<=l.length+1:=by
 unfold aG;split
 .simp
 .split<;>simp
theorem Nk{m:Mem}{a b:RV}{x y z:Int}(h:eP m a b):cL m (.bz [a,cG x,cG y,cG z]) (.bz [b,cG x,cG y,cG z]):=by
 refine .bz rfl λi r r' h1 h2=>?_
 match i,h1,h2 with
 |0,h1,h2=>cases h1;cases h2;exact h
 |1,h1,h2=>cases h1;cases h2;exact eP.self rfl
 |2,h1,h2=>cases h1;cases h2;exact eP.self rfl
 |3,h1,h2=>cases h1;cases h2;exact eP.self rfl
 |n+4,h1,h2=>simp at h1
def xd(l:List Obj)(ops:List bF)(P:List bm)(n:Nat)(c:Int):Kr×Int×Int×Int:=
 if(aG l (dm c)).2.2≠0 then(mr,0,0,(aG l (dm c)).2.2)
 else if(aL ⟨(aG l (dm c)).1,ops,P⟩ n (aG l (dm c)).2.1 3200).2.2≠0 then(mr,0,0,(aL ⟨(aG l (dm c)).1,ops,P⟩ n (aG l (dm c)).2.1 3200).2.2)
 else((aL ⟨(aG l (dm c)).1,ops,P⟩ n (aG l (dm c)).2.1 3200).1,c,(aL ⟨(aG l (dm c)).1,ops,P⟩ n (aG l (dm c)).2.1 3200).2.1,0)
def gY(ps:List bm)(n c:Nat):List bm:=match ps[n]? with
 |some x=>if c=ps.length then ps++ [⟨true,x.fenced,0,x.aU⟩]else ps.set c ⟨true,x.fenced,0,x.aU⟩
 |none=>ps
def gH(k:Kr)(p:Int):Kr×Int×Int×Int:=
 if fj k.ps p=false then(mr,0,0,6)else if gO k.l k.ps<0 then(mr,0,0,15)
 else xd k.l k.ops (gY k.ps p.toNat (gO k.l k.ps).toNat) p.toNat (gO k.l k.ps)
def HQ(a:Kr×Int×Int×Int):CV:= .bz [ji a.1,cG a.2.1,cG a.2.2.1,cG a.2.2.2]
def C36:LC:=bL (bL (bL (bL (bL (bL c77.code)))))
def G36:LC:=qM C36
def C55:LC:=bL G36
def G55:LC:=qM C55
theorem W0(l:List Obj)(ops:List bF)(P:List bm)(hk:dI l ops P)(FF:l.length<=4194303)(n:Nat)(hn:n<P.length)(c:Int):
  aw prog 0 G55 (oC prog c77.lP (λr m=>cL m r (HQ (xd l ops P n c))))
   ⟨kz 84 [(1,an .i64 (n:Nat)),(4,.rv (.one (.ptr 0 0))),(8,an .i64 c),(9,.rv (.one (.ptr 1 0)))],[.var [.aK,.aK,.aK],.var ((kC l ops P).map .ah)]⟩:=by
 have hA1:∀x,x∈(aG l (dm c)).1->x.sm:=λx hx=>by
  rcases zF hx with hx|rfl
  .exact hk.sm x hx
  .exact Dh c
 have hA2:=JE l (dm c);refine mW (Nj _ _) (AU l ⟨hk.ll,λo ho=>(hk.sm o ho).oi⟩ (dm c) ?_)
 unfold xd;generalize aG l (dm c)=A at hA1 hA2;obtain⟨A1,k,e⟩:=A;refine bt (λhe=>?_) (λhe=>?_)
 .rw[if_pos he];exact Nk gX
 have he:e=0:=he;subst he;rw[if_neg aC];refine tV ⟨A1,ops,P⟩ ⟨hA1,by have hA2:A1.length<=l.length+1:=hA2;show A1.length<=4194304;omega,hk.lo,hk.lp,hk.sl,hk.ne⟩ n hn k 3200 ?_
 generalize aL ⟨A1,ops,P⟩ n k 3200=B;obtain⟨B1,fd,e2⟩:=B;refine bt (λke=>?_) (λke=>?_)
 .rw[if_pos ke];exact Nk gX
 have ke:e2=0:=ke;subst ke;rw[if_neg aC];exact Nk (eP.self (A9 _))
theorem o4(l:List Obj)(ps:List bm):∀(n p c:Nat),oZ l ps n p=(c:Nat)->p<=ps.length->c<=ps.length/\p<=c/\c<p+n/\(c<ps.length->sr l ps c=true)
 |0,p,c,h,_=>by have h:(-1:Int)=(c:Nat):=h;omega
 |n+1,p,c,h,hp=>by
  rw[oZ]at h;by_cases h1:p=ps.length
  .rw[if_pos h1]at h;have:p=c:=om;subst this;exact⟨om,om,om,λh2=>om⟩
  .rw[if_neg h1]at h;by_cases h2:sr l ps p=true
   .rw[if_pos h2]at h;have:p=c:=om;subst this;exact⟨om,om,om,λ_=>h2⟩
   .rw[if_neg h2]at h;obtain⟨a,b,c1,d⟩:=o4 l ps n (p+1) c h om;exact⟨a,om,om,d⟩
theorem Sc(k:Kr)(hk:dI k.l k.ops k.ps)(FF:k.l.length<=4194303)(P:List bm)(hP:∀p,p∈P->p.aU.length<=10)(YC:P.length<=4194304)(n:Nat)(hn:n<k.ps.length)(hnP:n<P.length)(c:Nat)(hc:c<P.length):
  aw prog 0 G36 (oC prog c77.lP (λr m=>cL m r (HQ (xd k.l k.ops (P.set c ⟨true,k.ps[n].fenced,0,k.ps[n].aU⟩) n (c:Nat)))))
   ⟨kz 84 [(1,an .i64 (n:Nat)),(2,.rv (.one (.ptr 0 0))),(4,.rv (.one (.ptr 1 0))),(8,an .i64 (c:Nat)),(9,.rv (.one (.ptr 5 0)))],
    [.var ((kC k.l k.ops k.ps).map .ah),.var [.aK,.aK,.aK],.row 9 (aa (k.l.map Obj.enc)),.row 2 (aa (k.ops.map bF.enc)),.row 4 (aa (P.map bm.enc)),.var [.row 2 9 0 none,.row 3 2 0 none,.row 4 4 0 none]]⟩:=by
 have hg:=dy hn;have y8:=hk.sl _ (aar hn);have hr:=bJ bm.enc P hc;generalize k.ps[n]=z at hg y8;obtain⟨aP,fenced,cd,aU⟩:=z;have y8:aU.length<=10:=y8;generalize P[c]=w at hr;obtain⟨wl,wf,wc,ws⟩:=w;refine af hg ?_;refine af hg ?_;refine jv aU om ?_;refine⟨⟨rfl,af hg rfl,rfl,rfl,trivial⟩,?_⟩;refine af (ml hc) ?_;refine af hr ?_;refine⟨trivial,?_⟩;have jo:∀x,x∈P.set c ⟨true,fenced,0,aU⟩->x.aU.length<=10:=λx hx=>by
  rcases aaC hx with hx|rfl
  .exact hP x hx
  .exact y8
 have eF:=W0 k.l k.ops (P.set c ⟨true,fenced,0,aU⟩) ⟨hk.sm,hk.ll,hk.lo,by rw[aay];exact YC,jo,λh=>by have:=congrArg List.length h;rw[aay,aa9]at this;omega⟩ FF n (by rw[aay];exact hnP) (c:Nat)
 refine⟨_,View.o1 6 [1,5] [2,3,4] ?_,eF⟩
 .refine .pe rfl rfl rfl (.pt rfl rfl (fh.var (.cons (.fE (dR.eW (Z:=λk=>bx [2,3,4] k=true) rfl rfl 0 none)) (.cons (.fE (dR.eW (Z:=λk=>bx [2,3,4] k=true) rfl rfl 0 none)) (.cons (.fE (Ni (Z:=λk=>bx [2,3,4] k=true) (c:=(bm.enc ⟨true,fenced,0,aU⟩).map .ah) ?_ rfl rfl)) .nil)))) (.nil _))
  exact .cons (.ah _) (.cons (.ah _) (.cons (.ah _) (.cons (.ah _) .nil)))
theorem JF(k:Kr)(hk:dI k.l k.ops k.ps)(FF:k.l.length<=4194303)(p:Int):body prog c77 [ez k.l k.ops k.ps,an .i64 p] [] (λr m=>cL m r (HQ (gH k p))):=by
 refine oX k.l k.ops k.ps p ?_;have h2:=hk.lp;refine aM (λh1=>?_) (λh1=>?_)
 .have h1:fj k.ps p=false:=by simpa using h1
  rw[gH,if_pos h1];exact Nk gX
 have h1:fj k.ps p=true:=by simpa using h1
 obtain⟨n,rfl,hn,b9⟩:=oY h1;rw[gH,if_neg (by rw[h1];simp)]
 refine fo (args0:=[.rv (.one (.ptr 0 0))]) (cs:=kC k.l k.ops k.ps) 0 rfl rfl (r0:=an .i64 (gO k.l k.ps)) rfl (λK hK=>A8 k.l hk.ll k.ops k.ps K hK) ?_
 refine aN (λh3=>?_) (λh3=>?_)
 .rw[if_pos h3];exact Nk gX
 rw[if_neg h3];obtain⟨c,hc⟩:∃c:Nat,gO k.l k.ps=(c:Int):=⟨(gO k.l k.ps).toNat,om⟩;obtain⟨eC,_,hc8,_⟩:=o4 k.l k.ps 8 0 c hc (aan _);rw[hc,show((n:Nat):Int).toNat=n from rfl,show((c:Nat):Int).toNat=c from rfl];refine iN k.l k.ops k.ps ⟨hk.ll,λo ho=>(hk.sm o ho).oi⟩ hk.lo hk.lp hk.sl hk.ne ?_
 refine bs (λlT=>?_) (λlT=>?_)
 .have lT:c=k.ps.length:=by have lT:(c:Int)=((aa (k.ps.map bm.enc)).length:Int):=lT;rw[bh,Nr]at lT;omega
  have hfp:gY k.ps n c=(k.ps++ [gk]).set c ⟨true,k.ps[n].fenced,0,k.ps[n].aU⟩:=by rw[gY,vl hn];simp only[];rw[if_pos lT,lT];simp
  rw[hfp];refine⟨by simp only[bV,bh,Nr,aaj,aa9];omega,?_⟩
  have eF:=Sc k hk FF (k.ps++ [gk]) (λx hx=>by
   rcases abL.1 hx with hx|hx
   .exact hk.sl x hx
   .simp at hx;subst hx;simp[gk]) (by simp;omega) n hn (by simp;omega) c (by simp;omega)
  refine⟨_,View.o1 8 [0,1,2,3,7,5] [] ?_,eF⟩
  .exact .pt rfl rfl (.eq rfl (by simp[kC])) (.pe rfl rfl rfl (.pr rfl rfl rfl (.pr rfl rfl rfl (.pt rfl rfl (WM k.ps gk (.fE (.aK 3)) (by simp[bV,aa,CC.bg,gk])) (.pm rfl rfl rfl)))))
 .have aD:c<k.ps.length:=by have lT:¬(c:Int)=((aa (k.ps.map bm.enc)).length:Int):=lT;rw[bh,Nr]at lT;omega
  have hfp:gY k.ps n c=k.ps.set c ⟨true,k.ps[n].fenced,0,k.ps[n].aU⟩:=by rw[gY,vl hn];simp only[];rw[if_neg om]
  rw[hfp];have eF:=Sc k hk FF k.ps hk.sl hk.lp n hn hn c aD;refine⟨_,View.o1 6 [0,1,2,3,4,5] [] ?_,eF⟩
  .exact .au
theorem HR(k:Kr)(hk:dI k.l k.ops k.ps)(FF:k.l.length<=4194303)(p:Int){m:Mem}{K:CV->Mem->Prop}(h:K (HQ (gH k p)) m):ap prog 77 [ez k.l k.ops k.ps,an .i64 p] m K:=
 be (b8 func77 l77 (JF k hk FF p)) (by simp[ez,dk,eX,gl,an,CV.dv,CC.dv,RV.dv]) λr m1 hf=>⟨_,hf,h⟩
def c62:LF:= ⟨40,[.tmp 6,.tmp 7],(.seq (.ai [qu 6 (.aI qe),qu 7 (.aI (qi 0))]) (.seq (.ai [qm 12 0,qm 13 1,qu 14 (qc 73 [12,13]),qm 11 14,qu 15 (.ext 11 0),qu 16 (.ext 11 1),qu 8 (.alloc [qd 0,qd 0]),qw (.store 2 8 15),qm 9 16]) (.seq (.block 0 (.seq (.ai [qm 18 9,qu 19 (.aJ .neq 18 (qi 0)),qm 17 19]) (.cond 17 (.seq (.ai [qm 20 9,qu 6 (.aI qe),qm 7 20]) .ret) (.seq (.ai [qm 22 2,qu 23 (qc 54 [22]),qu 24 (.un .not 23),qm 21 24]) (.cond 21 (.seq (.ai [qu 6 (.aI qe),qu 7 (.aI (qi 3))]) .ret) (.seq (.ai [qm 26 2,qf 27 1 8,ql 28 27,qu 29 (qc 101 [26,28]),qu 30 (.un .not 29),qm 25 30]) (.cond 25 (.seq (.ai [qu 6 (.aI qe),qu 7 (.aI (qi 10))]) .ret) .skip))))))) (.seq (.ai [qm 31 0,qu 32 (qc 100 [31]),qm 10 32]) (.seq (.ai [qm 33 10,qm 34 1,qm 35 2,qu 36 (.cr 3 33 34),qf 37 1 36,qf 38 1 37,qw (.store 1 38 35)]) (.seq (.ai [qm 39 10,qm 6 39,qu 7 (.aI (qi 0))]) .ret))))))⟩
namespace Tb
theorem l62:bw prog f62=some c62:=by kernel_rfl
def yF(l:List bY)(fd n:Int):List bY×Int:=
 if(eA l fd).2=0 then
  if fa n=false then([],3)else if g9 n (eA l fd).1.cj=false then([],10)else(l.set fd.toNat ⟨true,⟨(eA l fd).1.dS,n⟩⟩,0)
 else([],(eA l fd).2)
theorem FG(l:List bY)(hb:l.length<=2097152)(fd n:Int):body prog c62 [dU l,an .i64 fd,an .i64 n] [] (λr m=>cL m r (.bz [jx (yF l fd n).1,cG (yF l fd n).2])):=by
 refine w8 l fd ?_;refine aM (λh=>?_) (λh=>?_)
 .have h:¬(eA l fd).2=0:=by simpa using h
  rw[yF,if_neg h];exact kH (.one (.aK 3))
 .have h:(eA l fd).2=0:=by simpa using h
  rw[yF,if_pos h];refine w9 n ?_;refine aM (λh1=>?_) (λh1=>?_)
  .have h1:fa n=false:=by simpa using h1
   rw[if_pos h1];exact kH (.one (.aK 3))
  .have h1:fa n=true:=by simpa using h1
   rw[if_neg (by simp[h1])]
   refine zA _ _ ?_;refine aM (λh2=>?_) (λh2=>?_)
   .have h2:g9 n (eA l fd).1.cj=false:=by simpa using h2
    rw[if_pos h2];exact kH (.one (.aK 3))
   .have h2:g9 n (eA l fd).1.cj=true:=by simpa using h2
    rw[if_neg (by simp[h2])]
    obtain⟨d,rfl,hd,WW,bc⟩:=HO h;rw[show((d:Nat):Int).toNat=d from rfl];refine pG l hb (λhl=>by subst hl;simp at hd) ?_
    refine af (ct (k:=d) (by simp[cm,lenOf];omega)) ?_
    refine af (x:=(l[d].enc).map .ah) (by simp[aT,cm,iB,hd]) ?_
    refine kH (.one ?_);have e:aW (cm l) d [CC.ah (.val (.bool l[d].has)),CC.ah (.val (.int .i64 l[d].cap.dS)),CC.ah (.val (.int .i64 n))]=aa ((l.set d ⟨true,⟨(eA l d).1.dS,n⟩⟩).map bY.enc):=by rw[aY,WW,bc];simp[cm,aa,bY.enc]
    exact eV.eW (congrArg (λx=>some (Bk.row 3 x)) e) 0 none
theorem Nl(l:List bY)(hb:l.length<=2097152)(fd n:Int){m:Mem}{K:CV->Mem->Prop}(h:K (.bz [jx (yF l fd n).1,cG (yF l fd n).2]) m):ap prog 62 [dU l,an .i64 fd,an .i64 n] m K:=
 be (aZ func62 l62 (FG l hb fd n)) (by simp[dU,an,CV.dv,CC.dv]) λr m1 hf=>⟨_,hf,h⟩
end Tb
def c134:LF:= ⟨49,[.tmp 6,.tmp 7],(.seq (.ai [qu 6 (.aI (qi 0)),qu 7 (.aI (qb false))]) (.seq (.ai [qm 12 0,qu 13 (.len 1 12),qm 8 13]) (.seq (.ai [qm 14 8,qu 9 (.aI (qi 0)),qm 10 14]) (.seq (.block 0 (.loop (.seq (.seq (.ai [qm 15 9,qm 16 10,qu 17 (.aJ .lss 15 16)]) (.cond 17 .skip (.exit 0))) (.block 1 (.seq (.ai [qm 18 9,qm 19 10,qu 20 (.aJ .add 18 19),qu 21 (.conv .u64 20),qu 22 (.aJ .shr 21 (.c (.rv (.one (.ah (.val (.int .u64 (1)))))))),qu 23 (.conv .i64 22),qm 11 23]) (.seq (.ai [qm 24 2,qm 25 0,qm 26 11,qu 27 (.cr 2 25 26),qL 28 2 27,qm 29 1,qu 30 (.call 24 [28,29]),qu 31 (.aJ .lss 30 (qi 0))]) (.cond 31 (.ai [qm 32 11,qu 33 (.aJ .add 32 (qi 1)),qm 9 33]) (.ai [qm 34 11,qm 10 34])))))))) (.seq (.ai [qm 35 9,qm 36 9,qm 37 8,qu 38 (.aJ .lss 36 37),qm 39 38,qg 40 (.aI 2) 39 true,qg 41 (.aI 0) 39 true,qg 42 (.aI 9) 39 true,qg 43 (.cr 2 41 42) 39 true,qg 44 (.load true 2 43) 39 true,qg 45 (.aI 1) 39 true,qg 46 (.call 40 [44,45]) 39 true,qg 47 (.aJ .eql 46 (qi 0)) 39 true,qu 48 (.pick 39 47 (qb false)),qm 6 35,qm 7 48]) .ret)))))⟩
def c135:LF:= ⟨9,[.tmp 4],(.seq (.ai [qu 2 (.box 0),qu 4 (.aI (qi 0))]) (.seq (.ai [qf 5 0 2,ql 6 5,qm 7 1,qu 8 (qc 136 [6,7]),qm 4 8]) .ret))⟩
def c136:LF:= ⟨20,[.tmp 4],(.seq (.ai [qu 4 (.aI (qi 0))]) (.seq (.ai [qm 7 0,qu 8 (qc 150 [7]),qm 5 8]) (.seq (.ai [qm 9 1,qu 10 (qc 150 [9]),qm 6 10]) (.seq (.seq (.ai [qm 11 5]) (.cond 11 (.seq (.seq (.ai [qm 12 6]) (.cond 12 (.seq (.ai [qu 4 (.aI (qi 0))]) .ret) .skip)) (.seq (.ai [qu 4 (.aI (qi (-1)))]) .ret)) .skip)) (.seq (.seq (.ai [qm 13 6]) (.cond 13 (.seq (.ai [qu 4 (.aI (qi 1))]) .ret) .skip)) (.seq (.seq (.ai [qm 14 0,qm 15 1,qu 16 (.aJ .lss 14 15)]) (.cond 16 (.seq (.ai [qu 4 (.aI (qi (-1)))]) .ret) .skip)) (.seq (.seq (.ai [qm 17 0,qm 18 1,qu 19 (.aJ .gtr 17 18)]) (.cond 19 (.seq (.ai [qu 4 (.aI (qi 1))]) .ret) .skip)) (.seq (.ai [qu 4 (.aI (qi 0))]) .ret))))))))⟩
def c150:LF:= ⟨6,[.tmp 2],(.seq (.ai [qu 2 (.aI (qb false))]) (.seq (.ai [qm 3 0,qm 4 0,qu 5 (.aJ .neq 3 4),qm 2 5]) .ret))⟩
theorem l150:bw prog f150=some c150:=by kernel_rfl
theorem l136:bw prog f136=some c136:=by kernel_rfl
theorem l135:bw prog f135=some c135:=by kernel_rfl
theorem l134:bw prog f134=some c134:=by kernel_rfl
def Sd(a b:ByteArray):Bool:=Op.bytesLess a.toList b.toList
def U3(a b:ByteArray):Bool:= !(Op.bytesLess a.toList b.toList||a.toList==b.toList)
def ld(a b:ByteArray):Int:=if Sd a b=true then -1 else if U3 a b=true then 1 else 0
theorem Nm(a:ByteArray):body prog c150 [eU a] [] (λr m=>r=aE false):=by show aE (!(a.toList==a.toList))=aE false;simp
theorem Nn(a:ByteArray){m:Mem}{K:CV->Mem->Prop}(h:K (aE false) m):ap prog 150 [eU a] m K:=
 bA func150 l150 rfl (aah rfl) (Nm a) rfl rfl h
theorem No(a b:ByteArray):body prog c136 [eU a,eU b] [] (λr m=>r=an .i64 (ld a b)):=by
 refine Nn a ?_;refine Nn b ?_;refine aM (λh1=>?_) (λh1=>?_)
 .show an _ _=an _ _;rw[ld,if_pos (show Sd a b=true from h1)]
 refine aM (λh2=>?_) (λh2=>?_)
 .show an _ _=an _ _;rw[ld,if_neg (by rw[show Sd a b=false from h1];simp),if_pos (show U3 a b=true from h2)]
 .show an _ _=an _ _;rw[ld,if_neg (by rw[show Sd a b=false from h1];simp),if_neg (by rw[show U3 a b=false from h2];simp)]
theorem Np(a b:ByteArray){m:Mem}{K:CV->Mem->Prop}(h:K (an .i64 (ld a b)) m):ap prog 136 [eU a,eU b] m K:=
 bA func136 l136 rfl (aah rfl) (No a b) rfl rfl h
def cY(e:ByteArray×Int):List Dt:=[.val (.string e.1),.val (.int .i64 e.2)]
def xe(e:ByteArray×Int):CV:= .rv (.agg ((cY e).map .ah))
theorem FH(e:ByteArray×Int)(s:ByteArray):body prog c135 [xe e,eU s] [] (λr m=>r=an .i64 (ld e.1 s)):=
 Np e.1 s rfl
theorem Se(e:ByteArray×Int)(s:ByteArray){m:Mem}{K:CV->Mem->Prop}(h:K (an .i64 (ld e.1 s)) m):ap prog 135 [xe e,eU s] m K:=
 bA func135 l135 rfl (aah rfl) (FH e s) rfl rfl h
def JG(es:List (ByteArray×Int))(s:ByteArray):Nat->Nat->Nat->Nat
 |0,i,_=>i
 |n+1,i,j=>if i<j then(match es[(i+j)/2]? with
   |some e=>if ld e.1 s<0 then JG es s n ((i+j)/2+1) j else JG es s n i ((i+j)/2)
   |none=>i)else i
def qS(es:List (ByteArray×Int))(s:ByteArray):Nat:=JG es s es.length 0 es.length
def Bd(es:List (ByteArray×Int))(s:ByteArray):Bool:=match es[qS es s]? with|some e=>ld e.1 s==0|none=>false
structure aaD where
 i:Nat
 j:Nat
theorem o5{es:List (ByteArray×Int)}{k:Nat}(h:k<es.length):dC (es.map cY) (k:Nat)=some [.val (.string es[k].1),.val (.int .i64 es[k].2)]:=by rw[bD,Sf,vl h];rfl
theorem FI{i j:Nat}(h:i+j<=4294967296):IntKind.i64.wrap ((IntKind.u64.wrap (IntKind.i64.wrap ((i:Int)+(j:Int)))).fdiv (2^(min (1:Int).toNat IntKind.u64.bits)))=(((i+j)/2:Nat):Int):=by
 rw[show(i:Int)+(j:Int)=((i+j:Nat):Int) by omega,nY om]
 have hu:IntKind.u64.wrap ((i+j:Nat):Int)=((i+j:Nat):Int):=by simp only[IntKind.wrap,IntKind.bits,IntKind.signed];simp;omega
 rw[hu,show(2:Int)^(min (1:Int).toNat IntKind.u64.bits)=((2:Nat):Int)from rfl];rw[show(((i+j:Nat):Int)).fdiv ((2:Nat):Int)=(((i+j)/2:Nat):Int) by rw[Int.fdiv_eq_ediv_of_nonneg _ om];exact(Int.natCast_ediv _ _).symm]
 rw[nY om]
theorem Qk(es:List (ByteArray×Int))(hl:es.length<=2147483648)(s:ByteArray)(F:Nat)(hF:∀(e:ByteArray×Int)(m:Mem)(K:CV->Mem->Prop),K (an .i64 (ld e.1 s)) m->ap prog F [xe e,eU s] m K):
  body prog c134 [rY 2 (es.map cY),eU s,.rv (.one (.fn F []))] [] (λr m=>r= .bz [.one (.ah (.val (.int .i64 (qS es s:Nat)))),.one (.ah (.val (.bool (Bd es s))))]):=by
 refine ba (λa:aaD=>a.i<=a.j/\a.j<=es.length/\∃n,a.j-a.i<=n/\JG es s n a.i a.j=qS es s) [0,1,2] (λa=>[(8,an .i64 (es.length:Nat)),(9,an .i64 (a.i:Nat)),(10,an .i64 (a.j:Nat))]) (λ_=>[]) (λa=>a.j-a.i) ⟨0,es.length⟩ ⟨aan _,T5 _,es.length,aC,rfl⟩ ?_ (λa ha=>?_)
 .refine View.o 0 [] [] ?_ (.nil _);have hlen:an .i64 (((es.map cY).length:Nat):Int)=an .i64 ((es.length:Nat):Int):=by rw[Nr]
  repeat(first|exact .nil|refine .aF ?_|refine .eq rfl ?_|refine .eq hlen.symm ?_)
 obtain⟨i,j⟩:=a;obtain⟨h1,h2,n,h3,h4⟩:=ha;have h1:i<=j:=h1;have h2:j<=es.length:=h2;have h3:j-i<=n:=h3;have h4:JG es s n i j=qS es s:=h4;refine aN (λh=>?_) (λh=>?_)
 .have aD:i<j:=by have h:(i:Int)<(j:Int):=h;omega
  obtain⟨n,rfl⟩:∃n',n=n'+1:=⟨n-1,om⟩;have hh:(i+j)/2<es.length:=om;rw[JG,if_pos aD,vl hh]at h4;have ek:dC (es.map cY) (IntKind.i64.wrap ((IntKind.u64.wrap (IntKind.i64.wrap ((i:Int)+(j:Int)))).fdiv (2^(min (1:Int).toNat IntKind.u64.bits))))=some [.val (.string es[(i+j)/2].1),.val (.int .i64 es[(i+j)/2].2)]:=by rw[FI om];exact o5 hh
  refine af ek ?_;refine hF es[(i+j)/2] _ _ ?_;refine aN (λh5=>?_) (λh5=>?_)
  .have h5:ld es[(i+j)/2].1 s<0:=h5;simp only[]at h4;rw[if_pos h5]at h4;refine⟨⟨(i+j)/2+1,j⟩,⟨by show(i+j)/2+1<=j;omega,h2,n,by show j-((i+j)/2+1)<=n;omega,h4⟩,(show j-((i+j)/2+1)<j-i by omega),View.o 0 [] [] ?_ (.nil _)⟩
   have e1:an .i64 (IntKind.i64.wrap (IntKind.i64.wrap ((IntKind.u64.wrap (IntKind.i64.wrap ((i:Int)+(j:Int)))).fdiv (2^(min (1:Int).toNat IntKind.u64.bits)))+1))=an .i64 (((i+j)/2+1:Nat):Int):=by
    rw[FI om,show(((i+j)/2:Nat):Int)+1=(((i+j)/2+1:Nat):Int) by omega,nY om]
   repeat(first|exact .nil|refine .aF ?_|refine .eq rfl ?_|refine .eq e1.symm ?_)
  .have h5:¬ld es[(i+j)/2].1 s<0:=h5;simp only[]at h4;rw[if_neg h5]at h4;refine⟨⟨i,(i+j)/2⟩,⟨by show i<=(i+j)/2;omega,by show(i+j)/2<=es.length;omega,n,by show(i+j)/2-i<=n;omega,h4⟩,(show(i+j)/2-i<j-i by omega),View.o 0 [] [] ?_ (.nil _)⟩
   have e1:an .i64 (IntKind.i64.wrap ((IntKind.u64.wrap (IntKind.i64.wrap ((i:Int)+(j:Int)))).fdiv (2^(min (1:Int).toNat IntKind.u64.bits))))=an .i64 (((i+j)/2:Nat):Int):=by rw[FI om]
   repeat(first|exact .nil|refine .aF ?_|refine .eq rfl ?_|refine .eq e1.symm ?_)
 .have pN:i=j:=by have h:¬(i:Int)<(j:Int):=h;omega
  subst pN;have hI:qS es s=i:=by
   rw[<-h4];cases n with
   |zero=>rfl
   |succ n=>rw[JG,if_neg (Nat.lt_irrefl _)]
  rw[Bd,hI];refine aN (λh6=>?_) (λh6=>?_)
  .have aD:i<es.length:=by have h6:(i:Int)<(es.length:Int):=h6;omega
   refine af (o5 aD) ?_;refine hF es[i] _ _ ?_;show CV.bz _=CV.bz _;rw[vl aD]
  .have ek:¬i<es.length:=by have h6:¬(i:Int)<(es.length:Int):=h6;omega
   show CV.bz _=CV.bz _;rw[aaz om]
def YI(es:List (ByteArray×Int))(s:ByteArray):CV:= .bz [.one (.ah (.val (.int .i64 (qS es s:Nat)))),.one (.ah (.val (.bool (Bd es s))))]
theorem Nq(es:List (ByteArray×Int))(hl:es.length<=2147483648)(s:ByteArray)(F:Nat)(hF:∀(e:ByteArray×Int)(m:Mem)(K:CV->Mem->Prop),K (an .i64 (ld e.1 s)) m->ap prog F [xe e,eU s] m K){m:Mem}{K:CV->Mem->Prop}(h:K (YI es s) m):ap prog 134 [rY 2 (es.map cY),eU s,.rv (.one (.fn F []))] m K:=by
 refine be (K0:=λr _=>r=YI es s) (aZ func134 l134 (Qk es hl s F hF)) (by simp[rY,eU,CV.dv,CC.dv,RV.dv]) λr m1 hr=>?_
 subst hr;exact⟨_,cL.self rfl,h⟩
theorem TN(es:List (ByteArray×Int))(hl:es.length<=2147483648)(s:ByteArray)(F:Nat)(hF:∀(e:ByteArray×Int)(m:Mem)(K:CV->Mem->Prop),K (an .i64 (ld e.1 s)) m->ap prog F [xe e,eU s] m K){m:Mem}{id:Nat}(hb:cD m id=some (.row 2 (aa (es.map cY)))){K:CV->Mem->Prop}(h:K (YI es s) m):ap prog 134 [.rv (.one (.row id 2 0 none)),eU s,.rv (.one (.fn F []))] m K:=
 My [id] (args0:=[rY 2 (es.map cY),eU s,.rv (.one (.fn F []))]) (Nq es hl s F hF (K:=λr _=>r=YI es s) rfl) (.put (ri.fE id (es.map cY) (by simp[bx]) hb) (.eq rfl (.eq rfl .nil))) λr m1 hr=>by subst hr;exact⟨rfl,h⟩
def Tryz.Di:Go.Shelf.Ren:=⟨λ|143=>149|219=>154|217=>156|225=>157|224=>158|267=>159|266=>161|314=>162|n=>n,λ|9=>9|3=>3|4=>4|5=>5|46=>127|146=>267|51=>187|n=>n,λ|1=>0|n=>n⟩
theorem Tryz.Ql:Go.Proofs.Lays.n143 prog Tryz.Di:={
 mixed:=by kernel_rfl,
 f143:=func149.trans (congrArg some (by kernel_rfl)),
 f217:=func156.trans (congrArg some (by kernel_rfl)),
 f219:=func154.trans (congrArg some (by kernel_rfl)),
 f224:=func158.trans (congrArg some (by kernel_rfl)),
 f225:=func157.trans (congrArg some (by kernel_rfl)),
 f266:=func161.trans (congrArg some (by kernel_rfl)),
 f267:=func159.trans (congrArg some (by kernel_rfl)),
 f314:=func162.trans (congrArg some (by kernel_rfl)),
 t3:=underlying3,
 a3:=isAgg3,
 z3:=sizeOf3,
 v3:=zeroValue3,
 t4:=underlying4,
 a4:=isAgg4,
 z4:=sizeOf4,
 v4:=zeroValue4,
 t5:=underlying5,
 a5:=isAgg5,
 z5:=sizeOf5,
 v5:=zeroValue5,
 t9:=underlying9,
 a9:=isAgg9,
 z9:=sizeOf9,
 v9:=zeroValue9,
 t46:=underlying127,
 a46:=isAgg127,
 z46:=sizeOf127,
 v46:=zeroValue127,
 t51:=underlying187,
 a51:=isAgg187,
 z51:=sizeOf187,
 v51:=zeroValue187,
 t146:=underlying267,
 a146:=isAgg267,
 z146:=sizeOf267,
 v146:=zeroValue267,
 g1:=by kernel_rfl}
def Tryz.uX:Go.Shelf.Ren:=⟨λ|156=>64|165=>102|166=>103|169=>104|240=>129|241=>130|276=>145|277=>146|n=>n,λ|31=>146|9=>9|3=>3|4=>4|0=>0|20=>20|72=>198|76=>202|70=>196|37=>23|75=>201|127=>241|164=>252|5=>5|80=>204|n=>n,λ|n=>n⟩
theorem Tryz.HS:Go.Proofs.Lays.n156 prog Tryz.uX:={
 mixed:=by kernel_rfl,
 f156:=func64.trans (congrArg some (by kernel_rfl)),
 f165:=func102.trans (congrArg some (by kernel_rfl)),
 f166:=func103.trans (congrArg some (by kernel_rfl)),
 f169:=func104.trans (congrArg some (by kernel_rfl)),
 f240:=func129.trans (congrArg some (by kernel_rfl)),
 f241:=func130.trans (congrArg some (by kernel_rfl)),
 f276:=func145.trans (congrArg some (by kernel_rfl)),
 f277:=func146.trans (congrArg some (by kernel_rfl)),
 t0:=underlying0,
 a0:=isAgg0,
 z0:=sizeOf0,
 v0:=zeroValue0,
 t3:=underlying3,
 a3:=isAgg3,
 z3:=sizeOf3,
 v3:=zeroValue3,
 t4:=underlying4,
 a4:=isAgg4,
 z4:=sizeOf4,
 v4:=zeroValue4,
 t9:=underlying9,
 a9:=isAgg9,
 z9:=sizeOf9,
 v9:=zeroValue9,
 t20:=underlying20,
 a20:=isAgg20,
 z20:=sizeOf20,
 v20:=zeroValue20,
 t31:=underlying146,
 a31:=isAgg146,
 z31:=sizeOf146,
 v31:=zeroValue146,
 t37:=underlying23,
 a37:=isAgg23,
 z37:=sizeOf23,
 v37:=zeroValue23,
 t70:=underlying196,
 a70:=isAgg196,
 z70:=sizeOf196,
 v70:=zeroValue196,
 t72:=underlying198,
 a72:=isAgg198,
 z72:=sizeOf198,
 v72:=zeroValue198,
 t75:=underlying201,
 a75:=isAgg201,
 z75:=sizeOf201,
 v75:=zeroValue201,
 t76:=underlying202,
 a76:=isAgg202,
 z76:=sizeOf202,
 v76:=zeroValue202,
 t127:=underlying241,
 a127:=isAgg241,
 z127:=sizeOf241,
 v127:=zeroValue241,
 t164:=underlying252,
 a164:=isAgg252,
 z164:=sizeOf252,
 v164:=zeroValue252}
theorem Tryz.HT:Builder.Extra prog Tryz.uX:={
 sizeBuilder:=by kernel_rfl,
 liesBuilder:=by kernel_rfl,
 t5:=underlying5,
 a5:=isAgg5,
 z5:=sizeOf5,
 v5:=zeroValue5,
 infoByte:=by kernel_rfl,
 cellsByte:=by kernel_rfl,
 sizeByte:=by kernel_rfl,
 neB5:=by decide}
namespace bK
theorem JH(s:ByteArray)(c:UInt8)(w:World):Calls prog 149 #[.string s,.string ⟨#[c]⟩] w λe w'=>e= .returned (.int .i64 (Lib.indexByte s.data.toList c))/\w'=w:=
 Any.strings_Index_one Tryz.Ql s c w
end bK
theorem JI(a:Option Addr)(c:Nat)(sep:ByteArray)(w:World):Calls prog 64 #[.slice a 0 c,.string sep] w λe w'=>e= .returned (.string ⟨#[]⟩)/\w'=w:=
 Any.strings_Join_none Tryz.HS Tryz.HT a c sep w
theorem Qm(bk o c:Nat)(xs:List ByteArray)(sep:ByteArray)(w:World)(dG:∀(j:Nat)x,xs[j]? =some x->w.cell? ⟨bk,o+j,none⟩=some (.string x))(c9:bk<w.heap.size)(hN:xs.length<=140737488355328)(bc:xs.length<=c)(hlen:(Lib.join (xs.map (·.data.toList)) sep.data.toList).length<=140737488355328):
  Calls prog 64 #[.slice (some ⟨bk,o,none⟩) xs.length c,.string sep] w λe w'=>e= .returned (.string ⟨(Lib.join (xs.map (·.data.toList)) sep.data.toList).toArray⟩)/\Below w.heap.size w w':=
 Any.strings_Join Tryz.HS Tryz.HT bk o c xs sep w dG c9 hN bc hlen
namespace bK
attribute [local go_sem] Oper.semAt_some
def gP(c:UInt8):List UInt8->List (List UInt8)
 | []=>[[]]
 |x::r=>if x==c then []::gP c r else match gP c r with
  | []=>[[x]]
  |p::ps=>(x::p)::ps
theorem tW{c:UInt8}:∀{l:List UInt8},Lib.indexByte l c= -1->gP c l=[l]
 | [],_=>rfl
 |x::r,h=>by
  simp only[Lib.indexByte]at h;split at h
  .cases h
  .rename_i hx;split at h
   .rename_i h2;have KX:Lib.indexByte r c= -1:=by simpa using h2
    simp only[gP,hx,tW KX,ab0,if_false]
   .have:=Lib.indexByte_ge r c;omega
theorem zG{c:UInt8}:∀{l:List UInt8}{i:Nat},Lib.indexByte l c=i->i<l.length/\gP c l=l.take i::gP c (l.drop (i+1))
 | [],i,h=>by simp[Lib.indexByte]at h
 |x::r,i,h=>by
  simp only[Lib.indexByte]at h;split at h
  .rename_i hx;have:i=0:=om;subst this;simp[gP,hx]
  .rename_i hx;split at h
   .omega
   .cases i with
    |zero=>
     have:=Lib.indexByte_ge r c;rename_i h2;have:Lib.indexByte r c= -1:=om;simp[this]at h2
    |succ i=>
     have h3:Lib.indexByte r c=i:=om;obtain⟨h4,h5⟩:=zG h3;refine⟨by simpa using h4,?_⟩
     simp only[gP,hx,h5,ab0,if_false];simp
def cF(l:List UInt8):ByteArray:=⟨l.toArray⟩
def ii(c:UInt8)(s:ByteArray):List ByteArray:=(gP c s.data.toList).map cF
end bK
namespace bK
attribute [local go_sem] Oper.semAt_some
def Be(w:World)(b o:Nat):Nat:=match w.cell? ⟨b,o,none⟩with|some (.string s)=>s.size|_=>0
theorem xf{w:World}{b o:Nat}{s:ByteArray}(h:w.cell? ⟨b,o,none⟩=some (.string s)):Be w b o=s.size:=by simp[Be,h]
@[simp] theorem pI(r:List UInt8):(cF r).data.toList=r:=rfl
@[simp] theorem m8(r:List UInt8):(cF r).size=r.length:=by simp[cF,ByteArray.size]
theorem su(r:List UInt8)(a b:Nat)(hb:b<=r.length):(cF r).extract a b=cF ((r.take b).drop a):=by apply ByteArray.ext;simp[cF,ByteArray.data_extract,List.drop_take]
def aaE(F:Fence)(n:Nat)(P:Program)(l:Nat)(args:Array Value)(W:World)(R:Ending->World->Prop):Prop:=
 ∃fn tmps assign body,(Instr.yield l args).run P W= .ok (.round l fn tmps assign body) W/\RoundIn F n P l fn tmps assign body W R
theorem FJ(F:Fence)(n:Nat)(h49:F.fn 147)(h51:F.fn 149)(hro:F.round=none)(hn:3<=n)(s:ByteArray)(c:UInt8)(l b1 o1 b2 o2 b3 o3:Nat)(W:World)(J:Nat->World->Prop)(Jx:World->Prop)(n12:b1≠b2)(n13:b1≠b3)(n23:b2≠b3)(hix:∀(s:ByteArray)(w:World),CallsIn F (n-1) prog 149 #[.string s,.string ⟨#[c]⟩] w λe w'=>e= .returned (.int .i64 (Lib.indexByte s.data.toList c))/\w'=w)(c1:W.cell? ⟨b1,o1,none⟩=some (.string ⟨#[c]⟩))(c2:W.cell? ⟨b2,o2,none⟩=some (.string s))(f2:W.frozen? ⟨b2,o2,none⟩=false)(c3:W.cell? ⟨b3,o3,none⟩=some (.int .i64 0))(hJ:∀k W v,J k W->J k (W.setCell ⟨b2,o2,none⟩ v))(hY:∀k y W,(ii c s)[k]? =some y->J k W->aaE F (n-1) prog l #[.string y] W λe W'=>
   (e= .returned (.bool true)/\J (k+1) W'/\W'.heap[b1]? =W.heap[b1]? /\W'.heap[b2]? =W.heap[b2]? /\W'.heap[b3]? =W.heap[b3]?)\/(e= .returned (.bool false)/\Jx W'))(h0:J 0 W)(hsz:(s.size:Int)<4611686018427387904):
  CallsIn F n prog 147 #[.func (.yield l) #[] #[],.pointer (some ⟨b1,o1,none⟩),.pointer (some ⟨b2,o2,none⟩),.pointer (some ⟨b3,o3,none⟩)] W λe W'=>
   (∃v,e= .returned v)/\(J (ii c s).length W'\/Jx W'):=by
 have h1:1<=n:=om;refine callsIn_of_wp func147 rfl h49 ?_ hro;simp only[ntmps147,List.size_toArray,aaj,aa9,Nat.reduceAdd,Nat.reduceSub,Array.replicate_succ,Array.replicate_zero,List.push_toArray,List.append_toArray,adC,adv]
 gi_wp2
 gi_loopw [] (λwr=>∃(k:Nat)(r:List UInt8),wr.cell? ⟨b2,o2,none⟩=some (.string (cF r))/\wr.frozen? ⟨b2,o2,none⟩=false/\wr.cell? ⟨b1,o1,none⟩=some (.string ⟨#[c]⟩)/\
   wr.cell? ⟨b3,o3,none⟩=some (.int .i64 0)/\(ii c s).drop k=(gP c r).map cF/\J k wr/\r.length<=s.size) (λwr=>Be wr b2 o2)
 case atStart=>
  exact⟨0,s.data.toList,by rw[c2];rfl,f2,c1,c3,rfl,h0,by show s.data.toList.length<=s.data.size;rw[ab6];exact T5 _⟩
 case round=>
  obtain⟨k,r,d2,g2,d1,d3,hcut,hj,hlen⟩:=hrel;rcases Int.lt_or_le (Lib.indexByte r c) 0 with hneg|hpos
  .have hm1:Lib.indexByte r c= -1:=by have:=Lib.indexByte_ge r c;omega
   have hix:=(hix (cF r) wr).mono (R':=λe w'=>e= .returned (.int .i64 (-1))/\w'=wr) λe w'⟨h1,h2⟩=>⟨by rw[h1,pI,hm1],h2⟩
   have hk:(ii c s)[k]? =some (cF r):=by
    have:=congrArg (λl=>l[0]?) hcut
    simp only[aaX,tW hm1]at this;simpa using this
   have hlen2:(ii c s).length=k+1:=by have h2:=congrArg List.length hcut;have h3:=(JJ.1 hk).1;rw[tW hm1,abB]at h2;simp only[aaJ,ac7,aaj,aa9]at h2;omega
   obtain⟨fn,tmps,assign,body,hy,hR⟩:=hY k _ wr hk hj;have hfin:∀W,J (k+1) W->J (ii c s).length W:=λW h=>hlen2▸h
   clear hY hJ hcut hneg hm1 hk c1 c2 f2 c3 h0 hlen2
   gi_wp2_with (gi_at_call 149;refine hix.mono ?_;rintro e w' ⟨rfl,rfl⟩)
   refine hR.mono ?_;rintro e W' (⟨rfl,hJ',_⟩|⟨rfl,hx⟩)
   .gi_wp2
    go_end0
    exact⟨⟨_,rfl⟩,.inl (hfin _ hJ')⟩
   .gi_wp2
    go_end0
    exact⟨⟨_,rfl⟩,.inr hx⟩
  .obtain⟨i,hi⟩:=Int.eq_ofNat_of_zero_le hpos;obtain⟨hlt,hcut2⟩:=zG hi;have hk:(ii c s)[k]? =some (cF (r.take i)):=by
    have:=congrArg (λl=>l[0]?) hcut
    simp only[aaX,hcut2]at this;simpa using this
   have hnext:(ii c s).drop (k+1)=(gP c (r.drop (i+1))).map cF:=by have:=congrArg List.tail hcut;rw[hcut2,List.tail_drop]at this;simpa using this
   obtain⟨fn,tmps,assign,body,hy,hR⟩:=hY k _ wr hk hj;obtain⟨z,hz⟩:∃z:Int,z=(i:Int):=⟨_,rfl⟩;have hix:=(hix (cF r) wr).mono (R':=λe w'=>e= .returned (.int .i64 z)/\w'=wr) λe w'⟨h1,h2⟩=>⟨by rw[h1,pI,hi,hz],h2⟩
   have Hnext:Hid ((ii c s).drop (k+1)=(gP c (r.drop (i+1))).map cF):=hnext;have HJ:Hid (∀k W v,J k W->J k (W.setCell ⟨b2,o2,none⟩ v)):=hJ;have Hz:Hid (z=(i:Int)):=hz;have z0:0<=z:=om;have z0':decide (z<0)=false:=decide_eq_false om;have z1:z<r.length:=om;have hw1:wrap64 z=z:=by unfold wrap64;omega
   have hw2:wrap64 (z+1)=z+1:=by unfold wrap64;omega
   have hs1:(0<=z/\z<=(r.length:Int))=True:=by simp;omega
   have hs2:(0<=z+1/\z+1<=(r.length:Int))=True:=by simp;omega
   have hs3:z<=(r.length:Int):=om;have hs4:0<=z+1:=om;have hs5:z+1<=(r.length:Int):=om;have he1:cF (r.take i)=(cF r).extract 0 z.toNat:=by rw[su r _ _ om,hz];simp
   have he2:(cF r).extract (z+1).toNat r.length=cF (r.drop (i+1)):=by rw[su r _ _ (T5 _),aaN,hz];rfl
   have Hend:Hid (i<r.length/\r.length<=s.size/\(cF r).extract (z+1).toNat r.length=cF (r.drop (i+1))):=⟨hlt,hlen,he2⟩;rw[he1]at hy;clear hJ hY hcut hcut2 hi hk c1 c2 f2 c3 h0 hpos hnext hz hsz he1 he2 hlt hlen
   gi_wp2_with (first
    |(gi_at_call 149;refine hix.mono ?_;rintro e w' ⟨rfl,rfl⟩)
    |(refine wpIn_cond_false (by show Value.bool (decide (z<0))=Value.bool false;rw[z0']) ?_))
   refine hR.mono ?_;rintro e W' (⟨rfl,hJ',e1,e2,e3⟩|⟨rfl,hx⟩)
   .have q1:W'.cell? ⟨b1,o1,none⟩=some (.string ⟨#[c]⟩):=(World.cell?_of_block (a:=⟨b1,o1,none⟩) e1).trans d1;have q2:W'.cell? ⟨b2,o2,none⟩=some (.string (cF r)):=(World.cell?_of_block (a:=⟨b2,o2,none⟩) e2).trans d2;have q3:W'.cell? ⟨b3,o3,none⟩=some (.int .i64 0):=(World.cell?_of_block (a:=⟨b3,o3,none⟩) e3).trans d3;have q4:W'.frozen? ⟨b2,o2,none⟩=false:=by rw[<-g2];simp only[World.frozen?,e2]
    gi_wp2
    obtain⟨hlt,hlen,he2⟩:=Hend.out;have hq:(W'.cell? ⟨b2,o2,none⟩).isSome=true:=by rw[q2];rfl
    have hn2:=World.cell?_setCell_same' W' ⟨b2,o2,none⟩ (.string ((cF r).extract (z+1).toNat r.length)) hq;rw[he2]at hn2|-;refine⟨⟨k+1,r.drop (i+1),hn2,by rw[World.frozen?_setCell];exact q4,?_,?_,Hnext.out,HJ.out _ _ _ hJ',by simp;omega⟩,?_⟩
    .exact(World.cell?_setCell_other _ _ _ _ λe=>n12 (congrArg Addr.block e).symm).trans q1
    .exact(World.cell?_setCell_other _ _ _ _ λe=>n23 (congrArg Addr.block e)).trans q3
    .rw[xf hn2,xf d2,m8,m8,abB];omega
   .gi_wp2
    refine bodyPost_ret (results_none rfl _ _ _) rfl ?_;exact⟨⟨_,rfl⟩,.inr hx⟩
theorem qT(W:World)(a:Addr)(v:Value){b:Nat}(h:b≠a.block):(W.setCell a v).heap[b]? =W.heap[b]? :=by simp only[World.setCell,aaV];rw[if_neg (λe=>h e.symm)]
theorem Bf{n:Nat}{P:Program}{l:Nat}{f:FuncId}{tmps:Array Value}{assign body:Code}{w:World}{R:Ending->World->Prop}(h:RoundIn Fence.wide 0 P l f tmps assign body w R):
  RoundIn Fence.wide n P l f tmps assign body w R:=⟨h.1,λc cs _=>h.2 c cs (room_wide _)⟩
theorem JK(s:ByteArray)(c:UInt8)(hsz:(s.size:Int)<4611686018427387904):Vr prog 147 [.string ⟨#[c]⟩,.string s,.int .i64 0] (ii c s):=by
 refine⟨⟨f147,func147,rfl,by decide⟩,?_⟩
 intro l az W J Jx hlen hnd hcell hJ hJx hY h0
 match az,hlen with
 | [(b1,o1),(b2,o2),(b3,o3)],_=>
 obtain⟨c1,f1⟩:=hcell 0 _ _ rfl rfl;obtain⟨c2,f2⟩:=hcell 1 _ _ rfl rfl;obtain⟨c3,f3⟩:=hcell 2 _ _ rfl rfl;simp only[aaJ,ac7,abS,aaB,acC,or_false,not_or,List.nodup_nil]at hnd;obtain⟨⟨n12,n13⟩,n23,_⟩:=hnd;show CallsIn Fence.wide 0 prog 147 #[.func (.yield l) #[] #[],.pointer (some ⟨b1,o1,none⟩),.pointer (some ⟨b2,o2,none⟩),.pointer (some ⟨b3,o3,none⟩)] W _;refine callsIn_wide.2 ((callsIn_wide (n:=5)).1 ?_);refine FJ Fence.wide 5 trivial trivial rfl om s c l b1 o1 b2 o2 b3 o3 W J Jx n12 n13 n23 (λs w=>callsIn_wide.2 (JH s c w)) c1 c2 f2 c3 ?_ ?_ h0 hsz
 .intro k W v hj;exact hJ k W _ hj aC (λb _ hb=>qT _ _ _ (hb (b2,o2) aC)) rfl rfl rfl
 .intro k y W hk hj;obtain⟨fn,tmps,assign,body,hy,hR⟩:=hY k y W hk hj;refine⟨fn,tmps,assign,body,hy,(Bf hR).mono λe W' h=>?_⟩
  rcases h with⟨he,h1,h2,h3⟩|⟨he,h1⟩
  .exact .inl ⟨he,h1,h3 (b1,o1) aC,h3 (b2,o2) aC,h3 (b3,o3) aC⟩
  .exact .inr ⟨he,h1⟩
end bK
def c106:LF:= ⟨52,[.tmp 2],(.seq (.ai [qu 2 (.aI (qb false))]) (.seq (.seq (.ai [qm 5 0,qu 6 (.len 0 5),qu 7 (.aJ .lss 6 (qi 1)),qm 8 7,qg 9 (.aI 0) 8 false,qg 10 (.len 0 9) 8 false,qg 11 (.aJ .gtr 10 (qi 12)) 8 false,qu 12 (.pick 8 (qb true) 11),qm 13 12,qg 14 (.aI 0) 13 false,qg 15 (.aJ .eql 14 (.c (.rv (.one (.ah (.val (.string ⟨#[46]⟩))))))) 13 false,qu 16 (.pick 13 (qb true) 15),qm 17 16,qg 18 (.aI 0) 17 false,qg 19 (.aJ .eql 18 (.c (.rv (.one (.ah (.val (.string ⟨#[46,46]⟩))))))) 17 false,qu 20 (.pick 17 (qb true) 19)]) (.cond 20 (.seq (.ai [qu 2 (.aI (qb false))]) .ret) .skip)) (.seq (.seq (.ai [qm 21 0,qu 22 (.len 0 21),qu 23 (.aI (qi 0))]) (.block 0 (.loop (.seq (.ai [qu 24 (.aJ .lss 23 22)]) (.seq (.cond 24 .skip (.exit 0)) (.seq (.block 1 (.seq (.ai [qm 25 23,qm 3 25]) (.seq (.ai [qm 26 0,qm 27 3,qu 28 (.B8 26 27),qm 4 28]) (.seq (.ai [qm 29 4,qu 30 (.aJ .lss 29 (.c (.rv (.one (.ah (.val (.int .u8 (97)))))))),qm 31 30,qg 32 (.aI 4) 31 false,qg 33 (.aJ .gtr 32 (.c (.rv (.one (.ah (.val (.int .u8 (122)))))))) 31 false,qu 34 (.pick 31 (qb true) 33),qm 35 34,qg 36 (.aI 4) 35 true,qg 37 (.aJ .lss 36 (.c (.rv (.one (.ah (.val (.int .u8 (48)))))))) 35 true,qg 38 (.aI 37) 35 true,qg 39 (.aI 4) 38 false,qg 40 (.aJ .gtr 39 (.c (.rv (.one (.ah (.val (.int .u8 (57)))))))) 38 false,qg 41 (.pick 38 (qb true) 40) 35 true,qu 42 (.pick 35 41 (qb false)),qm 43 42,qg 44 (.aI 4) 43 true,qg 45 (.aJ .neq 44 (.c (.rv (.one (.ah (.val (.int .u8 (46)))))))) 43 true,qu 46 (.pick 43 45 (qb false)),qm 47 46,qg 48 (.aI 4) 47 true,qg 49 (.aJ .neq 48 (.c (.rv (.one (.ah (.val (.int .u8 (95)))))))) 47 true,qu 50 (.pick 47 49 (qb false))]) (.cond 50 (.seq (.ai [qu 2 (.aI (qb false))]) .ret) .skip))))) (.ai [qu 51 (.aJ .add 23 (qi 1)),qm 23 51]))))))) (.seq (.ai [qu 2 (.aI (qb true))]) .ret))))⟩
namespace bK
abbrev dL:=List UInt8
def vT(t:dL):CV:=eU (cF t)
theorem Bg(s:ByteArray):∃t:dL,s=cF t:=⟨s.data.toList,rfl⟩
theorem uY(t:dL):(cF t).toList=t:=ByteArray.toList_mk t
theorem lg{a b:dL}{A B:Prop}(ha:a=b->A)(hb:a≠b->B): @Bool.rec (λ_=>Prop) B A ((cF a).toList==(cF b).toList):=by
 rw[uY,uY];cases h:(a==b)
 .exact hb (by simpa using h)
 .exact ha (by simpa using h)
def Ns(n:Nat):Bool:=(decide (97<=n)&&decide (n<=122))||(decide (48<=n)&&decide (n<=57))||decide (n=46)||decide (n=95)
def fP(t:dL):Bool:=decide (1<=t.length)&&decide (t.length<=12)&&decide (t≠[46])&&decide (t≠[46,46])&&t.all λc=>Ns c.toNat
theorem FK{t:dL}{k:Nat}(hk:k<t.length)(h:Ns t[k].toNat=false):fP t=false:=by
 have:(t.all λc=>Ns c.toNat)=false:=by
  rw[List.all_eq_false];exact⟨t[k],aar hk,by simp[h]⟩
 simp[fP,this]
theorem FL{t:dL}(h1:1<=t.length)(h2:t.length<=12)(h3:t≠[46])(h4:t≠[46,46])(h:∀k(hk:k<t.length),Ns t[k].toNat=true):fP t=true:=by
 have:(t.all λc=>Ns c.toNat)=true:=by rw[abA];intro c hc;obtain⟨k,hk,rfl⟩:=List.mem_iff_getElem.1 hc;exact h k hk
 simp[fP,this,h1,h2,h3,h4]
theorem W5{n:Nat}(h1:¬(97<=n/\n<=122))(h2:¬(48<=n/\n<=57))(h3:n≠46)(h4:n≠95):Ns n=false:=by
 have a:¬(97<=n)\/¬(n<=122):=om;have b:¬(48<=n)\/¬(n<=57):=om;unfold Ns;rcases a with a|a<;>rcases b with b|b<;>simp[a,b,h3,h4]
theorem W6{n:Nat}(h:(97<=n/\n<=122)\/(48<=n/\n<=57)\/n=46\/n=95):Ns n=true:=by
 unfold Ns;rcases h with⟨a,b⟩|⟨a,b⟩|h|h<;>simp_all
theorem l106:bw prog f106=some c106:=by kernel_rfl
theorem aaG{t:dL}{k:Nat}(hk:k<t.length):dC (cF t).data.toList (k:Nat)=some t[k]:=by rw[bD,pI,vl hk]
theorem gu(t:dL):(((cF t).size:Nat):Int)=t.length:=by rw[m8]
theorem tX(t:dL):body prog c106 [vT t] [] (λr m=>r=aE (fP t)):=by
 refine aN (λh=>?_) (λh=>?_)
 .rw[gu]at h;have:fP t=false:=by simp[fP];omega
  rw[this];rfl
 rw[gu]at h;refine aN (λh2=>?_) (λh2=>?_)
 .rw[gu]at h2;have:fP t=false:=by simp[fP];omega
  rw[this];rfl
 rw[gu]at h2;refine lg (b:=[46]) (λh3=>?_) (λh3=>?_)
 .subst h3;rfl
 refine lg (b:=[46,46]) (λh4=>?_) (λh4=>?_)
 .subst h4;rfl
 refine ba (λk=>k<=t.length/\∀j(hj:j<t.length),j<k->Ns t[j].toNat=true) [0] (λk=>[(22,an .i64 (t.length:Nat)),(23,an .i64 (k:Nat))]) (λ_=>[]) (λk=>t.length-k) 0 ⟨aan _,λj _ h=>absurd h (aaR _)⟩ ?_ (λk hk=>?_)
 .refine View.o 0 [] [] ?_ (.nil _);repeat(first|exact .nil|refine .aF ?_|refine .eq rfl ?_|refine .put (.bg (by rw[gu];rfl)) ?_)
 obtain⟨hk,fN⟩:k<=t.length/\∀j(hj:j<t.length),j<k->Ns t[j].toNat=true:=hk;refine aN (λh5=>?_) (λh5=>?_)
 .have aD:k<t.length:=by have h5:(k:Int)<(t.length:Int):=h5;omega
  refine af (aaG aD) ?_;repeat' first|refine aN (λ_=>?_) (λ_=>?_)|refine bt (λ_=>?_) (λ_=>?_)
  all_goals first
   |(show aE false=aE (fP t)
     rw[FK aD (W5 om om om om)])
   |(refine⟨k+1,⟨aD,λj hj hjk=>?_⟩,(show t.length-(k+1)<t.length-k by omega),View.o 0 [] [] ?_ (.nil _)⟩
     .rcases aaf j k with h|h
      .exact fN j hj h
      .have:j=k:=om;subst this;exact W6 om
     .repeat(first|exact .nil|refine .aF ?_|refine .put (.bg (cP om).symm) ?_|refine .eq rfl ?_))
 .show aE true=aE (fP t);have h5:¬(k:Int)<(t.length:Int):=h5;rw[FL om om h3 h4 λj hj=>fN j hj om]
theorem Bh(t:dL){m:Mem}{K:CV->Mem->Prop}(h:K (aE (fP t)) m):ap prog 106 [vT t] m K:=
 bA func106 l106 rfl (aah rfl) (tX t) rfl rfl h
end bK
def c66:LF:= ⟨37,[.cell false 1 2,.cell false 1 3,.cell false 1 4],(.seq (.ai [qu 2 (.alloc [.aK]),qu 3 (.alloc [(.ah (.val (.bool false)))]),qu 4 (.alloc [qd 0])]) (.seq (.seq (.ai [qm 7 0,qu 8 (.aJ .eql 7 (.c (.rv (.one (.ah (.val (.string ⟨#[]⟩)))))))]) (.cond 8 (.seq (.ai [qw (.store 1 2 qe),qw (.store 1 3 (qb false)),qw (.store 1 4 (qi 2))]) .ret) .skip)) (.seq (.seq (.ai [qm 9 0,qu 10 (.len 0 9),qu 11 (.aJ .gtr 10 (qi 60))]) (.cond 11 (.seq (.ai [qw (.store 1 2 qe),qw (.store 1 3 (qb false)),qw (.store 1 4 (qi 4))]) .ret) .skip)) (.seq (.ai [qu 5 (.alloc [.aK])]) (.seq (.seq (.ai [qm 12 0,qu 13 (qc 105 [12,(.c (.rv (.one (.ah (.val (.string ⟨#[47]⟩))))))])]) (.block 0 (.yk 13 14 (.ai [qm 6 14]) (.block 1 (.block 2 (.seq (.ai [qm 16 6,qu 17 (.aJ .eql 16 (.c (.rv (.one (.ah (.val (.string ⟨#[]⟩))))))),qm 18 17,qg 19 (.aI 6) 18 false,qg 20 (.aJ .eql 19 (.c (.rv (.one (.ah (.val (.string ⟨#[46]⟩))))))) 18 false,qu 21 (.pick 18 (qb true) 20),qm 15 21]) (.cond 15 .skip (.seq (.ai [qm 23 6,qu 24 (.aJ .eql 23 (.c (.rv (.one (.ah (.val (.string ⟨#[46,46]⟩))))))),qm 25 24,qg 26 (.aI 6) 25 false,qg 27 (qc 106 [26]) 25 false,qu 28 (.pick 25 (qb true) 27),qm 22 28]) (.cond 22 (.ai [ql 29 5,qm 30 6,qu 31 (.nw 1 [(.ah (.val (.string ⟨#[]⟩)))] 1 [(0,30)]),qu 32 (.ov 1 16 29 31),qw (.store 1 5 32)]) (.seq (.ai [qw (.store 1 2 qe),qw (.store 1 3 (qb false)),qw (.store 1 4 (qi 7))]) .ret)))))))))) (.seq (.bR [ql 33 5,qm 34 0,qu 35 (.B8 34 (qi 0)),qu 36 (.aJ .eql 35 (.c (.rv (.one (.ah (.val (.int .u8 (47)))))))),qw (.store 1 2 33),qw (.store 1 3 36),qw (.store 1 4 (qi 0))] [(eh 4 0 (.cons 4 (some []) (.cons 5 (some []) (.cons 6 (some []) .nil))))]) .ret))))))⟩
def c105:LF:= ⟨8,[.tmp 4],(.seq (.ai [qu 4 (.aI (.c (.rv (.one (.ah (.val .nilFunc))))))]) (.seq (.ai [qm 5 0,qm 6 1,qu 7 (qc 131 [5,6,qi 0]),qm 4 7]) .ret))⟩
def c131:LF:= ⟨8,[.tmp 6],(.seq (.ai [qu 3 (.box 0),qu 4 (.box 1),qu 5 (.box 2),qu 6 (.aI (.c (.rv (.one (.ah (.val .nilFunc))))))]) (.seq (.ai [qu 7 (.fn 147 [4,3,5]),qm 6 7]) .ret))⟩
namespace bK
theorem l131:bw prog f131=some c131:=by kernel_rfl
theorem l105:bw prog f105=some c105:=by kernel_rfl
def W7(s:ByteArray):Bk:= .var [.ah (.val (.string s))]
def sqM(s sep:ByteArray)(b0 b1 b2 b3:Bk):Mem:=[b0,b1,b2,b3,W7 s,W7 sep,.var [.ah (.val (.int .i64 0))]]
theorem aaH(s sep:ByteArray){b0 b1 b2 b3:Bk}{K:CV->Mem->Prop}(h:K (.rv (.one (.fn 147 [5,4,6]))) (sqM s sep b0 b1 b2 b3)):ap prog 131 [eU s,eU sep,an .i64 0] [b0,b1,b2,b3] K:=
 aZ func131 l131 h
theorem aaI(s sep:ByteArray){b0 b1 b2 b3:Bk}{K:CV->Mem->Prop}(h:K (.rv (.one (.fn 147 [5,4,6]))) (sqM s sep b0 b1 b2 b3)):ap prog 105 [eU s,eU sep] [b0,b1,b2,b3] K:=by refine aZ func105 l105 ?_;exact aaH s sep h
theorem xg(c:UInt8):∀t:dL,(gP c t).length<=t.length+1
 | []=>by simp[gP]
 |x::r=>by
  have ih:=xg c r;simp only[gP];split
  .simp;exact ih
  .split
   .simp
   .rename_i h;rw[h]at ih;simp at ih|-;omega
theorem da(a b:List (List Dt)):aa (a++b)=aa a++aa b:=by simp[aa]
theorem Qn(c:UInt8)(r:dL):decide ((c::r)[0]? =some 47)=((c.toNat:Int)==47):=by
 by_cases h:c=47
 .subst h;rfl
 .have h2:(c.toNat:Int)≠47:=by
   intro e;have e2:c.toNat=(47:UInt8).toNat:=by show c.toNat=47;omega
   exact h (UInt8.toNat_inj.1 e2)
  simp[h,h2]
theorem l66:bw prog f66=some c66:=by kernel_rfl
def tD(t:dL):List Dt:=[.val (.string (cF t))]
def YJ(l:List dL):Dt:= .sl 1 (l.map tD)
def txV(l:List dL):CV:= .rv (.one (.ah (YJ l)))
def sx(w:dL):Bool:= !(decide (w=[])||decide (w=[46]))
def sy(w:dL):Bool:=decide (w=[])||decide (w=[46])||decide (w=[46,46])||fP w
def Bi(t:dL):List dL:=(gP 47 t).filter sx
def cM(t:dL):List dL×Bool×Int:=
 if t=[]then([],false,2)else if 60<t.length then([],false,4)else if(gP 47 t).all sy then(Bi t,decide (t[0]? =some 47),0)else([],false,7)
def TO(p:List dL×Bool×Int):CV:= .bz [.one (.ah (YJ p.1)),.one (.ah (.val (.bool p.2.1))),.one (.ah (.val (.int .i64 p.2.2)))]
def pt(id:Nat):CV:= .rv (.one (.ptr id 0))
def Qo(t:dL):List CV:=vT t:: .aF::pt 0::pt 1::pt 2::pt 3::gm 31 .aF
def TQ:List dL->Mem
 | []=>[.var [.aK],.var [.ah (.val (.bool false))],.var [.ah (.val (.int .i64 0))],.var [.aK]]
 |x::r=>[.var [.aK],.var [.ah (.val (.bool false))],.var [.ah (.val (.int .i64 0))],.var [.row 4 1 0 none],.row 1 (aa ((x::r).map tD))]
theorem FM{c:UInt8}{t:dL}{k:Nat}{y:ByteArray}(h:(ii c (cF t))[k]? =some y):∃w,(gP c t)[k]? =some w/\y=cF w:=by
 simp only[ii,pI,Sf]at h;cases hc:(gP c t)[k]? with
 |none=>rw[hc]at h;cases h
 |some w=>rw[hc]at h;cases h;exact⟨w,rfl,rfl⟩
theorem mj{m:Mem}{c:CC}{l:List dL}{b:Bool}{e:Int}(h:eV m c (.ah (YJ l))):cL m (.bz [.one c,.one (.ah (.val (.bool b))),.one (.ah (.val (.int .i64 e)))]) (TO (l,b,e)):=by
 refine .bz rfl λi r r' h1 h2=>?_
 match i with
 |0=>cases h1;cases h2;exact .one h
 |1=>cases h1;cases h2;exact .one (.ah _)
 |2=>cases h1;cases h2;exact .one (.ah _)
 |n+3=>simp at h1
theorem FN(t:dL):body prog c66 [vT t] [] (λr m=>cL m r (TO (cM t))):=by
 refine lg (b:=[]) (λh=>?_) (λh0=>?_)
 .subst h;exact mj (.aK 1)
 refine aN (λh=>?_) (λh1=>?_)
 .rw[gu]at h;have:cM t=([],false,4):=by rw[cM,if_neg h0,if_pos om]
  rw[this];exact mj (.aK 1)
 rw[gu]at h1;refine aaI (cF t) ⟨#[47]⟩ ?_;refine⟨147,[5,4,6],[.string ⟨#[47]⟩,.string (cF t),.int .i64 0],ii 47 (cF t),List dL,λk out=>out=((gP 47 t).take k).filter sx/\((gP 47 t).take k).all sy=true,λout=>⟨Qo t,TQ out⟩,rfl,
  ⟨⟨rfl,rfl⟩,⟨rfl,rfl⟩,⟨rfl,rfl⟩,trivial⟩,⟨by decide,aC⟩,JK (cF t) 47 (by rw[gu];omega),⟨[],⟨aC,aC⟩,?_⟩,?_,?_⟩
 .refine View.o1 7 [0,1,2,3] [] ?_
  .repeat(first|exact .nil _|refine .put (by simp[bx]) rfl (.eq rfl aC) ?_)
 .intro k y out hk hJ;obtain⟨w,hw,rfl⟩:=FM hk;obtain⟨ho,hg⟩:=hJ;have R3:(gP 47 t).take (k+1)=(gP 47 t).take k++ [w]:=by rw[abQ,hw];rfl
  have skip:w=[]\/w=[46]->out=((gP 47 t).take (k+1)).filter sx/\((gP 47 t).take (k+1)).all sy=true:=by
   intro h;rw[R3,adi,List.all_append,<-ho,hg];rcases h with rfl|rfl<;>simp[sx,sy]
  have eN:w≠[]->w≠[46]->(w=[46,46]\/fP w=true)->out++ [w]=((gP 47 t).take (k+1)).filter sx/\((gP 47 t).take (k+1)).all sy=true:=by
   intro h1 h2 h3;rw[R3,adi,List.all_append,<-ho,hg];rcases h3 with rfl|h3
   .simp[sx,sy]
   .simp[sx,sy,h1,h2,h3]
  have bad:w≠[]->w≠[46]->w≠[46,46]->fP w=false->cM t=([],false,7):=by
   intro h1 h2 h3 h4;have:(gP 47 t).all sy=false:=by
    rw[List.all_eq_false];exact⟨w,Sj hw,by simp[sy,h1,h2,h3,h4]⟩
   rw[cM,if_neg h0,if_neg om,this];rfl
  have hlen:out.length<=61:=by
   rw[ho];have h2:=acu sx ((gP 47 t).take k);have h3:=xg 47 t;have h4:((gP 47 t).take k).length<=(gP 47 t).length:=by rw[aav];omega
   omega
  clear ho hg R3 hk;cases out with
  |nil=>
   have dB:View 0 ⟨Qo t,TQ []⟩ ⟨Qo t,TQ []⟩:=by
    refine View.o1 4 [0,1,2,3] [] ?_
    .repeat(first|exact .nil _|refine .put (by simp[bx]) rfl (.eq rfl aC) ?_)
   have ib:∀m,m=([.var [.aK],.var [.ah (.val (.bool false))],.var [.ah (.val (.int .i64 0))],.var [.row 5 1 0 none],.aR,.row 1 ([]++ [[.ah (.val (.string (cF w)))]])]:Mem)->View 0 ⟨Qo t,m⟩ ⟨Qo t,TQ ([]++ [w])⟩:=by
    rintro m rfl;refine View.o1 6 [0,1,2,3,5] [] ?_
    .repeat(first|exact .nil _|refine .put (by simp[bx]) rfl (.eq rfl aC) ?_)
   refine lg (b:=[]) (λe1=>?_) (λe1=>?_)
   .exact⟨[],skip (.inl e1),dB⟩
   refine lg (b:=[46]) (λe2=>?_) (λe2=>?_)
   .exact⟨[],skip (.inr e2),dB⟩
   refine lg (b:=[46,46]) (λe3=>?_) (λe3=>?_)
   .exact⟨(show 1*16<=140737488355328 by omega),_,eN e1 e2 (.inl e3),ib _ rfl⟩
   .refine Bh w ?_;refine aM (λe4=>?_) (λe4=>?_)
    .exact⟨(show 1*16<=140737488355328 by omega),_,eN e1 e2 (.inr e4),ib _ rfl⟩
    .rw[bad e1 e2 e3 e4];exact mj (.aK 1)
  |cons x r=>
   have dB:View 0 ⟨Qo t,TQ (x::r)⟩ ⟨Qo t,TQ (x::r)⟩:=by
    refine View.o1 5 [0,1,2,3,4] [] ?_
    .refine .put (by simp[bx]) rfl (.eq rfl aC) (.put (by simp[bx]) rfl (.eq rfl aC) (.put (by simp[bx]) rfl (.eq rfl aC) (.put (by simp[bx]) rfl (.eq rfl aC) (.put (by simp[bx]) rfl (.bI rfl) (.nil _)))))
   have ib:∀m,m=([.var [.aK],.var [.ah (.val (.bool false))],.var [.ah (.val (.int .i64 0))],.var [.row 6 1 0 none],.aR,.aR,.row 1 (aa ((x::r).map tD)++ [[.ah (.val (.string (cF w)))]])]:Mem)->View 0 ⟨Qo t,m⟩ ⟨Qo t,TQ ((x::r)++ [w])⟩:=by
    rintro m rfl;refine View.o1 7 [0,1,2,3,6] [] ?_
    .refine .put (by simp[bx]) rfl (.eq rfl aC) (.put (by simp[bx]) rfl (.eq rfl aC) (.put (by simp[bx]) rfl (.eq rfl aC) (.put (by simp[bx]) rfl (.eq rfl aC) (.put (by simp[bx]) rfl (.bI ?_) (.nil _)))))
     show _=aa (((x::r)++ [w]).map tD);rw[aby,da];rfl
   have ta:((aa ((x::r).map tD)).length+1)*16<=140737488355328:=by simp[aa];simp at hlen;omega
   refine lg (b:=[]) (λe1=>?_) (λe1=>?_)
   .exact⟨_,skip (.inl e1),dB⟩
   refine lg (b:=[46]) (λe2=>?_) (λe2=>?_)
   .exact⟨_,skip (.inr e2),dB⟩
   refine lg (b:=[46,46]) (λe3=>?_) (λe3=>?_)
   .exact⟨ta,_,eN e1 e2 (.inl e3),ib _ rfl⟩
   .refine Bh w ?_;refine aM (λe4=>?_) (λe4=>?_)
    .exact⟨ta,_,eN e1 e2 (.inr e4),ib _ rfl⟩
    .rw[bad e1 e2 e3 e4];exact mj (.aK 1)
 .intro out hJ;obtain⟨ho,hg⟩:=hJ;have i3:(ii 47 (cF t)).length=(gP 47 t).length:=by simp[ii]
  rw[i3,aaN]at ho hg;have hs:cM t=(out,decide (t[0]? =some 47),0):=by rw[cM,if_neg h0,if_neg om,hg];simp[Bi,ho]
  rw[hs];obtain⟨c,r,rfl⟩:∃c r,t=c::r:=by
   cases t with
   |nil=>exact absurd rfl h0
   |cons c r=>exact⟨c,r,rfl⟩
  have hc:decide ((c::r)[0]? =some 47)=((c.toNat:Int)==47):=Qn c r;cases out with
  |nil=>
   rw[hc];refine⟨trivial,trivial,trivial,?_⟩;exact mj (l:=[]) (c:= .aK) (.aK 1)
  |cons x r=>
   rw[hc];refine⟨trivial,trivial,trivial,?_⟩;exact mj (l:=x::r) (c:= .row 4 1 0 none) (eV.eW (ds:=(x::r).map tD) rfl 0 none)
theorem xh(t:dL){m:Mem}{K:CV->Mem->Prop}(h:K (TO (cM t)) m):ap prog 66 [vT t] m K:=
 be (aZ func66 l66 (FN t)) (by simp[vT,eU,CV.dv,CC.dv]) λr m1 hf=>⟨_,hf,h⟩
end bK
namespace bK
theorem bh(l:List (List Dt)):(aa l).length=l.length:=by simp[aa]
end bK
def obZ:Ob:=⟨0,[],[],⟨#[]⟩,0,noD,0,0,0⟩
def lI(l:List Ob)(n:Nat):Ob:=(l[n]?).getD obZ
theorem tY{l:List Ob}{n:Nat}(h:n<l.length):lI l n=l[n]:=by rw[lI,vl h];rfl
structure R4 where
 bo:Int
 cK:Int
 name:bK.dL
 fC:Int
def R4.no(e:Int):R4:=⟨0,0,[],e⟩
def iP(o:Ob):List NE:=o.ak.map nZ
def my(l:List Ob)(di:Nat)(w:bK.dL):Int:=fH (iP (lI l di)) (bK.cF w)
def Bj(l:List Ob)(di:Nat):Nat:=(lI l di).up.toNat
def HU(l:List Ob)(ar:Nat)(ay follow:Bool)(rec:Nat->List bK.dL->Nat->R4):List bK.dL->Nat->R4
 | [],a=>⟨a,Bj l a,[],0⟩
 |w::rest,a=>
  if(lI l a).ag≠2 then R4.no 11
  else if w=[46,46]then(if ay=true/\a=ar then R4.no 14 else HU l ar ay follow rec rest (Bj l a))
  else if my l a w<0 then(if rest≠[]then R4.no 6 else⟨-1,a,w,0⟩)
  else if(lI l (my l a w).toNat).ag=3/\(follow=true\/rest≠[])then rec a rest (my l a w).toNat
  else if rest=[]then⟨my l a w,a,w,0⟩
  else HU l ar ay follow rec rest (my l a w).toNat
def Nt(l:List Ob)(k:Nat):bK.dL:=(lI l k).target.data.toList
def Qp(l:List Ob)(ay:Bool)(wk:List bK.dL->Nat->R4)(a:Nat)(rest:List bK.dL)(k:Nat):R4:=
 if(bK.cM (Nt l k)).2.2≠0 then R4.no (bK.cM (Nt l k)).2.2
 else if(bK.cM (Nt l k)).2.1=true/\ay=true then R4.no 14
 else wk ((bK.cM (Nt l k)).1++rest) (if(bK.cM (Nt l k)).2.1=true then 0 else a)
def B5(l:List Ob)(ar:Nat)(ay follow:Bool):Nat->List bK.dL->Nat->R4
 |0=>HU l ar ay follow λ_ _ _=>R4.no 13
 |n+1=>HU l ar ay follow (Qp l ay (B5 l ar ay follow n))
def p9(l:List Ob)(ar:Int)(s:bK.dL)(ay follow:Bool):R4:=
 if oS l ar 0=true then
  if(lI l ar.toNat).ag≠2 then R4.no 11
  else if(bK.cM s).2.2≠0 then R4.no (bK.cM s).2.2
  else if(bK.cM s).2.1=true/\ay=true then R4.no 14
  else B5 l ar.toNat ay follow 6 (bK.cM s).1 (if(bK.cM s).2.1=true then 0 else ar.toNat)
 else R4.no 6
structure nN(l:List Ob):Prop where
 len:l.length<=64
 pos:0<l.length
 en:∀o,o∈l->WK l.length o.ag o.ak
 ne:∀o,o∈l->o.ak.length<=64
 up:∀o,o∈l->0<=o.up/\o.up<l.length
theorem nN.TR{l:List Ob}(h:nN l)(n:Nat):Bj l n<l.length:=by
 rw[Bj,lI];cases hn:l[n]? with
 |none=>show(0:Int).toNat<l.length;have:=h.pos;simpa using this
 |some o=>have:=h.up o (Sj hn);show o.up.toNat<l.length;omega
theorem nN.Nu{l:List Ob}(h:nN l){n:Nat}(hn:n<l.length):l[n].up=(Bj l n:Nat):=by rw[Bj,tY hn];have:=h.up _ (aar hn);omega
theorem nN.dJ{l:List Ob}(h:nN l)(n:Nat):Fg (iP (lI l n))/\(∀e,e∈iP (lI l n)->0<=e.2/\e.2<(l.length:Int))/\(iP (lI l n)).length<=64/\∀hn:n<l.length,l[n].ak=(iP (lI l n)).map fX:=by
 rw[lI];cases hn:l[n]? with
 |none=>
  refine⟨List.Pairwise.nil,by simp[iP,obZ],by simp[iP,obZ],λh=>?_⟩
  rw[vl h]at hn;cases hn
 |some o=>
  obtain⟨es,h1,h2,h3,h4⟩:=(h.en o (Sj hn)).ex;have h5:iP o=es:=by rw[iP,h1,nK]
  show Fg (iP o)/\(∀e,e∈iP o->_)/\(iP o).length<=64/\∀hn:n<l.length,l[n].ak=(iP o).map fX;rw[h5];refine⟨h2,h3,?_,λh=>?_⟩
  .have:=h.ne o (Sj hn);rw[h1,Nr]at this;exact this
  .rw[vl h]at hn;cases hn;exact h1
theorem nN.TS{l:List Ob}(h:nN l)(n:Nat)(w:bK.dL)(hf:¬my l n w<0):∃k:Nat,my l n w=k/\k<l.length:=by
 obtain⟨_,h2,_,_⟩:=h.dJ n;rcases iM (iP (lI l n)) (bK.cF w)with⟨e,he,_,h3⟩|⟨h3,_⟩
 .obtain⟨h4,h5⟩:=h2 e he;exact⟨e.2.toNat,by rw[my,h3];omega,om⟩
 .rw[my,h3]at hf;omega
theorem Nv{a b:ByteArray}:ld a b<0↔AW a b:=by
 unfold ld AW;by_cases h:Sd a b=true
 .rw[if_pos h];exact⟨λ_=>h,λ_=>om⟩
 .rw[if_neg h];refine⟨λh2=>?_,λh2=>absurd h2 h⟩
  split at h2<;>omega
theorem xi{a b:ByteArray}:ld a b=0↔a.toList=b.toList:=by
 unfold ld;by_cases h:Sd a b=true
 .rw[if_pos h];refine⟨λh2=>om,λh2=>?_⟩
  rw[Sd,h2,oR]at h;cases h
 .rw[if_neg h];rw[acL]at h;by_cases h2:U3 a b=true
  .rw[if_pos h2];refine⟨λh3=>om,λh3=>?_⟩
   unfold U3 at h2;rw[h3]at h2;simp at h2
  .rw[if_neg h2];refine⟨λ_=>?_,λ_=>rfl⟩
   unfold U3 at h2;unfold Sd at h;rw[h]at h2;simpa using h2
theorem o6{es:List NE}(hs:Fg es)(s:ByteArray):∀(n i j:Nat),j-i<=n->i<=j->j<=es.length->(∀(k:Nat)e,k<i->es[k]? =some e->AW e.1 s)->(∀(k:Nat)e,j<=k->es[k]? =some e->¬AW e.1 s)->
  JG es s n i j<=es.length/\(∀(k:Nat)e,k<JG es s n i j->es[k]? =some e->AW e.1 s)/\∀(k:Nat)e,JG es s n i j<=k->es[k]? =some e->¬AW e.1 s
 |0,i,j,hn,pN,hj,h1,h2=>by have:i=j:=om;subst this;exact⟨hj,h1,h2⟩
 |n+1,i,j,hn,pN,hj,h1,h2=>by
  rw[JG];by_cases aD:i<j
  .rw[if_pos aD];have hh:(i+j)/2<es.length:=om;rw[vl hh];simp only[];have hp:=ab4.1 hs;by_cases hc:ld es[(i+j)/2].1 s<0
   .rw[if_pos hc];refine o6 hs s n _ _ om om hj (λk e hk he=>?_) h2
    have im:=Nv.1 hc;obtain⟨gj,rfl⟩:=JJ.1 he;rcases aaf k ((i+j)/2)with h3|h3
    .exact sa (hp k _ gj hh h3) im
    .have:k=(i+j)/2:=om;subst this;exact im
   .rw[if_neg hc];refine o6 hs s n _ _ om om om h1 λk e hk he hl=>?_
    have im:¬AW es[(i+j)/2].1 s:=λh=>hc (Nv.2 h)
    obtain⟨gj,rfl⟩:=JJ.1 he;rcases aaf ((i+j)/2) k with h3|h3
    .exact im (sa (hp _ k hh gj h3) hl)
    .have:k=(i+j)/2:=om;subst this;exact im hl
  .rw[if_neg aD];have:i=j:=om;subst this;exact⟨hj,h1,h2⟩
theorem HV{es:List NE}(hs:Fg es)(s:ByteArray):AX es s (if Bd es s=true then(match es[qS es s]? with|some e=>e.2|none=>0)else -1):=by
 obtain⟨h0,h1,h2⟩:=o6 hs s es.length 0 es.length om om om (λk e hk=>absurd hk (aaR k)) (λk e hk he=>by have:=(JJ.1 he).1;omega)
 have hI:JG es s es.length 0 es.length=qS es s:=rfl;rw[hI]at h0 h1 h2;unfold Bd;cases he:es[qS es s]? with
 |none=>
  simp only[];rw[if_neg aC];refine .inr ⟨rfl,λe hm heq=>?_⟩
  obtain⟨k,hk⟩:=X1 hm;have gj:=(JJ.1 hk).1;have:es.length<=qS es s:=acR.1 he;have:=h1 k e om hk;rw[AW,heq,oR]at this;cases this
 |some e=>
  simp only[];by_cases hc:ld e.1 s=0
  .rw[if_pos (by rw[hc];rfl)]
   exact .inl ⟨e,Sj he,xi.1 hc,rfl⟩
  .rw[if_neg (by simpa using hc)]
   refine .inr ⟨rfl,λe' hm heq=>?_⟩
   obtain⟨k,hk⟩:=X1 hm;obtain⟨gj,AZ⟩:=JJ.1 hk;obtain⟨Mn,nI⟩:=JJ.1 he;rcases acY k (qS es s)with h3|h3|h3
   .have:=h1 k e' h3 hk;rw[AW,heq,oR]at this;cases this
   .subst h3;rw[he]at hk;cases hk;exact hc (xi.2 heq)
   .have hp:=ab4.1 hs _ k Mn gj h3;rw[nI,AZ]at hp;have jY:=h2 _ e (T5 _) he;apply jY;rw[AW,<-heq];exact hp
theorem Bl(d:List (List Dt))(hb:d.length<=4194304):body prog c97 [rY 1 d] [] (λr m=>∃r' m',View 0 ⟨[r],m⟩ ⟨[r'],m'⟩/\r'= .rv (.one (.row 0 1 0 none))/\m'=[.row 1 (aa d)]):=by
 have ta:((([]:List (List CC)).length+(d.map λds=>ds.map CC.ah).length)*1)<=140737488355328:=by simp;omega
 have ib:∃r' m',View 0 ⟨[CV.rv (.one (.row 1 1 0 none))],[.aR,.row 1 (bV ([]:List (List CC)) 0 none++d.map λds=>ds.map CC.ah)]⟩ ⟨[r'],m'⟩/\r'=CV.rv (.one (.row 0 1 0 none))/\m'=[Bk.row 1 (aa d)]:=
  ⟨_,_,View.o 2 [1] [] (.eq rfl .nil) (.pn rfl rfl rfl),rfl,rfl⟩
 refine aM (λh=>?_) (λh=>?_)
 .have hd:d=[]:=aai (by simpa using aam h)
  refine⟨?_,ta,ib⟩;subst hd;exact⟨_,_,View.aK 0 1 0 rfl rfl rfl,rfl,rfl⟩
 .exact⟨ta,ib⟩
theorem ij(Y:Nat->Nat)(ds:List (List Dt)):(aa ds).map (λcs=>cs.map (CC.bg Y))=aa ds:=by simp[aa,acZ,CC.bg]
theorem FO(d:List (List Dt))(hb:d.length<=4194304){m:Mem}{K:CV->Mem->Prop}(h:K (.rv (.one (.row m.length 1 0 none))) (m++ [.row 1 (aa d)])):ap prog 97 [rY 1 d] m K:=by
 refine bu [] m.length rfl rfl rfl rfl (args0:=[rY 1 d]) rfl (λi b' hi=>by simp at hi) (K0:=λr m=>r= .rv (.one (.row 0 1 0 none))/\m=[.row 1 (aa d)]) (bH (aZ func97 l97 (Bl d hb)) λr m1 h=>h) (λr m1 hr=>?_)
 obtain⟨rfl,rfl⟩:=hr;refine⟨aan _,?_⟩;show K (.rv (.one (.row (m.length+(0-0)) 1 0 none))) (gn m [.row 1 ((aa d).map (λcs=>cs.map (CC.bg (sg [] m.length))))])
 rw[ij,b7];exact h
def oo(Q:Nat)(o:Obj):List CC:=[.ah (.val (.int .i64 o.ag)),.row Q 1 0 none,.ah (.sl 2 o.ak),.ah (.val (.string o.target)),.ah (.val (.int .i64 o.bq)),
 .ah (.sl 4 (o.aq.map dh.enc)),.ah (.val (.int .i64 o.bb)),.ah (.val (.int .i64 o.am)),.ah (.val (.int .i64 o.up))]
def aaK(o:Obj):Nat->Mem
 |0=>[.row 9 [],.aR]
 |_+1=>[.row 9 [oo 1 o],.row 1 (aa o.data)]
theorem JL(o:Obj)(hf:o.oi):body prog c98 [cA [o]] [] (λr m=>r= .rv (.one (.row 0 9 0 none))/\m=[.row 9 [oo 1 o],.row 1 (aa o.data)]):=by
 obtain⟨ag,data,ak,target,bq,aq,bb,am,up⟩:=o;obtain⟨MD,K7,RT,K8⟩:=hf;have MD:data.length<=4194304:=MD;have K7:ak.length<=4194304:=K7;have RT:aq.length<=4194304:=RT;have K8:∀q,q∈aq->q.data.length<=4194304:=K8;refine ba (λk=>k<=1) [0,9,10] (λk=>[(11,an .i64 (k:Nat)),(3,.rv (.one (.row 0 9 0 none)))]) (aaK ⟨ag,data,ak,target,bq,aq,bb,am,up⟩) (λk=>1-k) 0 (aan _) ?_ (λk hk=>?_)
 .refine View.trans (View.aK 2 4 0 rfl rfl rfl) (View.trans (View.aK 3 9 1 rfl rfl rfl) (View.o1 2 [1,0] [] ?_))
  .exact .put (by simp[bx]) rfl (.eq rfl aC) (.aR (.nil _))
 have hk:k<=1:=hk
 match k,hk with
 |0,_=>
  refine FO data MD ?_;refine⟨⟨rfl,trivial⟩,?_⟩;refine tE ak K7 ?_;refine⟨trivial,?_⟩;refine⟨trivial,?_⟩;refine⟨trivial,?_⟩;refine ba (λj=>j<=aq.length) [0,3,5,9,10,11,24,25] (λj=>[(26,an .i64 (j:Nat)),(6,.rv (.one (.row 4 4 0 none)))])
    (λj=>[.row 9 [],.aR,.var (oo 3 ⟨ag,data,ak,target,bq,aq,bb,am,up⟩),.row 1 (aa data),.row 4 (aa ((aq.take j).map dh.enc))]) (λj=>aq.length-j) 0 (aan _) ?_ (λj hj=>?_)
  .refine View.trans (View.aK 6 4 4 rfl rfl rfl) (View.o1 5 [0,1,2,3,4] [] ?_)
   .exact .pe rfl rfl rfl (.aR (.pe rfl rfl rfl (.pr rfl rfl rfl (.pn rfl rfl rfl))))
  have hj:j<=aq.length:=hj;refine aN (λh=>?_) (λh=>?_)
  .have d9:j<aq.length:=by have h:(j:Int)<((aq.map dh.enc).length:Int):=h;rw[Nr]at h;omega
   have yy:=vl d9;have Ji:=K8 _ (aar d9);generalize aq[j]=q at yy Ji;obtain⟨qd,qh,qo,qr⟩:=q;have B2:dC (aq.map dh.enc) (j:Nat)=some [.sl 1 qd,.val (.bool qh),.val (.int .i64 qo),.val (.int .i64 qr)]:=by rw[bD,Sf,yy];rfl
   refine af B2 ?_;refine iq qd Ji ?_;refine⟨?_,?_⟩
   .show((aa ((aq.take j).map dh.enc)).length+1)*48<=_;simp[aa];omega
   refine⟨j+1,d9,(show aq.length-(j+1)<aq.length-j by omega),View.o2 8 [0,1,2,3,7] [] ?_⟩
   .refine .pe rfl rfl rfl (.aR (.pe rfl rfl rfl (.pr rfl rfl rfl (.pt rfl rfl (.bI ?_) (.nil _)))));rw[p5 yy,aby,da];rfl
  .have ek:¬(j:Int)<((aq.map dh.enc).length:Int):=h;rw[Nr]at ek;have hq:aq.take j=aq:=ab1 om;refine⟨by show(0+1)*128<=140737488355328;omega,?_⟩
   refine⟨1,T5 1,(show 1-1<1-0 by omega),View.o2 7 [6,3] [4] ?_⟩
   .refine .pt rfl rfl (mi.Jg (R:=[]) (R':=[]) rfl rfl ?_) (.pn rfl rfl rfl);intro j' c c' h1 h2;have e5:oo 1 ⟨ag,data,ak,target,bq,aq,bb,am,up⟩=[.ah (.val (.int .i64 ag)),.row 1 1 0 none,.ah (.sl 2 ak),.ah (.val (.string target)),.ah (.val (.int .i64 bq)),.ah (.sl 4 ((aq.take j).map dh.enc)),.ah (.val (.int .i64 bb)),.ah (.val (.int .i64 am)),.ah (.val (.int .i64 up))]:=by simp[oo,hq]
    rw[e5]at h2
    match j',h1,h2 with
    |0,h1,h2=>cases h1;cases h2;exact .bg (.ah _)
    |1,h1,h2=>cases h1;cases h2;exact .bg (.row 1 1 0 none)
    |2,h1,h2=>cases h1;cases h2;exact .bg (.ah _)
    |3,h1,h2=>cases h1;cases h2;exact .bg (.ah _)
    |4,h1,h2=>cases h1;cases h2;exact .bg (.ah _)
    |5,h1,h2=>cases h1;cases h2;exact .fE (dR.eW (Z:=λk=>bx [4] k=true) rfl (by rw[<-aT];rfl) 0 none)
    |6,h1,h2=>cases h1;cases h2;exact .bg (.ah _)
    |7,h1,h2=>cases h1;cases h2;exact .bg (.ah _)
    |8,h1,h2=>cases h1;cases h2;exact .bg (.ah _)
    |n+9,h1,h2=>simp at h1
 |1,_=>exact⟨rfl,rfl⟩
theorem Nw{Y:Nat->Nat}(Q:Nat)(o:Obj):(oo Q o).map (CC.bg Y)=oo (Y Q) o:=by simp[oo,CC.bg]
theorem Qq(o:Obj)(hf:o.oi){m:Mem}{K:CV->Mem->Prop}(h:K (.rv (.one (.row m.length 9 0 none))) (m++ [.row 9 [oo (m.length+1) o],.row 1 (aa o.data)])):ap prog 98 [cA [o]] m K:=by
 refine bu [] m.length rfl rfl rfl rfl rfl (λi b' hi=>by simp at hi) (aZ func98 l98 (JL o hf)) (λr m1 hr=>?_)
 obtain⟨rfl,rfl⟩:=hr;refine⟨aan _,?_⟩;show K (.rv (.one (.row (m.length+(0-0)) 9 0 none))) (gn m [.row 9 [(oo 1 o).map (CC.bg (sg [] m.length))],.row 1 ((aa o.data).map (λcs=>cs.map (CC.bg (sg [] m.length))))])
 rw[Nw,ij,b7];exact h
def c57:LF:= ⟨43,[.tmp 6,.tmp 7],(.seq (.ai [qu 3 (.box 0),qu 6 (.aI qe),qu 7 (.aI (qi 0))]) (.seq (.block 0 (.seq (.ai [qf 10 0 3,ql 11 10,qu 12 (.aJ .eql 11 (qi 2)),qm 9 12]) (.cond 9 (.seq (.ai [qu 6 (.aI qe),qu 7 (.aI (qi 12))]) .ret) (.seq (.ai [qf 14 0 3,ql 15 14,qu 16 (.aJ .neq 15 (qi 1)),qm 13 16]) (.cond 13 (.seq (.ai [qu 6 (.aI qe),qu 7 (.aI (qi 8))]) .ret) (.seq (.ai [qm 18 1,qu 19 (.aJ .lss 18 (qi 0)),qm 20 19,qg 21 (.aI 2) 20 false,qg 22 (.aJ .lss 21 (qi 0)) 20 false,qu 23 (.pick 20 (qb true) 22),qm 17 23]) (.cond 17 (.seq (.ai [qu 6 (.aI qe),qu 7 (.aI (qi 3))]) .ret) .skip))))))) (.seq (.ai [qm 24 1,qf 25 1 3,ql 26 25,qu 27 (.len 1 26),qu 28 (.jU false [24,27]),qm 8 28]) (.seq (.ai [qf 29 1 3,ql 30 29,qm 31 8,qm 32 8,qm 33 2,qf 34 1 3,ql 35 34,qu 36 (.len 1 35),qm 37 8,qu 38 (.aJ .sub 36 37),qu 39 (.jU false [33,38]),qu 40 (.aJ .add 32 39),qu 41 (.nT 1 30 (some 31) (some 40) none),qu 42 (qc 97 [41]),qm 6 42,qu 7 (.aI (qi 0))]) .ret))))⟩
theorem l57:bw prog Tryz.f57=some c57:=by kernel_rfl
def fp(a b:Nat):Nat:=if b<a then b else a
theorem sA(a b:Nat):(if(b:Int)<(a:Int)then(b:Int)else(a:Int))=((fp a b:Nat):Int):=by unfold fp;split<;>split<;>omega
theorem nO(a b:Nat):fp a b<=a/\fp a b<=b:=by unfold fp;split<;>omega
def JM(d:List (List Dt))(di n:Nat):List (List Dt):=(d.take (fp di d.length+fp n (d.length-fp di d.length))).drop (fp di d.length)
def jO(ag:Int)(d:List (List Dt))(di n:Int):List (List Dt)×Int:=
 if ag=2 then([],12)else if ag≠1 then([],8)else if di<0\/n<0 then([],3)else(JM d di.toNat n.toNat,0)
def byR(d:List (List Dt)):RV:= .one (.ah (.sl 1 d))
def c58:LF:= ⟨68,[.cell true 9 6,.tmp 7],(.seq (.ai [qu 3 (.box 0),qu 6 (.alloc [qd 0,.aK,.aK,(.ah (.val (.string ⟨#[]⟩))),qd 0,.aK,qd 0,qd 0,qd 0]),qu 7 (.aI (qi 0))]) (.seq (.block 0 (.seq (.ai [qf 10 0 3,ql 11 10,qu 12 (.aJ .eql 11 (qi 2)),qm 9 12]) (.cond 9 (.seq (.ai [qu 13 (.build [qd 0,.aK,.aK,(.ah (.val (.string ⟨#[]⟩))),qd 0,.aK,qd 0,qd 0,qd 0] []),qw (.store 9 6 13),qu 7 (.aI (qi 12))]) .ret) (.seq (.ai [qf 15 0 3,ql 16 15,qu 17 (.aJ .neq 16 (qi 1)),qm 14 17]) (.cond 14 (.seq (.ai [qu 18 (.build [qd 0,.aK,.aK,(.ah (.val (.string ⟨#[]⟩))),qd 0,.aK,qd 0,qd 0,qd 0] []),qw (.store 9 6 18),qu 7 (.aI (qi 8))]) .ret) (.seq (.ai [qm 20 1,qu 21 (.aJ .lss 20 (qi 0)),qm 19 21]) (.cond 19 (.seq (.ai [qu 22 (.build [qd 0,.aK,.aK,(.ah (.val (.string ⟨#[]⟩))),qd 0,.aK,qd 0,qd 0,qd 0] []),qw (.store 9 6 22),qu 7 (.aI (qi 3))]) .ret) (.seq (.ai [qm 24 1,qu 25 (.aJ .gtr 24 (qi 60)),qm 26 25,qg 27 (.aI 2) 26 false,qg 28 (.len 1 27) 26 false,qg 29 (.aI 1) 26 false,qg 30 (.aJ .sub (qi 60) 29) 26 false,qg 31 (.aJ .gtr 28 30) 26 false,qu 32 (.pick 26 (qb true) 31),qm 23 32]) (.cond 23 (.seq (.ai [qu 33 (.build [qd 0,.aK,.aK,(.ah (.val (.string ⟨#[]⟩))),qd 0,.aK,qd 0,qd 0,qd 0] []),qw (.store 9 6 33),qu 7 (.aI (qi 15))]) .ret) .skip))))))))) (.seq (.ai [qL 34 9 3,qu 35 (.nw 9 [qd 0,.aK,.aK,(.ah (.val (.string ⟨#[]⟩))),qd 0,.aK,qd 0,qd 0,qd 0] 1 [(0,34)]),qu 36 (qc 98 [35]),qu 37 (.cr 9 36 (qi 0)),qL 38 9 37,qu 8 (.alloc [qd 0,.aK,.aK,(.ah (.val (.string ⟨#[]⟩))),qd 0,.aK,qd 0,qd 0,qd 0]),qw (.store 9 8 38)]) (.seq (.block 1 (.loop (.seq (.seq (.ai [qf 39 1 8,ql 40 39,qu 41 (.len 1 40),qm 42 1,qm 43 2,qu 44 (.len 1 43),qu 45 (.aJ .add 42 44),qu 46 (.aJ .lss 41 45),qm 47 46,qg 48 (.aI 2) 47 true,qg 49 (.len 1 48) 47 true,qg 50 (.aJ .gtr 49 (qi 0)) 47 true,qu 51 (.pick 47 50 (qb false))]) (.cond 51 .skip (.exit 1))) (.block 2 (.ai [qf 52 1 8,ql 53 52,qu 54 (.nw 1 [(.ah (.val (.int .u8 (0))))] 1 [(0,(.c (.rv (.one (.ah (.val (.int .u8 (0))))))))]),qu 55 (.ov 1 1 53 54),qf 56 1 8,qw (.store 1 56 55)]))))) (.cU (.seq (.ai [qf 57 1 8,ql 58 57,qm 59 1,qf 60 1 8,ql 61 60,qu 62 (.len 1 61),qu 63 (.jU false [59,62]),qu 64 (.nT 1 58 (some 63) none none),qm 65 2,qu 66 (.copy 1 64 65)]) (.seq (.ai [qL 67 9 8,qw (.store 9 6 67),qu 7 (.aI (qi 0))]) .ret)))))))⟩
theorem l58:bw prog f58=some c58.er:=by kernel_rfl
def zb:List Dt:=[.val (.int .u8 0)]
def TT(d:List (List Dt))(n:Nat):List (List Dt):=d++List.replicate (n-d.length) zb
def qa(d:List (List Dt))(A:Nat)(b:List (List Dt)):List (List Dt):=if b.length=0 then d else cT (TT d (A+b.length)) A b
def Nx:Obj:=⟨0,[],[],⟨#[]⟩,0,[],0,0,0⟩
def JN(o:Obj):RV:= .agg (o.enc.map .ah)
def fb(o:Obj)(di:Int)(b:List (List Dt)):Obj×Int:=
 if o.ag=2 then(Nx,12)else if o.ag≠1 then(Nx,8)else if di<0 then(Nx,3)else if di>60\/(b.length:Int)>60-di then(Nx,15)
 else({o with data:=qa o.data di.toNat b},0)
def sB:List CC:=[.ah (.val (.int .i64 0)),.aK,.aK,.ah (.val (.string ⟨#[]⟩)),.ah (.val (.int .i64 0)),.aK,.ah (.val (.int .i64 0)),.ah (.val (.int .i64 0)),.ah (.val (.int .i64 0))]
theorem o7{m:Mem}:eP m (.agg sB) (JN Nx):=by
 refine .agg rfl λi c c' h1 h2=>?_
 match i,h1,h2 with
 |0,h1,h2=>cases h1;cases h2;exact .ah _
 |1,h1,h2=>cases h1;cases h2;exact .aK 1
 |2,h1,h2=>cases h1;cases h2;exact .aK 2
 |3,h1,h2=>cases h1;cases h2;exact .ah _
 |4,h1,h2=>cases h1;cases h2;exact .ah _
 |5,h1,h2=>cases h1;cases h2;exact .aK 4
 |6,h1,h2=>cases h1;cases h2;exact .ah _
 |7,h1,h2=>cases h1;cases h2;exact .ah _
 |8,h1,h2=>cases h1;cases h2;exact .ah _
 |n+9,h1,h2=>simp[sB]at h1
theorem Dj{m:Mem}{Q:Nat}{o:Obj}{D:List (List Dt)}(h:m[Q]? =some (.row 1 (aa D))):eP m (.agg (oo Q o)) (JN {o with data:=D}):=by
 refine .agg rfl λi c c' h1 h2=>?_
 match i,h1,h2 with
 |0,h1,h2=>cases h1;cases h2;exact .ah _
 |1,h1,h2=>cases h1;cases h2;exact eV.eW h 0 none
 |2,h1,h2=>cases h1;cases h2;exact .ah _
 |3,h1,h2=>cases h1;cases h2;exact .ah _
 |4,h1,h2=>cases h1;cases h2;exact .ah _
 |5,h1,h2=>cases h1;cases h2;exact .ah _
 |6,h1,h2=>cases h1;cases h2;exact .ah _
 |7,h1,h2=>cases h1;cases h2;exact .ah _
 |8,h1,h2=>cases h1;cases h2;exact .ah _
 |n+9,h1,h2=>simp[oo]at h1
theorem dN(d:List (List Dt)):(aa d).length=d.length:=by simp[aa]
theorem Bm(D b:List (List Dt))(A:Nat):cT (aa D) A (aa b)=aa (cT D A b):=by simp[cT,aa,acx,adp]
theorem Ny(x:Nat):iB 0 x=x:=by simp[iB]
def m9:LC->LC
 | .seq _ b=>b
 |x=>x
def unW:LC->LC
 | .cU a=>a
 |x=>x
def C57:LC:=m9 (m9 (m9 (m9 c58.code)))
def G57:LC:=unW C57
theorem TU(o:Obj)(D b:List (List Dt))(A:Nat)(h:b.length≠0->A+b.length<=D.length):
  aw prog 0 G57 (oC prog c58.lP (λr m=>cL m r (.bz [JN {o with data:=if b.length=0 then D else cT D A b},cG 0])))
   ⟨kz 68 [(1,an .i64 (A:Nat)),(2,rY 1 b),(6,.rv (.one (.ptr 0 0))),(8,.rv (.one (.ptr 2 0)))],[.var sB,.row 1 (aa D),.var (oo 1 o)]⟩:=by
 have hm:=nO A D.length;have hmi:qA (an .i64 (if((lenOf (aa D).length 0 none:Nat):Int)<(A:Int)then((lenOf (aa D).length 0 none:Nat):Int)else(A:Int)))=some (fp A D.length):=by have e:lenOf (aa D).length 0 none=D.length:=dN D;rw[e,sA];rfl
 refine af hmi ?_;refine cE (by show(Nat.ble (fp A D.length) (aa D).length&&Nat.ble (aa D).length ((aa D).length-0))=true;rw[dN];simp[aaU];omega) ?_
 by_cases hb:b.length=0
 .rw[if_pos hb];refine cE (by show Nat.beq (aa b).length 0=true;rw[dN,hb];rfl) ?_
  exact kH (Dj rfl)
 .rw[if_neg hb];have hle:=h hb;have hmA:fp A D.length=A:=by unfold fp;rw[if_neg om]
  rw[hmA];refine rP (by show Nat.beq (aa b).length 0=false;rw[dN];exact Bool.eq_false_iff.2 λhh=>hb (aam hh)) ?_
  refine cE (by have e1:=Ny A;show(Nat.beq 1 1&&(Nat.beq 1 1&&(Nat.ble (iB 0 (aa D).length) (aa D).length&&(Nat.ble (iB 0 A+(aa b).length) (iB 0 (aa D).length)&&fw (aa b)))))=true;rw[jZ,e1,dN,dN,Ny D.length];simp[aaU];omega) ?_
  refine kH (Dj ?_);show some (Bk.row 1 (cT (aa D) (iB 0 A) (aa b)))=_;rw[Ny A,Bm]
theorem FP(o:Obj)(hf:o.oi)(di:Int)(b:List (List Dt))(hb:b.length<=4194304):body prog c58 [o.cv,an .i64 di,rY 1 b] [] (λr m=>cL m r (.bz [JN (fb o di b).1,cG (fb o di b).2])):=by
 refine bs (λh1=>?_) (λh1=>?_)
 .have h1:o.ag=2:=h1;rw[fb,if_pos h1];exact kH o7
 have h1:¬o.ag=2:=h1;refine bt (λh2=>?_) (λh2=>?_)
 .have h2:o.ag≠1:=h2;rw[fb,if_neg h1,if_pos h2];exact kH o7
 have h2:¬o.ag≠1:=by simpa using h2
 refine aN (λh3=>?_) (λh3=>?_)
 .rw[fb,if_neg h1,if_neg h2,if_pos h3];exact kH o7
 have h3:¬di<0:=h3;refine aN (λh4=>?_) (λh4=>?_)
 .rw[fb,if_neg h1,if_neg h2,if_neg h3,if_pos (.inl h4)];exact kH o7
 have h4:¬di>60:=h4;have hw:IntKind.i64.wrap (60-di)=60-di:=by obtain⟨z,hz⟩:∃z:Nat,60-di=(z:Int):=⟨(60-di).toNat,om⟩;rw[hz,nY om]
 refine aN (λh5=>?_) (λh5=>?_)
 .have h5:(b.length:Int)>IntKind.i64.wrap (60-di):=h5;rw[hw]at h5;rw[fb,if_neg h1,if_neg h2,if_neg h3,if_pos (.inr h5)];exact kH o7
 have h5:¬(b.length:Int)>IntKind.i64.wrap (60-di):=h5;rw[hw]at h5;rw[fb,if_neg h1,if_neg h2,if_neg h3,if_neg (λh=>h.elim h4 h5)]
 obtain⟨A,rfl⟩:∃A:Nat,di=A:=⟨di.toNat,om⟩;rw[show((A:Nat):Int).toNat=A from rfl];have l4:=hf.1;refine pC (p4:=[cA [o]]) (m':=[.var (o.enc.map .ah),.var sB,.aR]) (View.o 3 [0,1,2] [2] (.put (.rv (.one (.fE (dR.eW (Z:=λk=>bx [2] k=true) (ds:=[o.enc]) rfl rfl 0 none)))) .nil)
  (.pe rfl rfl rfl (.pe rfl rfl rfl (.aR (.nil _))))) ?_
 refine Qq o hf ?_;obtain⟨N,hN⟩:∃N:Nat,N=if b.length=0 then 0 else A+b.length-o.data.length:=⟨_,rfl⟩
 have hN0:b.length=0->N=0:=λh0=>by rw[hN,if_pos h0]
 have hN1:b.length≠0->N=A+b.length-o.data.length:=λh0=>by rw[hN,if_neg h0]
 have aeT:N<=A+b.length-o.data.length:=by
  by_cases h0:b.length=0
  .rw[hN0 h0];exact aan _
  .rw[hN1 h0];exact T5 _
 clear hN;have TV:∀j,j<=N->(o.data++List.replicate j zb).length=o.data.length+j:=λj _=>aC
 have hwA:IntKind.i64.wrap ((A:Int)+(b.length:Int))=((A+b.length:Nat):Int):=by
  rw[show(A:Int)+(b.length:Int)=((A+b.length:Nat):Int) by omega,nY om]
 refine ba (λj=>j<=N) [1,2] (λj=>[(6,.rv (.one (.ptr 0 0))),(8,.rv (.one (.ptr 2 0)))]) (λj=>[.var sB,.row 1 (aa (o.data++List.replicate j zb)),.var (oo 1 o)]) (λj=>N-j) 0 (aan _) ?_ (λj hj=>?_)
 .refine View.o1 6 [1,4,5] [] ?_
  .exact .pe rfl rfl rfl (.pt rfl rfl (.bI aC) (.pm rfl rfl rfl))
 have hj:j<=N:=hj;have hlen:lenOf (aa (o.data++List.replicate j zb)).length 0 none=o.data.length+j:=by show(aa (o.data++List.replicate j zb)).length=_;rw[dN,TV j hj]
 have ib:∀(D:List (List Dt)),D=o.data++List.replicate j zb->(b.length≠0->A+b.length<=o.data.length+j)->aw prog 0 G57 (oC prog c58.lP (λr m=>cL m r (.bz [JN {o with data:=qa o.data A b},cG 0])))
   ⟨kz 68 [(1,an .i64 (A:Nat)),(2,rY 1 b),(6,.rv (.one (.ptr 0 0))),(8,.rv (.one (.ptr 2 0)))],[.var sB,.row 1 (aa D),.var (oo 1 o)]⟩:=λD hD hh=>by
  have hs:=TU o D b A (λh0=>by rw[hD,TV j hj];exact hh h0)
  have e:qa o.data A b=if b.length=0 then D else cT D A b:=by
   unfold qa;by_cases h0:b.length=0
   .rw[if_pos h0,if_pos h0,hD];have:=hN0 h0;have ej:j=0:=om;rw[ej];simp
   .rw[if_neg h0,if_neg h0,hD];have:=hh h0;have ej:j=A+b.length-o.data.length:=om;rw[TT,ej]
  rw[e];exact hs
 have out:∀e,io (sg [0,1,2] 3) [.var sB,.row 1 (aa (o.data++List.replicate j zb)),.var (oo 1 o)] (λk=>bx [] k=true) e (kz 68 [(1,an .i64 (A:Nat)),(2,rY 1 b),(6,.rv (.one (.ptr 0 0))),(8,.rv (.one (.ptr 2 0)))])->
   View 0 ⟨e,[.var sB,.row 1 (aa (o.data++List.replicate j zb)),.var (oo 1 o)]⟩ ⟨kz 68 [(1,an .i64 (A:Nat)),(2,rY 1 b),(6,.rv (.one (.ptr 0 0))),(8,.rv (.one (.ptr 2 0)))],[.var sB,.row 1 (aa (o.data++List.replicate j zb)),.var (oo 1 o)]⟩:=λe he=>
  View.o 3 [0,1,2] [] he (.pe rfl rfl rfl (.pr rfl rfl rfl (.pm rfl rfl rfl)))
 refine aN (λh6=>?_) (λh6=>?_)
 .have h6:((lenOf (aa (o.data++List.replicate j zb)).length 0 none:Nat):Int)<IntKind.i64.wrap ((A:Int)+(b.length:Int)):=h6;rw[hlen,hwA]at h6;refine aN (λh7=>?_) (λh7=>?_)
  .have h7:(b.length:Int)>0:=h7;have:=hN1 om;refine⟨by simp only[bV,dN,aaj,aa9,TV j hj];omega,?_⟩
   refine⟨j+1,(show j+1<=N by omega),(show N-(j+1)<N-j by omega),View.o1 5 [0,4,2] [] ?_⟩
   .refine .pe rfl rfl rfl (.pt rfl rfl (.bI ?_) (.pm rfl rfl rfl));rw[List.replicate_succ'];simp[bV,aa,zb]
  .have h7:¬(b.length:Int)>0:=h7;refine⟨_,out _ ?_,ib _ rfl (λh0=>om)⟩
   repeat(first|exact .nil|refine .aF ?_|refine .eq rfl ?_)
 .have h6:¬((lenOf (aa (o.data++List.replicate j zb)).length 0 none:Nat):Int)<IntKind.i64.wrap ((A:Int)+(b.length:Int)):=h6;rw[hlen,hwA]at h6;refine⟨_,out _ ?_,ib _ rfl (λh0=>om)⟩
  repeat(first|exact .nil|refine .aF ?_|refine .eq rfl ?_)
theorem Dk(o:Obj)(hf:o.oi)(di:Int)(b:List (List Dt))(hb:b.length<=4194304){m:Mem}{K:CV->Mem->Prop}(h:K (.bz [JN (fb o di b).1,cG (fb o di b).2]) m):ap prog 58 [o.cv,an .i64 di,rY 1 b] m K:=
 be (b8 func58 l58 (FP o hf di b hb)) (by simp[Obj.cv,Obj.enc,rY,an,CV.dv,CC.dv,RV.dv]) λr m1 hf=>⟨_,hf,h⟩
def kJ(p Q k:Nat)(o:Obj):List CC:=[.ah (.val (.int .i64 o.ag)),.ah (.sl 1 o.data),(if k=p then .row Q 2 0 none else .ah (.sl 2 o.ak)),.ah (.val (.string o.target)),.ah (.val (.int .i64 o.bq)),
 .ah (.sl 4 (o.aq.map dh.enc)),.ah (.val (.int .i64 o.bb)),.ah (.val (.int .i64 o.am)),.ah (.val (.int .i64 o.up))]
def bO(p Q:Nat):Nat->List Obj->List (List CC)
 |_,[]=>[]
 |k,o::r=>kJ p Q k o::bO p Q (k+1) r
theorem sC(p Q:Nat):∀(a:List Obj)(k:Nat)(b:List Obj),bO p Q k (a++b)=bO p Q k a++bO p Q (k+a.length) b
 | [],k,b=>rfl
 |o::r,k,b=>by simp[bO,sC p Q r (k+1) b,aaW,Nat.add_comm 1]
theorem f8(p Q:Nat):∀(l:List Obj)(k:Nat),(bO p Q k l).length=l.length
 | [],_=>rfl
 |o::r,k=>by simp[bO,f8 p Q r (k+1)]
theorem xj(p Q:Nat):∀(l:List Obj)(k:Nat),(p<k\/k+l.length<=p)->bO p Q k l=aa (l.map Obj.enc)
 | [],_,_=>rfl
 |o::r,k,h=>by simp only[aaj]at h;have hk:¬k=p:=om;simp only[bO,kJ,if_neg hk,xj p Q r (k+1) om];rfl
theorem f9(p Q:Nat):∀(l:List Obj)(k i:Nat),(bO p Q k l)[i]? =(l[i]?).map (kJ p Q (k+i))
 | [],k,i=>by simp[bO]
 |o::r,k,0=>by simp[bO]
 |o::r,k,i+1=>by
  simp only[bO,abC,f9 p Q r (k+1) i];rw[show k+1+i=k+(i+1) by omega]
theorem Nz{Y:Nat->Nat}{p Q k:Nat}(o:Obj):(kJ p Q k o).map (CC.bg Y)=kJ p (Y Q) k o:=by
 by_cases h:k=p<;>simp[kJ,h,CC.bg]
theorem nb{Y:Nat->Nat}(p Q:Nat):∀(l:List Obj)(k:Nat),(bO p Q k l).map (λcs=>cs.map (CC.bg Y))=bO p (Y Q) k l
 | [],_=>rfl
 |o::r,k=>by simp only[bO,aaJ,nb p Q r (k+1)];rw[Nz]
theorem Bn(d:List (List Dt))(hb:d.length<=4194304):body prog c128 [rY 2 d] [] (λr m=>∃r' m',View 0 ⟨[r],m⟩ ⟨[r'],m'⟩/\r'= .rv (.one (.row 0 2 0 none))/\m'=[.row 2 (aa d)]):=by
 have ta:((([]:List (List CC)).length+(d.map λds=>ds.map CC.ah).length)*24)<=140737488355328:=by simp;omega
 have ib:∃r' m',View 0 ⟨[CV.rv (.one (.row 1 2 0 none))],[.aR,.row 2 (bV ([]:List (List CC)) 0 none++d.map λds=>ds.map CC.ah)]⟩ ⟨[r'],m'⟩/\r'=CV.rv (.one (.row 0 2 0 none))/\m'=[Bk.row 2 (aa d)]:=
  ⟨_,_,View.o 2 [1] [] (.eq rfl .nil) (.pn rfl rfl rfl),rfl,rfl⟩
 refine aM (λh=>?_) (λh=>?_)
 .have hd:d=[]:=aai (by simpa using aam h)
  refine⟨?_,ta,ib⟩;subst hd;exact⟨_,_,View.aK 0 2 0 rfl rfl rfl,rfl,rfl⟩
 .exact⟨ta,ib⟩
theorem FQ(d:List (List Dt))(hb:d.length<=4194304){m:Mem}{K:CV->Mem->Prop}(h:K (.rv (.one (.row m.length 2 0 none))) (m++ [.row 2 (aa d)])):ap prog 128 [rY 2 d] m K:=by
 refine bu [] m.length rfl rfl rfl rfl (args0:=[rY 2 d]) rfl (λi b' hi=>by simp at hi) (K0:=λr m=>r= .rv (.one (.row 0 2 0 none))/\m=[.row 2 (aa d)]) (bH (aZ func128 l128 (Bn d hb)) λr m1 h=>h) (λr m1 hr=>?_)
 obtain⟨rfl,rfl⟩:=hr;refine⟨aan _,?_⟩;show K (.rv (.one (.row (m.length+(0-0)) 2 0 none))) (gn m [.row 2 ((aa d).map (λcs=>cs.map (CC.bg (sg [] m.length))))])
 rw[ij,b7];exact h
def Bo(l:List Obj)(p k:Nat):Bk:=match Nat.blt p k with|true=>.row 2 (aa (match l[p]? with|some o=>o.ak|none=>[]))|false=>.aR
theorem vF{Y:Nat->Nat}(l:List Obj)(p k:Nat):(Bo l p k).bg Y=Bo l p k:=by
 unfold Bo;split
 .exact Bk.js _ _
 .rfl
theorem xk{p Q:Nat}{l:List Obj}{k:Nat}{o:Obj}(h:l[k]? =some o):bO p Q 0 (l.take (k+1))=bO p Q 0 (l.take k)++ [kJ p Q k o]:=by have hk:=(JJ.1 h).1;rw[p5 h,sC,aav,acP om,aaM];rfl
theorem JO(l:List Obj)(hf:lM l)(p:Nat):body prog c98 [cA l] [] (λr m=>r= .rv (.one (.row 0 9 0 none))/\m=[.row 9 (bO p 1 0 l),Bo l p l.length]):=by
 obtain⟨hl,UL⟩:=hf;refine ba (λk=>k<=l.length) [0,9,10] (λk=>[(11,an .i64 (k:Nat)),(3,.rv (.one (.row 0 9 0 none)))]) (λk=>[.row 9 (bO p 1 0 (l.take k)),Bo l p k]) (λk=>l.length-k) 0 (aan _) ?_ (λk hk=>?_)
 .refine View.trans (View.aK 2 4 0 rfl rfl rfl) (View.trans (View.aK 3 9 1 rfl rfl rfl) (View.o1 2 [1,0] [] ?_))
  .exact .put (by simp[bx]) rfl (.eq rfl aC) (.aR (.nil _))
 .refine aN (λh=>?_) (λh=>?_)
  .have aD:k<l.length:=by have h:(k:Int)<((l.map Obj.enc).length:Int):=h;rw[Nr]at h;omega
   have hi:=vl aD;have Pg:=UL _ (aar aD);have hg:dC (l.map Obj.enc) (k:Nat)=some (l[k].enc):=by rw[bD,Sf,vl aD];rfl
   generalize l[k]=o at hi Pg hg;obtain⟨ag,data,ak,target,bq,aq,bb,am,up⟩:=o;obtain⟨MD,K7,RT,K8⟩:=Pg;have MD:data.length<=4194304:=MD;have K7:ak.length<=4194304:=K7;have RT:aq.length<=4194304:=RT;have K8:∀q,q∈aq->q.data.length<=4194304:=K8;have hg:dC (l.map Obj.enc) (k:Nat)=some [.val (.int .i64 ag),.sl 1 data,.sl 2 ak,.val (.string target),.val (.int .i64 bq),.sl 4 (aq.map dh.enc),.val (.int .i64 bb),.val (.int .i64 am),.val (.int .i64 up)]:=hg;refine af hg ?_;refine iq data MD ?_;refine⟨⟨rfl,trivial⟩,?_⟩;by_cases Ef:k=p
   .subst Ef;refine FQ ak K7 ?_;refine⟨trivial,?_⟩;refine⟨trivial,?_⟩;refine⟨trivial,?_⟩;have hR:∀Q,bO k Q 0 (l.take k)=aa ((l.take k).map Obj.enc):=λQ=>xj k Q _ 0 (.inr (by simp;omega))
    have hd:Bo l k k= .aR:=by
     have:Nat.blt k k=false:=Bool.eq_false_iff.2 λh=>by rw[abW]at h;omega
     simp only[Bo,this]
    rw[hd,hR];refine ba (λj=>j<=aq.length) [0,3,5,9,10,11,24,25] (λj=>[(26,an .i64 (j:Nat)),(6,.rv (.one (.row 4 4 0 none)))])
     (λj=>[.row 9 (aa ((l.take k).map Obj.enc)),.aR,.var [.ah (.val (.int .i64 ag)),.ah (.sl 1 data),.row 3 2 0 none,.ah (.val (.string target)),.ah (.val (.int .i64 bq)),.ah (.sl 4 (aq.map dh.enc)),.ah (.val (.int .i64 bb)),.ah (.val (.int .i64 am)),.ah (.val (.int .i64 up))],.row 2 (aa ak),.row 4 (aa ((aq.take j).map dh.enc))]) (λj=>aq.length-j) 0 (aan _) ?_ (λj hj=>?_)
    .refine View.trans (View.aK 6 4 4 rfl rfl rfl) (View.o1 5 [0,1,2,3,4] [] ?_)
     .exact .pr rfl rfl rfl (.aR (.pe rfl rfl rfl (.pr rfl rfl rfl (.pn rfl rfl rfl))))
    .have hj:j<=aq.length:=hj;refine aN (λh=>?_) (λh=>?_)
     .have d9:j<aq.length:=by have h:(j:Int)<((aq.map dh.enc).length:Int):=h;rw[Nr]at h;omega
      have yy:=vl d9;have Ji:=K8 _ (aar d9);generalize aq[j]=q at yy Ji;obtain⟨qd,qh,qo,qr⟩:=q;have B2:dC (aq.map dh.enc) (j:Nat)=some [.sl 1 qd,.val (.bool qh),.val (.int .i64 qo),.val (.int .i64 qr)]:=by rw[bD,Sf,yy];rfl
      refine af B2 ?_;refine iq qd Ji ?_;refine⟨?_,?_⟩
      .show((aa ((aq.take j).map dh.enc)).length+1)*48<=_;simp[aa];omega
      refine⟨j+1,d9,(show aq.length-(j+1)<aq.length-j by omega),View.o2 8 [0,1,2,3,7] [] ?_⟩
      .refine .pr rfl rfl rfl (.aR (.pe rfl rfl rfl (.pr rfl rfl rfl (.pt rfl rfl (.bI ?_) (.nil _)))));rw[p5 yy,aby,da];rfl
     .have ek:¬(j:Int)<((aq.map dh.enc).length:Int):=h;rw[Nr]at ek;have hq:aq.take j=aq:=ab1 om;refine⟨?_,?_⟩
      .show((aa ((l.take k).map Obj.enc)).length+1)*128<=_;simp[aa];omega
      have Tt:Bo l k (k+1)= .row 2 (aa ak):=by
       have:Nat.blt k (k+1)=true:=by rw[abW];omega
       simp only[Bo,this,hi]
      refine⟨k+1,aD,(show l.length-(k+1)<l.length-k by omega),View.o2 7 [6,3] [4] ?_⟩
      .rw[xk hi,Tt,hR];refine .pt rfl rfl (.Jg (ij _ _) rfl ?_) (.pn rfl rfl rfl);intro j' c c' h1 h2;have e5:kJ k 1 k ⟨ag,data,ak,target,bq,aq,bb,am,up⟩=[.ah (.val (.int .i64 ag)),.ah (.sl 1 data),.row 1 2 0 none,.ah (.val (.string target)),.ah (.val (.int .i64 bq)),.ah (.sl 4 ((aq.take j).map dh.enc)),.ah (.val (.int .i64 bb)),.ah (.val (.int .i64 am)),.ah (.val (.int .i64 up))]:=by simp[kJ,hq]
       rw[e5]at h2
       match j',h1,h2 with
       |0,h1,h2=>cases h1;cases h2;exact .bg (.ah _)
       |1,h1,h2=>cases h1;cases h2;exact .bg (.ah _)
       |2,h1,h2=>cases h1;cases h2;exact .bg (.row 1 2 0 none)
       |3,h1,h2=>cases h1;cases h2;exact .bg (.ah _)
       |4,h1,h2=>cases h1;cases h2;exact .bg (.ah _)
       |5,h1,h2=>cases h1;cases h2;exact .fE (dR.eW (Z:=λk=>bx [4] k=true) rfl (by rw[<-aT];rfl) 0 none)
       |6,h1,h2=>cases h1;cases h2;exact .bg (.ah _)
       |7,h1,h2=>cases h1;cases h2;exact .bg (.ah _)
       |8,h1,h2=>cases h1;cases h2;exact .bg (.ah _)
       |n+9,h1,h2=>simp at h1
   .refine tE ak K7 ?_;refine⟨trivial,?_⟩;refine⟨trivial,?_⟩;refine⟨trivial,?_⟩;refine ba (λj=>j<=aq.length) [0,3,5,9,10,11,24,25] (λj=>[(26,an .i64 (j:Nat)),(6,.rv (.one (.row 3 4 0 none)))])
     (λj=>[.row 9 (bO p 1 0 (l.take k)),Bo l p k,.var ((⟨ag,data,ak,target,bq,aq,bb,am,up⟩:Obj).enc.map .ah),.row 4 (aa ((aq.take j).map dh.enc))]) (λj=>aq.length-j) 0 (aan _) ?_ (λj hj=>?_)
    .refine View.trans (View.aK 6 4 3 rfl rfl rfl) (View.o1 4 [0,1,2,3] [] ?_)
     .exact .pt rfl rfl (.eq (congrArg (Bk.row 9) (nb p 1 _ _)) aC) (.fW (dD rfl) rfl (vF l p k) (.pe rfl rfl rfl (.pn rfl rfl rfl)))
    .have hj:j<=aq.length:=hj;refine aN (λh=>?_) (λh=>?_)
     .have d9:j<aq.length:=by have h:(j:Int)<((aq.map dh.enc).length:Int):=h;rw[Nr]at h;omega
      have yy:=vl d9;have Ji:=K8 _ (aar d9);generalize aq[j]=q at yy Ji;obtain⟨qd,qh,qo,qr⟩:=q;have B2:dC (aq.map dh.enc) (j:Nat)=some [.sl 1 qd,.val (.bool qh),.val (.int .i64 qo),.val (.int .i64 qr)]:=by rw[bD,Sf,yy];rfl
      refine af B2 ?_;refine iq qd Ji ?_;refine⟨?_,?_⟩
      .show((aa ((aq.take j).map dh.enc)).length+1)*48<=_;simp[aa];omega
      refine⟨j+1,d9,(show aq.length-(j+1)<aq.length-j by omega),View.o2 7 [0,1,2,6] [] ?_⟩
      .refine .pt rfl rfl (.eq (congrArg (Bk.row 9) (nb p 1 _ _)) aC) (.fW (dD rfl) rfl (vF l p k) (.pe rfl rfl rfl (.pt rfl rfl (.bI ?_) (.nil _))));rw[p5 yy,aby,da];rfl
     .have ek:¬(j:Int)<((aq.map dh.enc).length:Int):=h;rw[Nr]at ek;have hq:aq.take j=aq:=ab1 om;refine⟨?_,?_⟩
      .show((bO p 1 0 (l.take k)).length+1)*128<=_;rw[f8];simp;omega
      have Tt:Bo l p (k+1)=Bo l p k:=by
       have:Nat.blt p (k+1)=Nat.blt p k:=by rw[ac9,abW,abW];omega
       simp only[Bo,this]
      refine⟨k+1,aD,(show l.length-(k+1)<l.length-k by omega),View.o2 6 [5,1] [3] ?_⟩
      .rw[xk hi,Tt];refine .pt rfl rfl (.Jg (nb p 1 _ _) rfl ?_) (.fW (dD rfl) rfl (vF l p k) (.nil _));intro j' c c' h1 h2;have e5:kJ p 1 k ⟨ag,data,ak,target,bq,aq,bb,am,up⟩=[.ah (.val (.int .i64 ag)),.ah (.sl 1 data),.ah (.sl 2 ak),.ah (.val (.string target)),.ah (.val (.int .i64 bq)),.ah (.sl 4 ((aq.take j).map dh.enc)),.ah (.val (.int .i64 bb)),.ah (.val (.int .i64 am)),.ah (.val (.int .i64 up))]:=by simp[kJ,Ef,hq]
       rw[e5]at h2
       match j',h1,h2 with
       |0,h1,h2=>cases h1;cases h2;exact .bg (.ah _)
       |1,h1,h2=>cases h1;cases h2;exact .bg (.ah _)
       |2,h1,h2=>cases h1;cases h2;exact .bg (.ah _)
       |3,h1,h2=>cases h1;cases h2;exact .bg (.ah _)
       |4,h1,h2=>cases h1;cases h2;exact .bg (.ah _)
       |5,h1,h2=>cases h1;cases h2;exact .fE (dR.eW (Z:=λk=>bx [3] k=true) rfl (by rw[<-aT];rfl) 0 none)
       |6,h1,h2=>cases h1;cases h2;exact .bg (.ah _)
       |7,h1,h2=>cases h1;cases h2;exact .bg (.ah _)
       |8,h1,h2=>cases h1;cases h2;exact .bg (.ah _)
       |n+9,h1,h2=>simp at h1
  .have ek:¬(k:Int)<((l.map Obj.enc).length:Int):=h;rw[Nr]at ek;have gj:k=l.length:=by have:k<=l.length:=hk;omega
   subst gj;rw[aaN];exact⟨rfl,rfl⟩
theorem Bp(l:List Obj)(hf:lM l)(p:Nat){m:Mem}{K:CV->Mem->Prop}(h:K (.rv (.one (.row m.length 9 0 none))) (m++ [.row 9 (bO p (m.length+1) 0 l),Bo l p l.length])):ap prog 98 [cA l] m K:=by
 refine bu [] m.length rfl rfl rfl rfl rfl (λi b' hi=>by simp at hi) (aZ func98 l98 (JO l hf p)) (λr m1 hr=>?_)
 obtain⟨h1,h2⟩:=hr;subst h1;subst h2;refine⟨aan _,?_⟩;show K (.rv (.one (.row (m.length+(0-0)) 9 0 none))) (gn m [.row 9 ((bO p 1 0 l).map (λcs=>cs.map (CC.bg (sg [] m.length)))),(Bo l p l.length).bg (sg [] m.length)])
 rw[nb,vF,b7];exact h
def c108:LF:= ⟨46,[.tmp 6],(.seq (.ai [qu 6 (.aI (qi 0))]) (.seq (.seq (.ai [qm 9 1,qu 10 (.aJ .lss 9 (qi 0)),qm 11 10,qg 12 (.aI 1) 11 false,qg 13 (.aI 0) 11 false,qg 14 (.len 1 13) 11 false,qg 15 (.aJ .geq 12 14) 11 false,qu 16 (.pick 11 (qb true) 15),qm 17 16,qg 18 (.aI 0) 17 false,qg 19 (.aI 1) 17 false,qg 20 (.cr 9 18 19) 17 false,qg 21 (.bU 0 20) 17 false,qg 22 (.load false 1 21) 17 false,qg 23 (.aJ .neq 22 (qi 2)) 17 false,qu 24 (.pick 17 (qb true) 23)]) (.cond 24 (.seq (.ai [qu 6 (.aI (qi (-1)))]) .ret) .skip)) (.seq (.ai [qm 26 0,qm 27 1,qu 28 (.cr 9 26 27),qf 29 2 28,ql 30 29,qm 31 2,qu 32 (qc 134 [30,31,(.c (.rv (.one (.fn 135 []))))]),qm 25 32,qu 33 (.ext 25 0),qu 34 (.ext 25 1),qm 7 33,qm 8 34]) (.seq (.seq (.ai [qm 35 8,qu 36 (.un .not 35)]) (.cond 36 (.seq (.ai [qu 6 (.aI (qi (-1)))]) .ret) .skip)) (.seq (.ai [qm 37 0,qm 38 1,qu 39 (.cr 9 37 38),qf 40 2 39,ql 41 40,qm 42 7,qu 43 (.cr 2 41 42),qf 44 1 43,ql 45 44,qm 6 45]) .ret)))))⟩
def c139:LF:= ⟨9,[.tmp 4],(.seq (.ai [qu 2 (.box 0),qu 4 (.aI (qi 0))]) (.seq (.ai [qf 5 0 2,ql 6 5,qm 7 1,qu 8 (qc 136 [6,7]),qm 4 8]) .ret))⟩
theorem l139:bw prog f139=some c139:=by kernel_rfl
theorem l108:bw prog f108=some c108:=by kernel_rfl
theorem Dl(e:ByteArray×Int)(s:ByteArray):body prog c139 [xe e,eU s] [] (λr m=>r=an .i64 (ld e.1 s)):=
 Np e.1 s rfl
theorem TW(e:ByteArray×Int)(s:ByteArray){m:Mem}{K:CV->Mem->Prop}(h:K (an .i64 (ld e.1 s)) m):ap prog 139 [xe e,eU s] m K:=
 bA func139 l139 rfl (aah rfl) (Dl e s) rfl rfl h
def xl(l:List Obj)(es:List (ByteArray×Int))(cK:Nat)(s:ByteArray):Int:=if Bd es s=true then(match es[qS es s]? with|some e=>e.2|none=>0)else -1
theorem FS(l:List Obj)(cK:Nat)(hd:cK<l.length)(hk:l[cK].ag=2)(es:List (ByteArray×Int))(he:l[cK].ak=es.map cY)(hl:es.length<=2147483648)(s:ByteArray):body prog c108 [cA l,an .i64 (cK:Nat),eU s] [] (λr m=>r=an .i64 (xl l es cK s)):=by
 have hg:dC (l.map Obj.enc) (cK:Nat)=some l[cK].enc:=by rw[bD,Sf,vl hd];rfl
 generalize l[cK]=o at hg hk he;obtain⟨ag,data,ak,target,bq,aq,bb,am,up⟩:=o;have hk:ag=2:=hk;have he:ak=es.map cY:=he;subst hk he;have hg:dC (l.map Obj.enc) (cK:Nat)=some [.val (.int .i64 2),.sl 1 data,.sl 2 (es.map cY),.val (.string target),.val (.int .i64 bq),.sl 4 (aq.map dh.enc),.val (.int .i64 bb),.val (.int .i64 am),.val (.int .i64 up)]:=hg;refine aN (λh1=>?_) (λh1=>?_)
 .exfalso;have h1:(cK:Int)>=((l.map Obj.enc).length:Int):=h1;rw[Nr]at h1;omega
 refine af hg ?_;refine af hg ?_;refine Nq es hl s 135 (λe m K h=>Se e s h) ?_
 refine aM (λh2=>?_) (λh2=>?_)
 .have h2:Bd es s=false:=by simpa using h2
  show an _ _=an _ _;rw[xl,if_neg (by rw[h2];simp)]
 .have h2:Bd es s=true:=by simpa using h2
  refine af hg ?_;have aD:qS es s<es.length:=by
   unfold Bd at h2;split at h2
   .rename_i e he;exact(JJ.1 he).1
   .cases h2
  refine af (o5 aD) ?_;show an _ _=an _ _;rw[xl,if_pos h2,vl aD]
theorem Dm(l:List Obj)(cK:Nat)(hd:cK<l.length)(hk:l[cK].ag=2)(es:List (ByteArray×Int))(he:l[cK].ak=es.map cY)(hl:es.length<=2147483648)(s:ByteArray){m:Mem}{K:CV->Mem->Prop}(h:K (an .i64 (xl l es cK s)) m):ap prog 108 [cA l,an .i64 (cK:Nat),eU s] m K:=
 bA func108 l108 rfl (aah rfl) (FS l cK hd hk es he hl s) (by simp[cA,an,eU,CV.dv,CC.dv,RV.dv]) rfl h
theorem FT(l:List Ob)(ok:nN l)(cK:Nat)(hd:cK<l.length)(hk:l[cK].ag=2)(w:bK.dL):body prog c108 [AY l,an .i64 (cK:Nat),bK.vT w] [] (λr m=>r=an .i64 (my l cK w)):=by
 obtain⟨Bq,aeU,hlen,u9⟩:=ok.dJ cK;have u9:=u9 hd;have hf:my l cK w=(if Bd (iP (lI l cK)) (bK.cF w)=true then(match (iP (lI l cK))[qS (iP (lI l cK)) (bK.cF w)]? with|some e=>e.2|none=>0)else -1):=uV Bq (iM _ _) (HV Bq _)
 rw[hf];have hg:=m6 hd;generalize iP (lI l cK)=es at*
 generalize l[cK]=o at hg hk u9;obtain⟨ag,data,ak,target,bq,aq,bb,am,up⟩:=o;have hk:ag=2:=hk;have he:ak=es.map cY:=u9;subst hk he;refine aN (λh1=>?_) (λh1=>?_)
 .exfalso;have h1:(cK:Int)>=((l.map Ob.enc).length:Int):=h1;rw[Nr]at h1;omega
 refine af hg ?_;refine af hg ?_;refine Nq es om (bK.cF w) 135 (λe m K h=>Se e (bK.cF w) h) ?_
 refine aM (λh2=>?_) (λh2=>?_)
 .have h2:Bd es (bK.cF w)=false:=by simpa using h2
  show an _ _=an _ _;rw[if_neg (by rw[h2];simp)]
 .have h2:Bd es (bK.cF w)=true:=by simpa using h2
  refine af hg ?_;have aD:qS es (bK.cF w)<es.length:=by
   unfold Bd at h2;split at h2
   .rename_i e he;exact(JJ.1 he).1
   .cases h2
  refine af (o5 aD) ?_;show an _ _=an _ _;rw[if_pos h2,vl aD]
theorem NA(l:List Ob)(ok:nN l)(cK:Nat)(hd:cK<l.length)(hk:l[cK].ag=2)(w:bK.dL){m:Mem}{K:CV->Mem->Prop}(h:K (an .i64 (my l cK w)) m):ap prog 108 [AY l,an .i64 (cK:Nat),bK.vT w] m K:=
 bA func108 l108 rfl (aah rfl) (FT l ok cK hd hk w) rfl rfl h
def U4(l:List Ob)(ar:Int):Nat->Int->Bool
 |0,_=>false
 |n+1,d=>if oS l d 2=false then false else if d=ar then true else if d=0 then false else U4 l ar n (lI l d.toNat).up
theorem xm{l:List Ob}{ar:Int}(V:List Nat)(h:∀x,x∈V->(x:Int)≠ar/\∃y,y∈V/\(lI l x).up=(y:Nat)):∀(n x:Nat),x∈V->U4 l ar n (x:Nat)=false
 |0,_,_=>rfl
 |n+1,x,hx=>by
  obtain⟨h1,y,hy,h2⟩:=h x hx;rw[U4];by_cases hI:oS l x 2=false
  .rw[if_pos hI]
  rw[if_neg hI,if_neg h1];by_cases h0:(x:Int)=0
  .rw[if_pos h0]
  rw[if_neg h0,aae,h2];exact xm V h n y hy
theorem xn:∀{N:Nat}{V:List Nat},V.Nodup->(∀x,x∈V->x<N)->V.length<=N
 |0,V,_,h=>by
  cases V with
  |nil=>exact T5 _
  |cons x r=>exact absurd (h x aC) (aaR x)
 |N+1,V,hd,h=>by
  by_cases hm:N∈V
  .have h1:=List.length_erase_of_mem hm;have h2:=xn (N:=N) (hd.erase N) λx hx=>by rw[hd.mem_erase_iff]at hx;have:=h x hx.2;have:=hx.1;omega
   have:=List.length_pos_of_mem hm;omega
  .have:=xn (N:=N) hd λx hx=>by
    have h1:=h x hx;have:x≠N:=λe=>hm (e▸hx)
    omega
   omega
structure TY where
 d:Int
 V:List Nat
structure Qr(l:List Ob)(ar cK:Int)(a:TY):Prop where
 nd:a.V.Nodup
 rg:∀x,x∈a.V->x<l.length
 cl:∀x,x∈a.V->(x:Int)≠ar/\((lI l x).up=a.d\/∃y,y∈a.V/\(lI l x).up=(y:Nat))
 eq:U4 l ar (l.length+1-a.V.length) a.d=U4 l ar (l.length+1) cK
theorem Qr.le{l:List Ob}{ar cK:Int}{a:TY}(h:Qr l ar cK a):a.V.length<=l.length:=xn h.nd h.rg
theorem Qr.u7{l:List Ob}{ar cK:Int}{a:TY}(h:Qr l ar cK a){n:Nat}(hn:a.d=n)(hm:n∈a.V):U4 l ar (l.length+1) cK=false:=by
 rw[<-h.eq,hn];refine xm a.V (λx hx=>?_) _ n hm
 obtain⟨h1,h2⟩:=h.cl x hx;refine⟨h1,?_⟩;rcases h2 with h2|h2
 .exact⟨n,hm,h2.trans hn⟩
 .exact h2
def c132:LF:= ⟨32,[.tmp 2],(.seq (.ai [qu 2 (.aI (qb false))]) (.seq (.seq (.bR [qm 3 0,qu 4 (.aO 3),qf 5 4 4,ql 6 5,qm 7 0,qu 8 (.aO 7),qf 9 1 8,ql 10 9,qu 11 (.aJ .eql 6 10),qm 12 11,qg 13 (.aI 0) 12 true,qg 14 (.aO 13) 12 true,qg 15 (.bU 2 14) 12 true,qg 16 (.load false 1 15) 12 true,qu 17 (.pick 12 16 (qb false))] [eh 15 0 .nil]) (.cond 17 (.seq (.ai [qu 2 (.aI (qb false))]) .ret) .skip)) (.seq (.bR [qm 18 0,qm 19 0,qu 20 (.aO 19),qf 21 0 20,ql 22 21,qm 23 0,qu 24 (.aO 23),qf 25 4 24,ql 26 25,qu 27 (.cr 9 22 26),qf 28 8 27,ql 29 28,qu 30 (.aO 18),qf 31 4 30,qw (.store 1 31 29)] [(eh 14 0 (.cons 14 (some []) .nil))]) (.seq (.ai [qu 2 (.aI (qb true))]) .ret))))⟩
def c133:LF:= ⟨48,[.tmp 4],(.seq (.ai [qu 4 (.aI (qi 0))]) (.seq (.seq (.ai [qm 8 0,qu 9 (.aO 8),qf 10 3 9,ql 11 10,qu 12 (.aJ .eql 11 (qi 6))]) (.cond 12 (.seq (.ai [qu 4 (.aI (qi 13))]) .ret) .skip)) (.seq (.ai [qm 13 0,qu 14 (.aO 13),qf 15 3 14,ql 16 15,qu 17 (.aJ .add 16 (qi 1)),qu 18 (.aO 13),qf 19 3 18,qw (.store 1 19 17)]) (.seq (.ai [qm 21 1,qu 22 (qc 66 [21]),qm 20 22,qu 23 (.ext 20 0),qu 24 (.ext 20 1),qu 25 (.ext 20 2),qm 5 23,qm 6 24,qm 7 25]) (.seq (.seq (.ai [qm 26 7,qu 27 (.aJ .neq 26 (qi 0))]) (.cond 27 (.seq (.ai [qm 28 7,qm 4 28]) .ret) .skip)) (.seq (.seq (.ai [qm 29 6]) (.cond 29 (.seq (.seq (.ai [qm 30 0,qu 31 (.aO 30),qf 32 2 31,ql 33 32]) (.cond 33 (.seq (.ai [qu 4 (.aI (qi 14))]) .ret) .skip)) (.ai [qm 34 0,qu 35 (.aO 34),qf 36 4 35,qw (.store 1 36 (qi 0))])) .skip)) (.seq (.bR [qm 37 0,qu 38 (.nw 1 [(.ah (.val (.string ⟨#[]⟩)))] 0 []),qm 39 5,qu 40 (.ov 1 16 38 39),qm 41 0,qu 42 (.aO 41),qf 43 5 42,ql 44 43,qu 45 (.ov 1 16 40 44),qu 46 (.aO 37),qf 47 5 46,qw (.store 1 47 45)] [(.cons 0 none (.cons 2 none (eh 4 4 (.cons 1 (some [7]) (.cons 3 (some [7]) (.cons 8 (some []) (.cons 9 none (.cons 10 none (.cons 11 (some []) .nil)))))))))]) (.seq (.ai [qu 4 (.aI (qi 0))]) .ret))))))))⟩
theorem l132:bw prog f132=some c132:=by kernel_rfl
theorem l133:bw prog f133=some c133:=by kernel_rfl
def tZ(l:List Ob)(ar:Nat)(ay:Bool)(h a:Nat)(t:List bK.dL):Bk:= .var [.ah (P8 l),.ah (.val (.int .i64 (ar:Nat))),.ah (.val (.bool ay)),.ah (.val (.int .i64 (h:Nat))),.ah (.val (.int .i64 (a:Nat))),.ah (bK.YJ t)]
theorem xp(l:List Ob)(ar:Nat)(ay:Bool)(h a:Nat)(t:List bK.dL):tZ l ar ay h a t≠.aR:=by intro x;cases x
theorem NB{f:Nat}{args:List CV}(ha:∀Y,args.map (CV.bg Y)=args){l:List Ob}{ar:Nat}{ay:Bool}{h a:Nat}{t:List bK.dL}{Q:CV->Nat->Nat->List bK.dL->Prop}(hr:∀r h a t,Q r h a t->∀Y,r.bg Y=r)(hc:ap prog f (.rv (.one (.ptr 0 0))::args) [tZ l ar ay h a t] (λr m=>∃h' a' t',m=[tZ l ar ay h' a' t']/\Q r h' a' t')){m:Mem}(id:Nat)(hb:cD m id=some (tZ l ar ay h a t)){K:CV->Mem->Prop}(hK:∀r h' a' t',Q r h' a' t'->K r (aW m id (tZ l ar ay h' a' t'))):ap prog f (.rv (.one (.ptr id 0))::args) m K:=by
 have hid:id<m.length:=by rw[aT]at hb;exact(JJ.1 hb).1
 refine bu [id] m.length rfl rfl rfl (by simp[eI,hid]) (args0:= .rv (.one (.ptr 0 0))::args) (by rw[aaJ,ha];rfl) (λi b' hi=>?_) hc (λr1 m1 rS=>?_)
 .cases i with
  |zero=>
   simp at hi;subst hi;refine .inr ⟨λh=>h,_,?_,.eq rfl (xp _ _ _ _ _ _)⟩
   rw[aT]at hb;exact hb
  |succ i=>simp at hi
 .obtain⟨h',a',t',rfl,hq⟩:=rS;refine⟨T5 _,?_⟩;rw[hr _ _ _ _ hq];show K r1 (cW m [id] [tZ l ar ay h' a' t']);rw[CW];exact hK _ _ _ _ hq
theorem JP{r:CV}{l:List Ob}{ar:Nat}{ay:Bool}{h a:Nat}{t:List bK.dL}{X:Mem}(hr:∀Y,r.bg Y=r):View 1 ⟨[r],tZ l ar ay h a t::X⟩ ⟨[r],[tZ l ar ay h a t]⟩:=
 View.of (X.length+1) [0] [] rfl rfl rfl rfl rfl (by simp[eI,Nat.blt]) (.eq (hr _) .nil) (.pt rfl rfl (.eq rfl (xp _ _ _ _ _ _)) (.nil _))
def upR(l:List Ob)(ar:Nat)(ay:Bool)(h a:Nat)(t:List bK.dL)(r:CV)(h' a':Nat)(t':List bK.dL):Prop:=
 h'=h/\t'=t/\((ay=true/\a=ar)/\r=aE false/\a'=a\/¬(ay=true/\a=ar)/\r=aE true/\a'=Bj l a)
theorem Qs(l:List Ob)(ok:nN l)(ar:Nat)(ay:Bool)(h a:Nat)(ha:a<l.length)(t:List bK.dL):body prog c132 [.rv (.one (.ptr 0 0))] [tZ l ar ay h a t] (λr m=>∃h' a' t',m=[tZ l ar ay h' a' t']/\upR l ar ay h a t r h' a' t'):=by
 have hg:=m6 ha;have hu:=ok.Nu ha;refine bs (λh1=>?_) (λh1=>?_)
 .cases ay with
  |true=>exact⟨_,_,_,rfl,rfl,rfl,.inl ⟨⟨rfl,om⟩,rfl,rfl⟩⟩
  |false=>
   refine af hg ?_;refine⟨trivial,?_⟩;rw[hu];exact⟨_,_,_,rfl,rfl,rfl,.inr ⟨aC,rfl,rfl⟩⟩
 .refine af hg ?_;refine⟨trivial,?_⟩;rw[hu];exact⟨_,_,_,rfl,rfl,rfl,.inr ⟨λh=>h1 (by rw[h.2]),rfl,rfl⟩⟩
theorem W8(l:List Ob)(ok:nN l)(ar:Nat)(ay:Bool)(h a:Nat)(ha:a<l.length)(t:List bK.dL){m:Mem}(id:Nat)(hb:cD m id=some (tZ l ar ay h a t)){K:CV->Mem->Prop}(Tm:(ay=true/\a=ar)->K (aE false) (aW m id (tZ l ar ay h a t)))(hK2:¬(ay=true/\a=ar)->K (aE true) (aW m id (tZ l ar ay h (Bj l a) t))):ap prog 132 [.rv (.one (.ptr id 0))] m K:=by
 refine NB (args:=[]) (λ_=>rfl) (Q:=upR l ar ay h a t) (λr h a t hq Y=>?_) (aZ func132 l132 (Qs l ok ar ay h a ha t)) id hb (λr h' a' t' hq=>?_)
 .rcases hq.2.2 with⟨_,rfl,_⟩|⟨_,rfl,_⟩<;>rfl
 .obtain⟨rfl,rfl,hq⟩:=hq;rcases hq with⟨h1,rfl,rfl⟩|⟨h1,rfl,rfl⟩
  .exact Tm h1
  .exact hK2 h1
theorem qU(t:bK.dL):(bK.cM t).1.length<=61:=by
 unfold bK.cM;split
 .simp
 .split
  .simp
  .split
   .show(bK.Bi t).length<=61;have h1:=acu bK.sx (bK.gP 47 t);have h2:=bK.xg 47 t;unfold bK.Bi;omega
   .simp
inductive Pn(p:List bK.dL×Bool×Int)(ay:Bool)(h a:Nat)(t:List bK.dL):CV->Nat->Nat->List bK.dL->Prop
 |loop (h' a':Nat) (t':List bK.dL) (h6:h=6):Pn p ay h a t (an .i64 13) h' a' t'
 |fC (h' a':Nat) (t':List bK.dL) (h6:h≠6) (he:p.2.2≠0):Pn p ay h a t (an .i64 p.2.2) h' a' t'
 |out (h' a':Nat) (t':List bK.dL) (h6:h≠6) (he:p.2.2=0) (hr:p.2.1=true) (hf:ay=true):Pn p ay h a t (an .i64 14) h' a' t'
 |ok (h6:h≠6) (he:p.2.2=0) (hr:¬(p.2.1=true/\ay=true)):Pn p ay h a t (an .i64 0) (h+1) (if p.2.1=true then 0 else a) (p.1++t)
theorem Pn.data{p:List bK.dL×Bool×Int}{ay:Bool}{h a:Nat}{t:List bK.dL}{r:CV}{h' a':Nat}{t':List bK.dL}(x:Pn p ay h a t r h' a' t')(Y:Nat->Nat):r.bg Y=r:=by cases x<;>rfl
def TV1(Q:CV->Mem->Prop)(r:CV)(m:Mem):Prop:=∃r' m',View 1 ⟨[r],m⟩ ⟨[r'],m'⟩/\Q r' m'
theorem Qt(a b:List bK.dL):aa (a.map bK.tD)++aa (b.map bK.tD)=aa ((a++b).map bK.tD):=by rw[aby,bK.da]
theorem W9{m:Mem}{Z:Nat->Prop}{id:Nat}{p:Option Nat}{X:List (List CC)}{ds:List (List Dt)}(hz:Z id)(hm:m[id]? =some (.row 1 X))(hX:X=aa ds):dR m Z p (.row id 1 0 none) (.sl 1 ds):=by
 subst hX;refine dR.row id 1 0 none (aa ds) ds hz hm (by simp[aa]) (λi cs es h1 h2=>?_) (λi cs es j c d h1 h2 h3 h4=>?_)
 .simp only[aa,Sf,h2,aax,aat]at h1;subst h1;simp
 .simp only[aa,Sf,h2,aax,aat]at h1;subst h1;rw[Sf,h4]at h3;cases h3;exact .ah _
theorem Xa{l:List Ob}{ar:Nat}{ay:Bool}{h a:Nat}{t parts:List bK.dL}{m:Mem}{Y:Nat->Nat}(hm:m[3]? =some (.row 1 ((([]:List (List CC))++aa (parts.map bK.tD))++aa (t.map bK.tD)))):
  mi Y m (λk=>bx [3] k=true) 0 (.var [.ah (P8 l),.ah (.val (.int .i64 (ar:Nat))),.ah (.val (.bool ay)),.ah (.val (.int .i64 (h:Nat))),.ah (.val (.int .i64 (a:Nat))),.row 3 1 0 none]) (tZ l ar ay h a (parts++t)):=
 fh.var (.cons (.bg (.ah _)) (.cons (.bg (.ah _)) (.cons (.bg (.ah _)) (.cons (.bg (.ah _)) (.cons (.bg (.ah _)) (.cons (.fE (W9 rfl hm (by rw[adC];exact Qt parts t))) .nil))))))
theorem JQ(l:List Ob)(ar:Nat)(ay:Bool)(h a:Nat)(hh:h<=6)(t:List bK.dL)(ht:t.length<=1000)(s:bK.dL):
  body prog c133 [.rv (.one (.ptr 0 0)),bK.vT s] [tZ l ar ay h a t] (TV1 λr m=>∃h' a' t',m=[tZ l ar ay h' a' t']/\Pn (bK.cM s) ay h a t r h' a' t'):=by
 refine bs (λh1=>?_) (λh1=>?_)
 .exact⟨_,_,JP (X:=[]) (λ_=>rfl),_,_,_,rfl,.loop _ _ _ om⟩
 have h6:h≠6:=λe=>h1 (by rw[e];rfl)
 refine bK.xh s ?_;have hp:=qU s;generalize bK.cM s=p at hp|-;obtain⟨parts,aj,er⟩:=p;have hp:parts.length<=61:=hp;have e1:IntKind.i64.wrap ((h:Int)+1)=((h+1:Nat):Int):=by
  rw[show(h:Int)+1=((h+1:Nat):Int) by omega,nY om]
 rw[e1];refine bt (λh2=>?_) (λh2=>?_)
 .exact⟨_,_,JP (h:=h+1) (X:=[]) (λ_=>rfl),_,_,_,rfl,.fC _ _ _ h6 h2⟩
 have h2:er=0:=by simpa using h2
 subst h2;cases aj with
 |true=>
  cases ay with
  |true=>exact⟨_,_,JP (h:=h+1) (X:=[]) (λ_=>rfl),_,_,_,rfl,.out _ _ _ h6 rfl rfl rfl⟩
  |false=>
   refine⟨⟨rfl,trivial⟩,?_⟩;refine⟨?_,?_⟩
   .show(0+(aa (parts.map bK.tD)).length)*16<=_;rw[bK.bh,Nr];omega
   refine⟨⟨rfl,trivial⟩,?_⟩;refine⟨?_,?_⟩
   .show((([]:List (List CC))++aa (parts.map bK.tD)).length+(aa (t.map bK.tD)).length)*16<=_;rw[aaL,bK.bh,bK.bh,Nr,Nr];show(0+parts.length+t.length)*16<=_;omega
   refine⟨trivial,?_⟩;refine⟨trivial,?_⟩;exact⟨_,_,View.o 4 [0] [3] (.eq rfl .nil) (.pt rfl rfl (Xa (t:=t) (parts:=parts) rfl) (.nil _)),_,_,_,rfl,.ok h6 rfl aC⟩
 |false=>
  refine⟨⟨rfl,trivial⟩,?_⟩;refine⟨?_,?_⟩
  .show(0+(aa (parts.map bK.tD)).length)*16<=_;rw[bK.bh,Nr];omega
  refine⟨⟨rfl,trivial⟩,?_⟩;refine⟨?_,?_⟩
  .show((([]:List (List CC))++aa (parts.map bK.tD)).length+(aa (t.map bK.tD)).length)*16<=_;rw[aaL,bK.bh,bK.bh,Nr,Nr];show(0+parts.length+t.length)*16<=_;omega
  refine⟨trivial,?_⟩;refine⟨trivial,?_⟩;exact⟨_,_,View.o 4 [0] [3] (.eq rfl .nil) (.pt rfl rfl (Xa (t:=t) (parts:=parts) rfl) (.nil _)),_,_,_,rfl,.ok h6 rfl aC⟩
theorem HW(l:List Ob)(ar:Nat)(ay:Bool)(h a:Nat)(hh:h<=6)(t:List bK.dL)(ht:t.length<=1000)(s:bK.dL){m:Mem}(id:Nat)(hb:cD m id=some (tZ l ar ay h a t)){K:CV->Mem->Prop}(hK:∀r h' a' t',Pn (bK.cM s) ay h a t r h' a' t'->K r (aW m id (tZ l ar ay h' a' t'))):ap prog 133 [.rv (.one (.ptr id 0)),bK.vT s] m K:=
 NB (args:=[bK.vT s]) (λ_=>rfl) (Q:=Pn (bK.cM s) ay h a t) (λr h a t hq Y=>hq.data Y)
  (bH (aZ func133 l133 (JQ l ar ay h a hh t ht s)) λr m1⟨r',m',hv,hq⟩=>⟨r',m',hv,hq⟩) id hb hK
def c107:LF:= ⟨118,[.cell true 3 4,.tmp 5,.tmp 6],(.seq (.ai [qu 4 (.alloc [qd 0,qd 0,(.ah (.val (.string ⟨#[]⟩)))]),qu 5 (.aI (qb false)),qu 6 (.aI (qi 0))]) (.seq (.ai [qm 10 0,qu 11 (.aO 10),qf 12 5 11,ql 13 12,qu 14 (.cr 1 13 (qi 0)),ql 15 14,qm 7 15]) (.seq (.ai [qm 16 0,qm 17 0,qu 18 (.aO 17),qf 19 5 18,ql 20 19,qu 21 (.nT 1 20 (some (qi 1)) none none),qu 22 (.aO 16),qf 23 5 22,qw (.store 1 23 21)]) (.seq (.seq (.bR [qm 24 0,qu 25 (.aO 24),qf 26 0 25,ql 27 26,qm 28 0,qu 29 (.aO 28),qf 30 4 29,ql 31 30,qu 32 (.cr 9 27 31),qf 33 0 32,ql 34 33,qu 35 (.aJ .neq 34 (qi 2))] [eh 12 0 .nil]) (.cond 35 (.seq (.ai [qu 36 (.build [qd 0,qd 0,(.ah (.val (.string ⟨#[]⟩)))] []),qw (.store 3 4 36),qu 5 (.aI (qb false)),qu 6 (.aI (qi 11))]) .ret) .skip)) (.seq (.seq (.ai [qm 37 7,qu 38 (.aJ .eql 37 (.c (.rv (.one (.ah (.val (.string ⟨#[46,46]⟩)))))))]) (.cond 38 (.seq (.seq (.ai [qm 39 0,qu 40 (qc 132 [39]),qu 41 (.un .not 40)]) (.cond 41 (.seq (.ai [qu 42 (.build [qd 0,qd 0,(.ah (.val (.string ⟨#[]⟩)))] []),qw (.store 3 4 42),qu 5 (.aI (qb false)),qu 6 (.aI (qi 14))]) .ret) .skip)) (.seq (.ai [qu 43 (.build [qd 0,qd 0,(.ah (.val (.string ⟨#[]⟩)))] []),qw (.store 3 4 43),qu 5 (.aI (qb false)),qu 6 (.aI (qi 0))]) .ret)) .skip)) (.seq (.bR [qm 44 0,qu 45 (.aO 44),qf 46 0 45,ql 47 46,qm 48 0,qu 49 (.aO 48),qf 50 4 49,ql 51 50,qm 52 7,qu 53 (qc 108 [47,51,52]),qm 8 53] [(eh 9 0 (.cons 9 (some []) (.cons 10 none .nil)))]) (.seq (.ai [qm 54 0,qu 55 (.aO 54),qf 56 5 55,ql 57 56,qu 58 (.len 1 57),qu 59 (.aJ .eql 58 (qi 0)),qm 9 59]) (.seq (.block 0 (.seq (.ai [qm 61 8,qu 62 (.aJ .lss 61 (qi 0)),qm 63 62,qg 64 (.aI 9) 63 true,qu 65 (.pick 63 64 (qb false)),qm 60 65]) (.cond 60 (.seq (.ai [qm 66 0,qu 67 (.aO 66),qf 68 4 67,ql 69 68,qm 70 7,qu 71 (.build [qd 0,qd 0,(.ah (.val (.string ⟨#[]⟩)))] [(0,1,(qi (-1))),(1,1,69),(2,1,70)]),qw (.store 3 4 71),qu 5 (.aI (qb true)),qu 6 (.aI (qi 0))]) .ret) (.seq (.ai [qm 73 8,qu 74 (.aJ .lss 73 (qi 0)),qm 72 74]) (.cond 72 (.seq (.ai [qu 75 (.build [qd 0,qd 0,(.ah (.val (.string ⟨#[]⟩)))] []),qw (.store 3 4 75),qu 5 (.aI (qb false)),qu 6 (.aI (qi 6))]) .ret) (.seq (.ai [qm 77 0,qu 78 (.aO 77),qf 79 0 78,ql 80 79,qm 81 8,qu 82 (.cr 9 80 81),qf 83 0 82,ql 84 83,qu 85 (.aJ .eql 84 (qi 3)),qm 86 85,qg 87 (.aI 9) 86 true,qg 88 (.un .not 87) 86 true,qg 89 (.aI 88) 86 true,qg 90 (.aI 1) 89 false,qg 91 (.pick 89 (qb true) 90) 86 true,qu 92 (.pick 86 91 (qb false)),qm 76 92]) (.cond 76 (.seq (.ai [qu 93 (.build [qd 0,qd 0,(.ah (.val (.string ⟨#[]⟩)))] []),qm 94 0,qm 95 0,qu 96 (.aO 95),qf 97 0 96,ql 98 97,qm 99 8,qu 100 (.cr 9 98 99),qf 101 3 100,ql 102 101,qu 103 (qc 133 [94,102]),qw (.store 3 4 93),qu 5 (.aI (qb false)),qm 6 103]) .ret) (.seq (.ai [qm 105 9,qm 104 105]) (.cond 104 (.seq (.ai [qm 106 8,qm 107 0,qu 108 (.aO 107),qf 109 4 108,ql 110 109,qm 111 7,qu 112 (.build [qd 0,qd 0,(.ah (.val (.string ⟨#[]⟩)))] [(0,1,106),(1,1,110),(2,1,111)]),qw (.store 3 4 112),qu 5 (.aI (qb true)),qu 6 (.aI (qi 0))]) .ret) .skip))))))))) (.seq (.ai [qm 113 0,qm 114 8,qu 115 (.aO 113),qf 116 4 115,qw (.store 1 116 114)]) (.seq (.ai [qu 117 (.build [qd 0,qd 0,(.ah (.val (.string ⟨#[]⟩)))] []),qw (.store 3 4 117),qu 5 (.aI (qb false)),qu 6 (.aI (qi 0))]) .ret))))))))))⟩
theorem l107:bw prog f107=some c107:=by kernel_rfl
def NC(l:List Ob)(ar:Nat)(ay follow:Bool):Nat->Nat->List bK.dL->Nat->R4
 |0=>λ_ _ _=>R4.no 13
 |n+1=>Qp l ay (B5 l ar ay follow n)
theorem TZ(l:List Ob)(ar:Nat)(ay follow:Bool)(n:Nat):B5 l ar ay follow n=HU l ar ay follow (NC l ar ay follow n):=by
 cases n<;>rfl
def U5(r:R4):List Dt:=[.val (.int .i64 r.bo),.val (.int .i64 r.cK),.val (.string (bK.cF r.name))]
def stV(r:R4)(ok:Bool):CV:= .bz [.agg ((U5 r).map .ah),.one (.ah (.val (.bool ok))),.one (.ah (.val (.int .i64 r.fC)))]
inductive Sg(l:List Ob)(ar:Nat)(ay follow:Bool)(h a:Nat)(s:bK.dL)(t:List bK.dL):CV->Nat->Nat->List bK.dL->Prop
 |done (r:R4) (ok:Bool) (h' a':Nat) (t':List bK.dL) (hd:ok=true\/r.fC≠0) (he:B5 l ar ay follow (6-h) (s::t) a=r):Sg l ar ay follow h a s t (stV r ok) h' a' t'
 |go (h' a':Nat) (t':List bK.dL) (he:B5 l ar ay follow (6-h) (s::t) a=B5 l ar ay follow (6-h') t' a') (ha:a'<l.length) (hm:h'=h/\t'=t\/h'=h+1/\h<6/\t'.length<=61+t.length):Sg l ar ay follow h a s t (stV (R4.no 0) false) h' a' t'
theorem Sg.data{l:List Ob}{ar:Nat}{ay follow:Bool}{h a:Nat}{s:bK.dL}{t:List bK.dL}{r:CV}{h' a':Nat}{t':List bK.dL}(x:Sg l ar ay follow h a s t r h' a' t')(Y:Nat->Nat):r.bg Y=r:=by cases x<;>rfl
theorem JR(t:List bK.dL):((t.map bK.tD).length:Int)=t.length:=by rw[Nr]
theorem t6(l:List Ob)(ok:nN l)(ar:Nat)(ay follow:Bool)(h a:Nat)(hh:h<=6)(ha:a<l.length)(s:bK.dL)(t:List bK.dL)(ht:t.length<=1000):
  body prog c107 [.rv (.one (.ptr 0 0)),aE follow] [tZ l ar ay h a (s::t)] (TV1 λr m=>∃h' a' t',m=[tZ l ar ay h' a' t']/\Sg l ar ay follow h a s t r h' a' t'):=by
 have hg:=m6 ha;have hw:=TZ l ar ay follow (6-h);have hS:∀r,HU l ar ay follow (NC l ar ay follow (6-h)) (s::t) a=r->B5 l ar ay follow (6-h) (s::t) a=r:=λr e=>by rw[hw];exact e
 refine cE (by rw[aac,aaU,aaU,Nr,aaj];exact⟨Nat.succ_le_succ (aan _),T5 _⟩) ?_
 rw[show List.drop 1 (List.take (List.map bK.tD (s::t)).length (List.map bK.tD (s::t)))=t.map bK.tD by rw[aaN];rfl]
 refine af hg ?_;refine bt (λh1=>?_) (λh1=>?_)
 .exact⟨_,_,JP (λ_=>rfl),_,_,_,rfl,.done (R4.no 11) false _ _ _ (.inr (by simp[R4.no])) (hS _ (by rw[HU,if_pos (by rw[tY ha];exact h1)]))⟩
 have h1:l[a].ag=2:=by simpa using h1
 have oL:¬(lI l a).ag≠2:=by rw[tY ha,h1];simp
 refine bK.lg (b:=[46,46]) (λh2=>?_) (λh2=>?_)
 .subst h2;refine W8 l ok ar ay h a ha t 0 rfl (λh3=>?_) (λh3=>?_)
  .exact⟨_,_,JP (λ_=>rfl),_,_,_,rfl,.done (R4.no 14) false _ _ _ (.inr (by simp[R4.no])) (hS _ (by rw[HU,if_neg oL,if_pos rfl,if_pos h3]))⟩
  .exact⟨_,_,JP (λ_=>rfl),_,_,_,rfl,.go h (Bj l a) t (hS _ (by rw[HU,if_neg oL,if_pos rfl,if_neg h3,hw])) (ok.TR a) (.inl ⟨rfl,rfl⟩)⟩
 refine NA l ok a ha h1 s ?_;refine⟨trivial,?_⟩;have hf:=ok.TS a s;have W4:my l a s<0->my l a s= -1:=λh=>by
  rcases iM (iP (lI l a)) (bK.cF s)with⟨e,he,_,h3⟩|⟨h3,_⟩
  .have:=(ok.dJ a).2.1 e he;rw[my,h3]at h;omega
  .exact h3
 have hW:∀r,(if my l a s<0 then(if t≠[]then R4.no 6 else⟨-1,a,s,0⟩)else if(lI l (my l a s).toNat).ag=3/\(follow=true\/t≠[])then NC l ar ay follow (6-h) a t (my l a s).toNat
  else if t=[]then⟨my l a s,a,s,0⟩else HU l ar ay follow (NC l ar ay follow (6-h)) t (my l a s).toNat)=r->B5 l ar ay follow (6-h) (s::t) a=r:=λr e=>hS r (by rw[HU,if_neg oL,if_neg h2];exact e)
 refine aN (λh3=>?_) (λh3=>?_)
 .refine bs (λh4=>?_) (λh4=>?_)
  .rw[JR]at h4;have h4:t=[]:=aai om;exact⟨_,_,JP (λ_=>rfl),_,_,_,rfl,.done ⟨-1,a,s,0⟩ true _ _ _ (.inl rfl) (hW _ (by rw[if_pos h3,if_neg (by simp[h4])]))⟩
  .rw[JR]at h4;have h4:t≠[]:=λe=>h4 (by rw[e];rfl)
   refine cE (decide_eq_true h3) ?_;exact⟨_,_,JP (λ_=>rfl),_,_,_,rfl,.done (R4.no 6) false _ _ _ (.inr (by simp[R4.no])) (hW _ (by rw[if_pos h3,if_pos h4]))⟩
 obtain⟨k,IW,hk⟩:=hf h3;rw[if_neg h3]at hW;refine rP (decide_eq_false h3) ?_;rw[IW,aae,tY hk]at hW;have T0:=m6 hk;have htg:l[k].target=bK.cF (Nt l k):=by obtain⟨tg,e⟩:=bK.Bg l[k].target;rw[Nt,tY hk,e];rfl
 rw[htg]at T0;rw[IW];have Xb:¬(l[k].ag=3/\(follow=true\/t≠[]))->∀r,(if t=[]then⟨(k:Int),a,s,0⟩else HU l ar ay follow (NC l ar ay follow (6-h)) t k)=r->B5 l ar ay follow (6-h) (s::t) a=r:=λhn r e=>hW r (by rw[if_neg hn];exact e)
 refine af T0 ?_;refine bs (λh6=>?_) (λh6=>?_)
 .have h6:l[k].ag=3:=h6;have Xc:(follow=true\/t≠[])->∀r h' a' t',Pn (bK.cM (Nt l k)) ay h a t r h' a' t'->∃e,r=an .i64 e/\Sg l ar ay follow h a s t (stV (R4.no e) false) h' a' t':=by
   intro VC;rw[if_pos ⟨h6,VC⟩]at hW;intro r h' a' t' hq;cases hq with
   |loop _ _ _ e6=>exact⟨13,rfl,.done (R4.no 13) false _ _ _ (.inr (by simp[R4.no])) (hW _ (by rw[e6];rfl))⟩
   |fC _ _ _ e6 he=>exact⟨_,rfl,.done (R4.no _) false _ _ _ (.inr he) (hW _ (by rw[show 6-h=(5-h)+1 by omega];show Qp _ _ _ _ _ _=_;rw[Qp,if_pos he]))⟩
   |out _ _ _ e6 he hr hf'=>exact⟨14,rfl,.done (R4.no 14) false _ _ _ (.inr (by simp[R4.no])) (hW _ (by rw[show 6-h=(5-h)+1 by omega];show Qp _ _ _ _ _ _=_;rw[Qp,if_neg (by simp[he]),if_pos ⟨hr,hf'⟩]))⟩
   |ok e6 he hr=>exact⟨0,rfl,.go _ _ _ (hW _ (by rw[show 6-h=(5-h)+1 by omega];show Qp _ _ _ _ _ _=_;rw[Qp,if_neg (by simp[he]),if_neg hr,show 6-(h+1)=5-h by omega])) (by split;exact ok.pos;exact ha) (.inr ⟨rfl,om,by rw[aaL];have:=qU (Nt l k);omega⟩)⟩
  refine aM (λh5=>?_) (λh5=>?_)
  .have h5:t≠[]:=λe=>by subst e;cases h5
   refine af T0 ?_;refine HW l ar ay h a hh t ht (Nt l k) 0 rfl λr h' a' t' hq=>?_
   obtain⟨e,rfl,Pl⟩:=Xc (.inr h5) _ _ _ _ hq;exact⟨_,_,JP (λ_=>rfl),_,_,_,rfl,Pl⟩
  .have h5:t=[]:=by
    cases t with
    |nil=>rfl
    |cons x r=>cases h5
   cases follow with
   |true=>
    refine af T0 ?_;refine HW l ar ay h a hh t ht (Nt l k) 0 rfl λr h' a' t' hq=>?_
    obtain⟨e,rfl,Pl⟩:=Xc (.inl rfl) _ _ _ _ hq;exact⟨_,_,JP (λ_=>rfl),_,_,_,rfl,Pl⟩
   |false=>
    have ib:=Xb (by rw[h5];simp)
    rw[if_pos h5]at ib;subst h5;exact⟨_,_,JP (λ_=>rfl),_,_,_,rfl,.done ⟨(k:Nat),a,s,0⟩ true _ _ _ (.inl rfl) (ib _ rfl)⟩
 .have h6:l[k].ag≠3:=h6;have ib:=Xb (λh=>h6 h.1)
  refine bs (λh7=>?_) (λh7=>?_)
  .rw[JR]at h7;have h7:t=[]:=aai om;rw[if_pos h7]at ib;exact⟨_,_,JP (λ_=>rfl),_,_,_,rfl,.done ⟨(k:Nat),a,s,0⟩ true _ _ _ (.inl rfl) (ib _ rfl)⟩
  .rw[JR]at h7;have h7:t≠[]:=λe=>h7 (by rw[e];rfl)
   rw[if_neg h7,<-hw]at ib;exact⟨_,_,JP (λ_=>rfl),_,_,_,rfl,.go h k t (ib _ rfl) hk (.inl ⟨rfl,rfl⟩)⟩
theorem Br(l:List Ob)(ok:nN l)(ar:Nat)(ay follow:Bool)(h a:Nat)(hh:h<=6)(ha:a<l.length)(s:bK.dL)(t:List bK.dL)(ht:t.length<=1000){m:Mem}(id:Nat)(hb:cD m id=some (tZ l ar ay h a (s::t))){K:CV->Mem->Prop}(hK:∀r h' a' t',Sg l ar ay follow h a s t r h' a' t'->K r (aW m id (tZ l ar ay h' a' t'))):ap prog 107 [.rv (.one (.ptr id 0)),aE follow] m K:=
 NB (args:=[aE follow]) (λ_=>rfl) (Q:=Sg l ar ay follow h a s t) (λr h a t hq Y=>hq.data Y)
  (bH (aZ func107 l107 (t6 l ok ar ay follow h a hh ha s t ht)) λr m1⟨r',m',hv,hq⟩=>⟨r',m',hv,hq⟩) id hb hK
def c67:LF:= ⟨102,[.cell true 3 10,.tmp 11],(.seq (.ai [qu 10 (.alloc [qd 0,qd 0,(.ah (.val (.string ⟨#[]⟩)))]),qu 11 (.aI (qi 0))]) (.seq (.seq (.ai [qm 19 1,qu 20 (.aJ .lss 19 (qi 0)),qm 21 20,qg 22 (.aI 1) 21 false,qg 23 (.aI 0) 21 false,qg 24 (.len 1 23) 21 false,qg 25 (.aJ .geq 22 24) 21 false,qu 26 (.pick 21 (qb true) 25),qm 27 26,qg 28 (.aI 0) 27 false,qg 29 (.aI 1) 27 false,qg 30 (.cr 9 28 29) 27 false,qg 31 (.bU 0 30) 27 false,qg 32 (.load false 1 31) 27 false,qg 33 (.aJ .eql 32 (qi 0)) 27 false,qu 34 (.pick 27 (qb true) 33)]) (.cond 34 (.seq (.ai [qu 35 (.build [qd 0,qd 0,(.ah (.val (.string ⟨#[]⟩)))] []),qw (.store 3 10 35),qu 11 (.aI (qi 6))]) .ret) .skip)) (.seq (.seq (.ai [qm 36 0,qm 37 1,qu 38 (.cr 9 36 37),qf 39 0 38,ql 40 39,qu 41 (.aJ .neq 40 (qi 2))]) (.cond 41 (.seq (.ai [qu 42 (.build [qd 0,qd 0,(.ah (.val (.string ⟨#[]⟩)))] []),qw (.store 3 10 42),qu 11 (.aI (qi 11))]) .ret) .skip)) (.seq (.ai [qm 44 2,qu 45 (qc 66 [44]),qm 43 45,qu 46 (.ext 43 0),qu 47 (.ext 43 1),qu 48 (.ext 43 2),qm 12 46,qm 13 47,qm 14 48]) (.seq (.seq (.ai [qm 49 14,qu 50 (.aJ .neq 49 (qi 0))]) (.cond 50 (.seq (.ai [qu 51 (.build [qd 0,qd 0,(.ah (.val (.string ⟨#[]⟩)))] []),qm 52 14,qw (.store 3 10 51),qm 11 52]) .ret) .skip)) (.seq (.ai [qm 53 0,qm 54 1,qm 55 3,qm 56 1,qm 57 12,qu 58 (.build [.aK,qd 0,(.ah (.val (.bool false))),qd 0,qd 0,.aK] [(0,1,53),(1,1,54),(2,1,55),(4,1,56),(5,1,57)]),qu 59 (.box 58),qm 15 59]) (.seq (.seq (.ai [qm 60 13]) (.cond 60 (.seq (.seq (.ai [qm 61 3]) (.cond 61 (.seq (.ai [qu 62 (.build [qd 0,qd 0,(.ah (.val (.string ⟨#[]⟩)))] []),qw (.store 3 10 62),qu 11 (.aI (qi 14))]) .ret) .skip)) (.ai [qm 63 15,qu 64 (.aO 63),qf 65 4 64,qw (.store 1 65 (qi 0))])) .skip)) (.cU (.seq (.block 0 (.loop (.seq (.seq (.ai [qm 66 15,qu 67 (.aO 66),qf 68 5 67,ql 69 68,qu 70 (.len 1 69),qu 71 (.aJ .gtr 70 (qi 0))]) (.cond 71 .skip (.exit 0))) (.block 1 (.seq (.ai [qm 73 15,qm 74 4,qu 75 (qc 107 [73,74]),qm 72 75,qu 76 (.ext 72 0),qu 77 (.ext 72 1),qu 78 (.ext 72 2),qu 16 (.alloc [qd 0,qd 0,(.ah (.val (.string ⟨#[]⟩)))]),qw (.store 3 16 76),qm 17 77,qm 18 78]) (.seq (.ai [qm 79 17,qm 80 79,qg 81 (.aI 18) 80 false,qg 82 (.aJ .neq 81 (qi 0)) 80 false,qu 83 (.pick 80 (qb true) 82)]) (.cond 83 (.seq (.ai [qL 84 3 16,qm 85 18,qw (.store 3 10 84),qm 11 85]) .ret) .skip))))))) (.seq (.bR [qm 86 15,qu 87 (.aO 86),qf 88 4 87,ql 89 88,qm 90 15,qu 91 (.aO 90),qf 92 0 91,ql 93 92,qm 94 15,qu 95 (.aO 94),qf 96 4 95,ql 97 96,qu 98 (.cr 9 93 97),qf 99 8 98,ql 100 99,qu 101 (.build [qd 0,qd 0,(.ah (.val (.string ⟨#[]⟩)))] [(0,1,89),(1,1,100)]),qw (.store 3 10 101),qu 11 (.aI (qi 0))] [(eh 16 0 (.cons 16 (some []) (.cons 17 none .nil)))]) .ret))))))))))⟩
theorem l67:bw prog f67=some c67.er:=by kernel_rfl
def U6(r:R4):CV:= .bz [.agg ((U5 r).map .ah),.one (.ah (.val (.int .i64 r.fC)))]
theorem Xd(r:R4):(U6 r).CK=true:=rfl
structure StP where
 h:Nat
 a:Nat
 t:List bK.dL
theorem Qu(l:List Ob)(ar:Nat)(ay follow:Bool)(n a:Nat):B5 l ar ay follow n [] a=⟨a,Bj l a,[],0⟩:=by
 cases n<;>rfl
def G9:LC:=qM (bL (bL (bL (bL (bL (bL (bL c67.code)))))))
def Xe:Bk:= .var ((U5 (R4.no 0)).map .ah)
theorem Dn(l:List Ob)(ok:nN l)(b:Nat)(ay follow:Bool)(a0:Nat)(U7:a0<l.length)(parts:List bK.dL)(hp:parts.length<=61):
  aw prog 0 G9 (oC prog c67.lP (λr m=>r=U6 (B5 l b ay follow 6 parts a0))) ⟨kz 102 [(0,AY l),(4,aE follow),(10,.rv (.one (.ptr 0 0))),(15,.rv (.one (.ptr 1 0)))],[Xe,tZ l b ay 0 a0 parts]⟩:=by
 refine ba (λa:StP=>a.h<=6/\a.a<l.length/\a.t.length<=61*(a.h+1)/\B5 l b ay follow (6-a.h) a.t a.a=B5 l b ay follow 6 parts a0) [0,4,10,15] (λ_=>[]) (λa=>[Xe,tZ l b ay a.h a.a a.t]) (λa=>(6-a.h)*1000+a.t.length) ⟨0,a0,parts⟩ ⟨aan _,U7,by simpa using hp,rfl⟩ ?_ (λa ha=>?_)
 .refine View.o1 2 [0,1] [] (.pt rfl rfl (.eq rfl (by intro x;cases x)) (.pt rfl rfl (.eq rfl (xp _ _ _ _ _ _)) (.nil _)))
 obtain⟨h,a,t⟩:=a;obtain⟨hh,ha,ht,he⟩:=ha;have hh:h<=6:=hh;have ha:a<l.length:=ha;have ht:t.length<=61*(h+1):=ht;have he:B5 l b ay follow (6-h) t a=B5 l b ay follow 6 parts a0:=he;refine aN (λh1=>?_) (λh1=>?_)
 .have h1:((t.map bK.tD).length:Int)>0:=h1;rw[JR]at h1;obtain⟨s,t',rfl⟩:∃s t',t=s::t':=by
   cases t with
   |nil=>simp at h1
   |cons s t'=>exact⟨s,t',rfl⟩
  have ht:t'.length+1<=61*(h+1):=by simpa using ht
  refine Br l ok b ay follow h a hh ha s t' om 1 rfl λr h' a' Xf hq=>?_
  cases hq with
  |done r okk h' a' Xf hd hr=>
   rw[<-he,hr];cases okk with
   |true=>exact rfl
   |false=>
    have hd:r.fC≠0:=by simpa using hd
    refine bt (λh2=>?_) (λh2=>?_)
    .exact rfl
    .exact absurd h2 hd
  |go h' a' Xf hr Si hm=>
   refine⟨⟨h',a',Xf⟩,⟨?_,Si,?_,hr.symm.trans he⟩,?_,View.o 3 [0,1] [] ?_ (.pt rfl rfl (.eq rfl (by intro x;cases x)) (.pt rfl rfl (.eq rfl (xp _ _ _ _ _ _)) (.nil _)))⟩
   .show h'<=6;omega
   .show Xf.length<=61*(h'+1);rcases hm with⟨rfl,rfl⟩|⟨rfl,h6,hl⟩
    .omega
    .omega
   .show(6-h')*1000+Xf.length<(6-h)*1000+(s::t').length;rw[aaj];rcases hm with⟨rfl,rfl⟩|⟨rfl,h6,hl⟩
    .omega
    .omega
   .repeat(first|exact .nil|refine .aF ?_|refine .eq rfl ?_)
 .have h1:¬((t.map bK.tD).length:Int)>0:=h1;rw[JR]at h1;have h1:t=[]:=aai om;subst h1;rw[Qu]at he;refine af (m6 ha) ?_;refine⟨trivial,?_⟩;rw[<-he,ok.Nu ha];exact rfl
theorem JS(l:List Ob)(ok:nN l)(ar:Int)(s:bK.dL)(ay follow:Bool):body prog c67 [AY l,an .i64 ar,bK.vT s,aE ay,aE follow] [] (λr m=>r=U6 (p9 l ar s ay follow)):=by
 have jX:oS l ar 0=false->p9 l ar s ay follow=R4.no 6:=λh=>by rw[p9,h];rfl
 refine aN (λh1=>?_) (λh1=>?_)
 .rw[jX (by rw[oS,decide_eq_false om];rfl)];rfl
 obtain⟨b,rfl⟩:∃b:Nat,ar=b:=⟨ar.toNat,om⟩;refine aN (λh2=>?_) (λh2=>?_)
 .have h2:(b:Int)>=((l.map Ob.enc).length:Int):=h2;rw[Nr]at h2;rw[jX (by rw[oS,decide_eq_false (p:=(b:Int)<l.length) om];simp)];rfl
 have h2:¬(b:Int)>=((l.map Ob.enc).length:Int):=h2;rw[Nr]at h2;have hb:b<l.length:=om;have hg:=m6 hb;refine af hg ?_;refine bs (λh3=>?_) (λh3=>?_)
 .have h3:l[b].ag=0:=h3;rw[jX (by unfold oS;rw[aae,vl hb];simp[h3])];rfl
 have h3:l[b].ag≠0:=h3;have hI:oS l b 0=true:=by unfold oS;rw[aae,vl hb];simp[h3,hb]
 have hL:∀r,(if l[b].ag≠2 then R4.no 11 else if(bK.cM s).2.2≠0 then R4.no (bK.cM s).2.2 else if(bK.cM s).2.1=true/\ay=true then R4.no 14
  else B5 l b ay follow 6 (bK.cM s).1 (if(bK.cM s).2.1=true then 0 else b))=r->p9 l b s ay follow=r:=λr e=>by
  rw[p9,if_pos hI,aae,tY hb];exact e
 refine af hg ?_;refine bt (λh4=>?_) (λh4=>?_)
 .rw[hL _ (if_pos h4)];rfl
 have h4:l[b].ag=2:=by simpa using h4
 rw[if_neg (by rw[h4];simp)]at hL
 refine bK.xh s ?_;have hp:=qU s;generalize bK.cM s=p at hp hL|-;obtain⟨parts,aj,er⟩:=p;have hp:parts.length<=61:=hp;refine bt (λh5=>?_) (λh5=>?_)
 .rw[hL _ (if_pos h5)];rfl
 have h5:er=0:=by simpa using h5
 rw[if_neg (by simp[h5])]at hL
 have view:∀a0:Nat,∀e,io (sg [0,1] 2) [Xe,tZ l b ay 0 a0 parts] (λk=>bx [] k=true) e (kz 102 [(0,AY l),(4,aE follow),(10,.rv (.one (.ptr 0 0))),(15,.rv (.one (.ptr 1 0)))])->
   View 0 ⟨e,[Xe,tZ l b ay 0 a0 parts]⟩ ⟨kz 102 [(0,AY l),(4,aE follow),(10,.rv (.one (.ptr 0 0))),(15,.rv (.one (.ptr 1 0)))],[Xe,tZ l b ay 0 a0 parts]⟩:=λa0 e he=>
  View.o 2 [0,1] [] he (.pt rfl rfl (.eq rfl (by intro x;cases x)) (.pt rfl rfl (.eq rfl (xp _ _ _ _ _ _)) (.nil _)))
 cases aj with
 |true=>
  cases ay with
  |true=>
   rw[hL _ (if_pos ⟨rfl,rfl⟩)];rfl
  |false=>
   rw[hL _ (by rw[if_neg aC,if_pos rfl])]
   refine⟨_,view 0 _ ?_,Dn l ok b false follow 0 ok.pos parts hp⟩;repeat(first|exact .nil|refine .aF ?_|refine .eq rfl ?_)
 |false=>
  rw[hL _ (by rw[if_neg aC,if_neg aC])]
  refine⟨_,view b _ ?_,Dn l ok b ay follow b hb parts hp⟩;repeat(first|exact .nil|refine .aF ?_|refine .eq rfl ?_)
theorem Qv(l:List Ob)(ok:nN l)(ar:Int)(s:bK.dL)(ay follow:Bool){m:Mem}{K:CV->Mem->Prop}(h:K (U6 (p9 l ar s ay follow)) m):ap prog 67 [AY l,an .i64 ar,bK.vT s,aE ay,aE follow] m K:=by
 refine be (K0:=λr _=>r=U6 (p9 l ar s ay follow)) (b8 func67 l67 (JS l ok ar s ay follow)) (by simp[AY,an,aE,bK.vT,eU,CV.dv,CC.dv]) λr m1 hr=>?_
 subst hr;exact⟨_,cL.self (Xd _),h⟩
theorem T1{es:List NE}(hs:Fg es){s:ByteArray}(hf:Bd es s=false)(n:Int):iL (s,n) es=es.take (qS es s)++(s,n)::es.drop (qS es s):=by
 obtain⟨h0,h1,h2⟩:=o6 hs s es.length 0 es.length om om om (λk e hk=>absurd hk (aaR k)) (λk e hk he=>by have:=(JJ.1 he).1;omega)
 have hI:JG es s es.length 0 es.length=qS es s:=rfl;rw[hI]at h0 h1 h2;have e1:∀e,e∈es.take (qS es s)->Fh e.1 s=false:=λe he=>by obtain⟨k,hk⟩:=X1 he;have gj:=(JJ.1 hk).1;rw[aav]at gj;rw[aaF,if_pos om]at hk;have h3:=h1 k e om hk;unfold Fh;unfold AW at h3;rw[h3];rfl
 have:=CX (x:=(s,n)) (a:=es.take (qS es s)) (b:=es.drop (qS es s)) e1;rw[acH]at this;rw[this];congr 1;cases hd:es.drop (qS es s)with
 |nil=>rfl
 |cons e r=>
  have lJ:es[qS es s]? =some e:=by
   have:(es.drop (qS es s))[0]? =some e:=by rw[hd];rfl
   rw[aaX]at this;simpa using this
  refine P7 ?_;have h3:=h2 (qS es s) e (T5 _) lJ;unfold Bd at hf;rw[lJ]at hf;have du:¬ld e.1 s=0:=by simpa using hf
  have du:e.1.toList≠s.toList:=λh=>du (xi.2 h)
  show Fh e.1 s=true;unfold Fh;unfold AW at h3;have h3:Op.bytesLess e.1.toList s.toList=false:=by simpa using h3
  rw[h3];simp[du]
theorem zH{es:List NE}(hs:Fg es)(s:ByteArray):(if Bd es s=true then(match es[qS es s]? with|some e=>e.2|none=>0)else -1)=fH es s:=uV hs (HV hs s) (iM es s)
def c65:LF:= ⟨20,[.tmp 2],(.seq (.ai [qu 1 (.box 0),qu 2 (.aI qe)]) (.seq (.ai [qu 3 (.aI qe)]) (.seq (.seq (.ai [qf 6 2 1,ql 7 6,qu 8 (.len 1 7),qu 9 (.aI (qi 0))]) (.block 0 (.loop (.seq (.ai [qu 10 (.aJ .lss 9 8)]) (.seq (.cond 10 .skip (.exit 0)) (.seq (.block 1 (.seq (.ai [qu 11 (.cr 2 7 9),qL 12 2 11,qu 5 (.alloc [(.ah (.val (.string ⟨#[]⟩))),qd 0]),qw (.store 2 5 12)]) (.ai [qm 13 3,qf 14 0 5,ql 15 14,qu 16 (.nw 1 [(.ah (.val (.string ⟨#[]⟩)))] 1 [(0,15)]),qu 17 (.ov 1 16 13 16),qm 3 17]))) (.ai [qu 18 (.aJ .add 9 (qi 1)),qm 9 18]))))))) (.seq (.ai [qm 19 3,qm 2 19]) .ret))))⟩
def c112:LF:= ⟨128,[.tmp 8,.tmp 9],(.seq (.ai [qu 8 (.aI qe),qu 9 (.aI (qi 0))]) (.seq (.block 0 (.seq (.ai [qm 14 1,qu 15 (.aJ .lss 14 (qi 0)),qm 16 15,qg 17 (.aI 1) 16 false,qg 18 (.aI 0) 16 false,qg 19 (.len 1 18) 16 false,qg 20 (.aJ .geq 17 19) 16 false,qu 21 (.pick 16 (qb true) 20),qm 22 21,qg 23 (.aI 0) 22 false,qg 24 (.aI 1) 22 false,qg 25 (.cr 9 23 24) 22 false,qg 26 (.bU 0 25) 22 false,qg 27 (.load false 1 26) 22 false,qg 28 (.aJ .eql 27 (qi 0)) 22 false,qu 29 (.pick 22 (qb true) 28),qm 30 29,qg 31 (.aI 3) 30 false,qg 32 (.aJ .lss 31 (qi 0)) 30 false,qu 33 (.pick 30 (qb true) 32),qm 34 33,qg 35 (.aI 3) 34 false,qg 36 (.aI 0) 34 false,qg 37 (.len 1 36) 34 false,qg 38 (.aJ .geq 35 37) 34 false,qu 39 (.pick 34 (qb true) 38),qm 40 39,qg 41 (.aI 0) 40 false,qg 42 (.aI 3) 40 false,qg 43 (.cr 9 41 42) 40 false,qg 44 (.bU 0 43) 40 false,qg 45 (.load false 1 44) 40 false,qg 46 (.aJ .eql 45 (qi 0)) 40 false,qu 47 (.pick 40 (qb true) 46),qm 13 47]) (.cond 13 (.seq (.ai [qu 8 (.aI qe),qu 9 (.aI (qi 6))]) .ret) (.seq (.ai [qm 49 0,qm 50 1,qu 51 (.cr 9 49 50),qf 52 0 51,ql 53 52,qu 54 (.aJ .neq 53 (qi 2)),qm 48 54]) (.cond 48 (.seq (.ai [qu 8 (.aI qe),qu 9 (.aI (qi 11))]) .ret) (.seq (.ai [qm 56 0,qm 57 1,qu 58 (.cr 9 56 57),qf 59 7 58,ql 60 59,qu 61 (.aJ .eql 60 (qi 0)),qm 55 61]) (.cond 55 (.seq (.ai [qu 8 (.aI qe),qu 9 (.aI (qi 6))]) .ret) (.seq (.ai [qm 63 2,qu 64 (qc 106 [63]),qu 65 (.un .not 64),qm 66 65,qg 67 (.aI 0) 66 false,qg 68 (.aI 1) 66 false,qg 69 (.aI 2) 66 false,qg 70 (qc 108 [67,68,69]) 66 false,qg 71 (.aJ .geq 70 (qi 0)) 66 false,qu 72 (.pick 66 (qb true) 71),qm 62 72]) (.cond 62 (.seq (.ai [qu 8 (.aI qe),qu 9 (.aI (qi 7))]) .ret) (.seq (.ai [qm 74 0,qm 75 1,qu 76 (.cr 9 74 75),qf 77 2 76,ql 78 77,qu 79 (.len 1 78),qu 80 (.aJ .geq 79 (qi 8)),qm 73 80]) (.cond 73 (.seq (.ai [qu 8 (.aI qe),qu 9 (.aI (qi 15))]) .ret) .skip))))))))))) (.seq (.ai [qm 81 0,qu 82 (qc 98 [81]),qm 10 82]) (.seq (.ai [qm 84 10,qm 85 1,qu 86 (.cr 9 84 85),qf 87 2 86,ql 88 87,qm 89 2,qu 90 (qc 134 [88,89,(.c (.rv (.one (.fn 139 []))))]),qm 83 90,qu 91 (.ext 83 0),qu 92 (.ext 83 1),qm 11 91,qm 12 92]) (.seq (.ai [qm 93 10,qm 94 1,qm 95 10,qm 96 1,qu 97 (.cr 9 95 96),qf 98 2 97,ql 99 98,qm 100 11,qm 101 2,qm 102 3,qu 103 (.build [(.ah (.val (.string ⟨#[]⟩))),qd 0] [(0,1,101),(1,1,102)]),qu 104 (.nw 2 [(.ah (.val (.string ⟨#[]⟩))),qd 0] 1 [(0,103)]),qu 105 (qc 140 [99,100,104]),qu 106 (.cr 9 93 94),qf 107 2 106,qw (.store 1 107 105)]) (.seq (.ai [qm 108 10,qm 109 3,qu 110 (.cr 9 108 109),qf 111 7 110,ql 112 111,qu 113 (.aJ .add 112 (qi 1)),qu 114 (.cr 9 108 109),qf 115 7 114,qw (.store 1 115 113)]) (.seq (.seq (.ai [qm 116 10,qm 117 3,qu 118 (.cr 9 116 117),qf 119 0 118,ql 120 119,qu 121 (.aJ .eql 120 (qi 2))]) (.cond 121 (.ai [qm 122 10,qm 123 3,qm 124 1,qu 125 (.cr 9 122 123),qf 126 8 125,qw (.store 1 126 124)]) .skip)) (.cU (.seq (.ai [qm 127 10,qm 8 127,qu 9 (.aI (qi 0))]) .ret)))))))))⟩
def c140:LF:= ⟨95,[.tmp 6],(.seq (.ai [qu 6 (.aI qe)]) (.seq (.ai [qm 10 0,qm 11 1,qu 12 (.nT 2 10 (some 11) none none)]) (.seq (.ai [qm 13 2,qu 14 (.len 1 13),qm 7 14]) (.seq (.seq (.ai [qm 15 7,qu 16 (.aJ .eql 15 (qi 0))]) (.cond 16 (.seq (.ai [qm 17 0,qm 6 17]) .ret) .skip)) (.seq (.ai [qm 18 0,qu 19 (.len 1 18),qm 8 19]) (.seq (.seq (.ai [qm 20 1,qm 21 8,qu 22 (.aJ .eql 20 21)]) (.cond 22 (.seq (.ai [qm 23 0,qm 24 2,qu 25 (.ov 2 24 23 24),qm 6 25]) .ret) .skip)) (.seq (.seq (.ai [qm 26 8,qm 27 7,qu 28 (.aJ .add 26 27),qm 29 0,qu 30 (.jU true []),qu 31 (.aJ .gtr 28 30)]) (.cond 31 (.seq (.ai [qm 32 0,qm 33 1,qu 34 (.nT 2 32 none (some 33) none),qm 35 8,qm 36 7,qu 37 (.aJ .add 35 36),qm 38 1,qu 39 (.aJ .sub 37 38),qu 40 (.jU true []),qm 9 40]) (.seq (.ai [qm 41 9,qm 42 1,qu 43 (.nT 2 41 (some 42) none none),qm 44 2,qu 45 (.copy 2 43 44)]) (.seq (.bR [qm 46 9,qm 47 1,qm 48 7,qu 49 (.aJ .add 47 48),qu 50 (.nT 2 46 (some 49) none none),qm 51 0,qm 52 1,qu 53 (.nT 2 51 (some 52) none none),qu 54 (.copy 2 50 53)] [(eh 8 0 (.cons 8 (some []) .nil))]) (.seq (.ai [qm 55 9,qm 6 55]) .ret)))) .skip)) (.seq (.ai [qm 56 0,qm 57 8,qm 58 7,qu 59 (.aJ .add 57 58),qu 60 (.nT 2 56 none (some 59) none),qm 0 60]) (.seq (.seq (.ai [qm 61 2,qm 62 0,qm 63 1,qm 64 7,qu 65 (.aJ .add 63 64),qu 66 (.nT 2 62 (some 65) none none),qu 67 (qc 151 [61,66]),qu 68 (.un .not 67)]) (.cond 68 (.seq (.bR [qm 69 0,qm 70 1,qm 71 7,qu 72 (.aJ .add 70 71),qu 73 (.nT 2 69 (some 72) none none),qm 74 0,qm 75 1,qu 76 (.nT 2 74 (some 75) none none),qu 77 (.copy 2 73 76)] [(eh 8 0 (.cons 8 (some []) .nil))]) (.seq (.ai [qm 78 0,qm 79 1,qu 80 (.nT 2 78 (some 79) none none),qm 81 2,qu 82 (.copy 2 80 81)]) (.seq (.ai [qm 83 0,qm 6 83]) .ret))) .skip)) (.seq (.ai [qm 84 0,qm 85 8,qu 86 (.nT 2 84 (some 85) none none),qm 87 2,qu 88 (.copy 2 86 87)]) (.seq (.ai [qm 89 0,qm 90 1,qu 91 (.nT 2 89 (some 90) none none),qm 92 7,qu 93 (qc 152 [91,92])]) (.seq (.ai [qm 94 0,qm 6 94]) .ret))))))))))))⟩
theorem l65:bw prog f65=some c65:=by kernel_rfl
theorem l140:bw prog f140=some c140:=by kernel_rfl
theorem l112:bw prog f112=some c112.er:=by kernel_rfl
def YK(e:ByteArray×Int):List Dt:=[.val (.string e.1)]
theorem FU(o:Obj)(es:List (ByteArray×Int))(he:o.ak=es.map cY)(hl:es.length<=4194304):body prog c65 [o.cv] [] (λr m=>cL m r (rY 1 (es.map YK))):=by
 obtain⟨ag,data,ak,target,bq,aq,bb,am,up⟩:=o;have he:ak=es.map cY:=he;subst he;refine ba (λk=>k<=es.length) [7,8] (λk=>[(9,an .i64 (k:Nat)),(3,.rv (.one (.row 0 1 0 none)))]) (λk=>[.row 1 (aa ((es.take k).map YK))]) (λk=>es.length-k) 0 (aan _) ?_ (λk hk=>?_)
 .refine View.trans (View.aK 3 1 1 rfl rfl rfl) (View.o1 2 [1] [] ?_)
  .exact .au
 have hk:k<=es.length:=hk;refine aN (λh=>?_) (λh=>?_)
 .have aD:k<es.length:=by have h:(k:Int)<((es.map cY).length:Int):=h;rw[Nr]at h;omega
  refine af (o5 aD) ?_;refine⟨by simp[bV,aa];omega,?_⟩
  refine⟨k+1,aD,(show es.length-(k+1)<es.length-k by omega),View.o2 4 [3] [] ?_⟩
  .refine .pt rfl rfl (.bI ?_) (.nil _);rw[p5 (vl aD),aby,da];rfl
 .have AZ:k=es.length:=by have h:¬(k:Int)<((es.map cY).length:Int):=h;rw[Nr]at h;omega
  subst AZ;rw[aaN];exact .rv (.one (eV.eW rfl 0 none))
theorem ND(o:Obj)(es:List (ByteArray×Int))(he:o.ak=es.map cY)(hl:es.length<=4194304){m:Mem}{K:CV->Mem->Prop}(h:K (rY 1 (es.map YK)) m):ap prog 65 [o.cv] m K:=
 be (aZ func65 l65 (FU o es he hl)) (by simp[Obj.cv,Obj.enc,CV.dv,CC.dv,RV.dv]) λr m1 hf=>⟨_,hf,h⟩
theorem NF(S:List (List Dt))(e:List Dt)(hl:S.length<=4194304):body prog c140 [.rv (.one (.row 0 2 0 none)),an .i64 (S.length:Nat),.rv (.one (.row 1 2 0 none))] [.row 2 (aa S),.row 2 (aa [e])]
  (λr m=>r= .rv (.one (.row 2 2 0 none))/\m=[.aR,.aR,.row 2 (aa (S++ [e]))]):=by
 have hlen:lenOf (aa S).length 0 none=S.length:=dN S;refine cE (by show(Nat.ble S.length (lenOf (aa S).length 0 none)&&Nat.ble (lenOf (aa S).length 0 none) ((aa S).length-0))=true;rw[hlen,dN];simp[aaU]) ?_
 refine bs (λh=>?_) (λh=>?_)
 .refine⟨by simp[bV,aa];omega,rfl,?_⟩
  show [Bk.aR,.aR,.row 2 (bV (aa S) 0 none++bV (aa [e]) 0 none)]=_;simp[bV,aa]
 .exfalso;apply h;show((S.length:Nat):Int)=((lenOf (aa S).length 0 none:Nat):Int);rw[hlen]
theorem T2(S:List (List Dt))(e:List Dt)(hl:S.length<=4194304){m:Mem}{K:CV->Mem->Prop}(a b:Nat)(Ek:fy [a,b]=true)(aD:eI m.length [a,b]=true)(ha:cD m a=some (.row 2 (aa S)))(hb:cD m b=some (.row 2 (aa [e])))(h:K (.rv (.one (.row m.length 2 0 none))) (cW m [a,b] [.aR,.aR,.row 2 (aa (S++ [e]))])):ap prog 140 [.rv (.one (.row a 2 0 none)),an .i64 (S.length:Nat),.rv (.one (.row b 2 0 none))] m K:=by
 refine bu [a,b] m.length rfl rfl Ek aD (args0:=[.rv (.one (.row 0 2 0 none)),an .i64 (S.length:Nat),.rv (.one (.row 1 2 0 none))]) rfl (m0:=[.row 2 (aa S),.row 2 (aa [e])]) (λi b' hi=>?_) (aZ func140 l140 (NF S e hl)) (λr1 m1 hr=>?_)
 .match i,hi with
  |0,hi=>cases hi;exact .inr ⟨λh=>h,_,by rw[aT]at ha;exact ha,.bI rfl⟩
  |1,hi=>cases hi;exact .inr ⟨λh=>h,_,by rw[aT]at hb;exact hb,.bI rfl⟩
  |n+2,hi=>simp at hi
 .obtain⟨rfl,rfl⟩:=hr;refine⟨aC,?_⟩;show K (.rv (.one (.row (m.length+(2-2)) 2 0 none))) (cW m [a,b] [.aR,.aR,.row 2 ((aa (S++ [e])).map (λcs=>cs.map (CC.bg (sg [a,b] m.length))))])
  rw[ij];exact h
def aaP:LC:=unW (m9 (m9 (m9 (m9 (m9 (m9 (m9 c112.code)))))))
end Go.Proofs.YtodckkkbiidffaaGreatDoor
namespace Go.Proofs.YtodckkkbiidffaaGreatDoor
open Proofs.Tryz
open Go.AM Go.ChangeShapes Go.WideShapes Go.ChangeAt Go.RowKit
open Go.Shelf Go.Lib
theorem kK{P:Program}(w:World)(dT sT ty elem:TypeId)(b o dLen dCap:Nat)(a:Addr)(sLen sCap:Nat)(cs:List Value)(hu:P.underlying dT=some (.slice elem))(hs:(P.info? elem).map (·.size)=some 2)(hn:Nat.min sLen dLen*2=cs.length)(hsrc:∀j v,cs[j]? =some v->w.cell? (a.add j)=some v)(hc:∀j,j<cs.length->(w.cell? ⟨b,o+j,none⟩).isSome=true)(hf:∀j,j<cs.length->w.frozen? ⟨b,o+j,none⟩=false)(h1:∀v∈cs,v.oneCell'=true):
  (Builtin.copy_ #[dT,sT] ty #[.slice (some ⟨b,o,none⟩) dLen dCap,.slice (some a) sLen sCap]).run P w= .ok (goInt (Nat.min sLen dLen)) (w.setCells b o cs):=by
 have hl:=run_loadCells_list (P:=P) w a cs hsrc;have hst:=run_storeCells_cells (P:=P) b o cs 0 w (by simpa using hc) (by simpa using hf) h1
 cases hq:P.info? elem with
 |none=>simp[hq]at hs
 |some i=>
  have hi:i.size=2:=by simpa[hq]using hs
  simp[Builtin.copy_,run_underlying hu,Builtin.lenOf,Builtin.firstCells,sizeOf,typeInfo,hq,hi,hn,hl,hst]
open Go.Shelf Go.Lib in
theorem Bs(b off n c i vb voff vc:Nat)(cs vs:List Value)(w:World)(hi:i<n)(hroom:n+1<=c)(hc63:c<=9223372036854775807)(hvb:vb≠b)(hcl:cs.length=n*2)(hvl:vs.length=2)(hcs:∀j v,cs[j]? =some v->w.cell? ⟨b,off+j,none⟩=some v)(hsp:∀j,j<(n+1)*2->(w.cell? ⟨b,off+j,none⟩).isSome=true)(hfz:∀j,j<(n+1)*2->w.frozen? ⟨b,off+j,none⟩=false)(hvs:∀j v,vs[j]? =some v->w.cell? ⟨vb,voff+j,none⟩=some v)(h1c:∀v∈cs,v.oneCell'=true)(h1v:∀v∈vs,v.oneCell'=true)(tA tB:TypeId)(kA kB:Nat)(hsa:w.shape? vb=some (tA,kA))(hsb:w.shape? b=some (tB,kB))(hkB:kB≠0)(hfa:w.frozen? ⟨vb,voff,none⟩=false)(hfe:w.frozen? ⟨vb,kA,none⟩=false):
  Calls prog 140 #[.slice (some ⟨b,off,none⟩) n c,.int .i64 i,.slice (some ⟨vb,voff,none⟩) 1 vc] w λe w'=>
   e= .returned (.slice (some ⟨b,off,none⟩) (n+1) c)/\w'=(w.drew.setCells b (off+(i+1)*2) (cs.drop (i*2))).setCells b (off+i*2) vs:=by
 have hz2:¬((i:Int)=(n:Int)):=om;have hov:∀lb cb,(callFunc 151 #[.slice (some ⟨vb,voff,none⟩) 1 vc,.slice (some ⟨b,off+(i+1)*2,none⟩) lb cb]).run prog w= .ok (.value (.bool false)) w:=λlb cb=>by
  rw[run_callFunc_extern func151 (by kernel_rfl) (by kernel_rfl) (by kernel_rfl) (e:=Extern.SlicesOverlaps.overlaps #[84,84] #[4]) (by kernel_rfl),
   Lib.run_overlaps_apart w 84 4 206 underlying84 2 (λw=>by kernel_rfl) ⟨vb,voff,none⟩ ⟨b,off+(i+1)*2,none⟩ 1 vc lb cb hvb tA tB kA kB hsa hsb hkB hfa hfe]
  rfl
 have hsz:(prog.info? 206).map (·.size)=some 2:=by kernel_rfl
 have hdl:(cs.drop (i*2)).length=(n-i)*2:=by rw[abB,hcl,adD]
 have hw1:IntKind.i64.wrap ((i:Int)+1)=(i:Int)+1:=by rw[IntKind.wrap_i64];omega
 have hw2:IntKind.i64.wrap ((n:Int)+1)=(n:Int)+1:=by rw[IntKind.wrap_i64];omega
 have hb1:(0:Int)<=(i:Int)+1:=om;have hin:i<=n:=om;have htn:((i:Int)+1).toNat=i+1:=om;have htn2:((n:Int)+1).toNat=n+1:=om;have hb2:¬(c=i+1):=om;have hb3:(i:Int)<=(n:Int)+1:=om;have hb4:¬(c=i):=om;have hcp1:∀ty dc sc,(Builtin.copy_ #[84,84] ty #[.slice (some ⟨b,off+(i+1)*2,none⟩) (n-i) dc,.slice (some ⟨b,off+i*2,none⟩) (n+1-i) sc]).run prog w.drew= .ok (goInt ((n-i:Nat):Int)) (w.drew.setCells b (off+(i+1)*2) (cs.drop (i*2))):=λty dc sc=>by
  have hm:Nat.min (n+1-i) (n-i)=n-i:=by simp only[adH];split<;>omega
  have:=kK (P:=prog) w.drew 84 84 ty 206 b (off+(i+1)*2) (n-i) dc ⟨b,off+i*2,none⟩ (n+1-i) sc (cs.drop (i*2)) underlying84 hsz (by rw[hm,hdl])
   (λj v hj=>by rw[Addr.add_lit,aaW];exact hcs (i*2+j) v (by rwa [aaX]at hj))
   (λj hj=>by rw[aaW];exact hsp _ (by rw[hdl]at hj;omega)) (λj hj=>by rw[aaW];exact hfz _ (by rw[hdl]at hj;omega)) (λv hv=>h1c v (aci hv))
  rwa [hm]at this
 obtain⟨W1,hW1⟩:∃W1,W1=w.drew.setCells b (off+(i+1)*2) (cs.drop (i*2)):=⟨_,rfl⟩;have hsp1:∀k,k<(n+1)*2->(W1.cell? ⟨b,off+k,none⟩).isSome=true:=λk hk=>by rw[hW1];exact isSome_setCells b _ _ _ (λj hj=>by rw[aaW];exact hsp _ (by rw[hdl]at hj;omega)) _ (hsp k hk)
 have hcp2:∀(W:World),(∀x,W.cell? x=W1.cell? x)->(∀x,W.frozen? x=W1.frozen? x)->∀ty dc,(Builtin.copy_ #[84,84] ty #[.slice (some ⟨b,off+i*2,none⟩) (n+1-i) dc,.slice (some ⟨vb,voff,none⟩) 1 vc]).run prog W= .ok (goInt 1) (W.setCells b (off+i*2) vs):=λW hWc hWf ty dc=>by
  have hm:Nat.min 1 (n+1-i)=1:=by simp only[adH];split<;>omega
  have:=kK (P:=prog) W 84 84 ty 206 b (off+i*2) (n+1-i) dc ⟨vb,voff,none⟩ 1 vc vs underlying84 hsz (by rw[hm,hvl])
   (λj v hj=>by
    rw[Addr.add_lit,hWc,hW1,World.cell?_setCells_out b _ _ _ _ (λh _=>absurd h hvb)]
    exact hvs j v hj)
   (λj hj=>by rw[hWc,aaW];exact hsp1 _ om) (λj hj=>by rw[hWf,hW1,World.frozen?_setCells,aaW];exact hfz _ om) h1v
  rwa [hm]at this
 subst hW1
 go_enter func140,ntmps140
 go_wp2_with (simp only[hov])
 have mixed:prog.follows .mixedOrders=true:=by kernel_rfl
 go_region_law_o (refine step_copy_runI rfl _ _ 84 84 rfl _ _ (by simp[Act.eval,Act.put]) (by simp[Act.eval,Act.put]) (hcp1 _ _ _) ?_)
 go_wp2_with (at_builtin;refine wpList_copy_runI _ rfl _ _ 84 84 rfl _ _ rfl rfl (hcp2 _ (λ_=>rfl) (λ_=>rfl) _ _) ?_)
 go_ret
 exact⟨rfl,rfl⟩
def vm:Value:= .agg #[.string ⟨#[]⟩,.int .i64 0]
open Go.Shelf Go.Lib in
theorem Dp(b off n c i vb voff vc:Nat)(cs vs:List Value)(w:World)(hi:i<n)(hnc:n<=c)(hroom:c<n+1)(hbig:(n+1)*24<=140737488355328)(hcl:cs.length=n*2)(hvl:vs.length=2)(hcs:∀j v,cs[j]? =some v->w.cell? ⟨b,off+j,none⟩=some v)(hvs:∀j v,vs[j]? =some v->w.cell? ⟨vb,voff+j,none⟩=some v)(h1c:∀v∈cs,v.oneCell'=true)(h1v:∀v∈vs,v.oneCell'=true):
  Calls prog 140 #[.slice (some ⟨b,off,none⟩) n c,.int .i64 i,.slice (some ⟨vb,voff,none⟩) 1 vc] w λe w'=>
   e= .returned (.slice (some ⟨w.heap.size,0,none⟩) (n+1) (grownCap w (n+1) c 206))/\
   w'=(((w.alloc (.cells ((cs.take (i*2)).toArray++Builtin.zeroCells vm.cells (n+1-i)++Builtin.zeroCells vm.cells (grownCap w (n+1) c 206-(n+1))) 206)).drew.setCells w.heap.size (i*2) vs).drew).setCells w.heap.size ((i+1)*2) (cs.drop (i*2)):=by
 obtain⟨i0,hi0,hz0,hzs,hzb⟩:∃i0,prog.info? 206=some i0/\i0.zero=some vm/\i0.size=2/\i0.bytes=24:=by
  have h9:(prog.info? 206).map (λi=>(i.zero,i.size,i.bytes))=some (some vm,2,24):=by kernel_rfl
  cases hi0:prog.info? 206 with
  |none=>rw[hi0]at h9;cases h9
  |some i0=>
   rw[hi0]at h9;simp only[aax,aat,acM]at h9;exact⟨i0,rfl,h9.1,h9.2.1,h9.2.2⟩
 have hz2:¬((i:Int)=(n:Int)):=om;have hz3:(c:Int)<(n:Int)+1:=om;have hsz:(prog.info? 206).map (·.size)=some 2:=by rw[hi0];simp[hzs]
 have hbw:b<w.heap.size:=block_lt_of_cell (hcs 0 _ (vl om));have hvw:vb<w.heap.size:=block_lt_of_cell (hvs 0 _ (vl om));have hwn:IntKind.i64.wrap ((n:Int)+1)=(n:Int)+1:=by rw[IntKind.wrap_i64];omega
 have hwm:IntKind.i64.wrap ((n:Int)+1-(i:Int))=(n:Int)+1-(i:Int):=by rw[IntKind.wrap_i64];omega
 have hkk:(n:Int)+1-(i:Int)=((n+1-i:Nat):Int):=om;have hik:i+(n+1-i)=n+1:=om;have hold:(Builtin.firstCells i0.size i (.slice (some ⟨b,off,none⟩) i c)).run prog w.drew= .ok (cs.take (i*2)).toArray w.drew:=by
  rw[hzs];exact run_firstCells_some w.drew 2 i ⟨b,off,none⟩ i c (cs.take (i*2)) (by rw[aav];omega) (λj v hj=>by
   rw[Addr.add_lit];rw[aaF]at hj;split at hj
   .exact hcs j v hj
   .cases hj)
 have hrz:∀ty,(Builtin.append_ #[84,3] ty #[.slice (some ⟨b,off,none⟩) i c,.int .i64 ((n:Int)+1-(i:Int))]).run prog w=
   .ok (.slice (some ⟨w.heap.size,0,none⟩) (n+1) (grownCap w (n+1) c 206)) (w.drew.alloc (.cells ((cs.take (i*2)).toArray++Builtin.zeroCells vm.cells (n+1-i)++Builtin.zeroCells vm.cells (grownCap w (n+1) c 206-(n+1))) 206)):=λty=>by
  have h:=Lib.run_append_grow_zeros (P:=prog) w 84 3 ty 206 i0 _ .i64 .i64 underlying84 underlying3 hi0 hz0 (some ⟨b,off,none⟩) i c (cs.take (i*2)) hold (n+1-i) om om om om (by rw[hzb];omega) (by rw[hzb,hik];exact growslice_fits hroom hbig)
  rw[hik]at h;rw[hkk];exact h
 obtain⟨G,hG⟩:∃G,G=grownCap w (n+1) c 206:=⟨_,rfl⟩;obtain⟨ROW,hROW⟩:∃ROW:Array Value,ROW=(cs.take (i*2)).toArray++Builtin.zeroCells vm.cells (n+1-i)++Builtin.zeroCells vm.cells (G-(n+1)):=⟨_,rfl⟩;rw[<-hG]at hrz|-;rw[<-hROW]at hrz|-;have hRl:(n+1)*2<=ROW.size:=by rw[hROW];simp[Builtin.zeroCells,Value.cells,vm];omega
 obtain⟨W1,hW1⟩:∃W1,W1=w.drew.alloc (.cells ROW 206):=⟨_,rfl⟩;rw[<-hW1]at hrz;have hN:∀j,j<(n+1)*2->(W1.cell? ⟨w.heap.size,j,none⟩).isSome=true:=λj hj=>by rw[hW1,World.cell?_alloc_at (w:=w.drew) ROW _ w.heap.size j rfl,abV om];rfl
 have hNf:∀j,W1.frozen? ⟨w.heap.size,j,none⟩=false:=λj=>by rw[hW1];exact World.frozen?_alloc_at (w:=w.drew) ROW _ w.heap.size j rfl
 have hOb:∀j v,w.cell? ⟨b,j,none⟩=some v->W1.cell? ⟨b,j,none⟩=some v:=λj v h=>by rw[hW1,World.cell?_alloc_past (w:=w.drew) _ b j hbw];exact h
 have hOv:∀j v,w.cell? ⟨vb,j,none⟩=some v->W1.cell? ⟨vb,j,none⟩=some v:=λj v h=>by rw[hW1,World.cell?_alloc_past (w:=w.drew) _ vb j hvw];exact h
 have hcpA:∀(W:World),(∀x,W.cell? x=W1.cell? x)->(∀x,W.frozen? x=W1.frozen? x)->∀ty dc,(Builtin.copy_ #[84,84] ty #[.slice (some ⟨w.heap.size,i*2,none⟩) (n+1-i) dc,.slice (some ⟨vb,voff,none⟩) 1 vc]).run prog W= .ok (goInt 1) (W.setCells w.heap.size (i*2) vs):=λW hWc hWf ty dc=>by
  have hm:Nat.min 1 (n+1-i)=1:=by simp only[adH];split<;>omega
  have:=kK (P:=prog) W 84 84 ty 206 w.heap.size (i*2) (n+1-i) dc ⟨vb,voff,none⟩ 1 vc vs underlying84 hsz (by rw[hm,hvl])
   (λj v hj=>by rw[Addr.add_lit,hWc];exact hOv _ v (hvs j v hj))
   (λj hj=>by rw[hWc];exact hN _ om) (λj hj=>by rw[hWf];exact hNf _) h1v
  rwa [hm]at this
 have hGn:n+1<=G:=by rw[hG];exact grownCap_ge w _ _ _
 have hG63:G<=9223372036854775807:=by
  have:=grownCap_le_maxLen w (n+1) c 206 (by unfold maxLen;omega)
  rw[<-hG]at this;unfold maxLen at this;omega
 have hGi:¬(G=i):=om;have hGim:¬(G=i+1):=om;have hci:¬(c=i):=om;have hbN:b≠w.heap.size:=om;have hdl:(cs.drop (i*2)).length=(n-i)*2:=by rw[abB,hcl,adD]
 have hcpB:∀(W:World),(∀x,W.cell? x=(W1.setCells w.heap.size (i*2) vs).cell? x)->(∀x,W.frozen? x=(W1.setCells w.heap.size (i*2) vs).frozen? x)->∀ty dc sc,(Builtin.copy_ #[84,84] ty #[.slice (some ⟨w.heap.size,(i+1)*2,none⟩) (n-i) dc,.slice (some ⟨b,off+i*2,none⟩) (n-i) sc]).run prog W= .ok (goInt ((n-i:Nat):Int)) (W.setCells w.heap.size ((i+1)*2) (cs.drop (i*2))):=λW hWc hWf ty dc sc=>by
  have hm:Nat.min (n-i) (n-i)=n-i:=by simp[adH]
  have:=kK (P:=prog) W 84 84 ty 206 w.heap.size ((i+1)*2) (n-i) dc ⟨b,off+i*2,none⟩ (n-i) sc (cs.drop (i*2)) underlying84 hsz (by rw[hm,hdl])
   (λj v hj=>by
    rw[Addr.add_lit,hWc,World.cell?_setCells_out _ _ _ _ _ (λh _=>absurd h hbN),aaW]
    exact hOb _ v (hcs (i*2+j) v (by rwa [aaX]at hj)))
   (λj hj=>by rw[hWc];exact isSome_setCells _ _ _ _ (λt ht=>hN _ om) _ (hN _ om))
   (λj hj=>by rw[hWf,World.frozen?_setCells];exact hNf _) (λv hv=>h1c v (aci hv))
  rwa [hm]at this
 subst hW1;have hE1:∀x,((w.alloc (.cells ROW 206)).drew).cell? x=(w.drew.alloc (.cells ROW 206)).cell? x:=λx=>rfl
 have hE2:∀x,((w.alloc (.cells ROW 206)).drew).frozen? x=(w.drew.alloc (.cells ROW 206)).frozen? x:=λx=>rfl
 have hF1:∀x,(((w.alloc (.cells ROW 206)).drew.setCells w.heap.size (i*2) vs).drew).cell? x=((w.drew.alloc (.cells ROW 206)).setCells w.heap.size (i*2) vs).cell? x:=λx=>rfl
 have hF2:∀x,(((w.alloc (.cells ROW 206)).drew.setCells w.heap.size (i*2) vs).drew).frozen? x=((w.drew.alloc (.cells ROW 206)).setCells w.heap.size (i*2) vs).frozen? x:=λx=>rfl
 have hw1:IntKind.i64.wrap ((i:Int)+1)=(i:Int)+1:=by rw[IntKind.wrap_i64];omega
 have hb1:(0:Int)<=(i:Int)+1:=om;have hin:i<=n:=om;have htn:((i:Int)+1).toNat=i+1:=om;have hb3:(i:Int)<=(n:Int):=om;have hnn:n+1-(i+1)=n-i:=om;clear hkk hik hold hROW hG hRl;have mixed:prog.follows .mixedOrders=true:=by kernel_rfl
 go_enter func140,ntmps140
 go_wp2_with (first
  |(at_builtin;refine Lib.wpList_append_run _ rfl _ _ _ _ rfl _ _ rfl rfl _ _ (hrz _) ?_)
  |(at_builtin;refine wpList_copy_runI _ rfl _ _ 84 84 rfl _ _ rfl rfl (hcpA _ hE1 hE2 _ _) ?_)
  |(at_builtin;refine wpList_copy_runI _ rfl _ _ 84 84 rfl _ _ rfl rfl (hcpB _ (λ_=>rfl) (λ_=>rfl) _ _ _) ?_))
 go_region_law_o (refine step_copy_runI rfl _ _ 84 84 rfl (.slice (some ⟨w.heap.size,(i+1)*2,none⟩) (n-i) (G-(i+1))) (.slice (some ⟨b,off+i*2,none⟩) (n-i) (c-i)) (by simp[Act.eval,Act.put]) (by simp[Act.eval,Act.put]) (hcpB _ hF1 hF2 3 (G-(i+1)) (c-i)) ?_)
 go_wp2
 go_ret
 exact⟨rfl,rfl⟩
end Go.Proofs.YtodckkkbiidffaaGreatDoor
namespace Go.Proofs.YtodckkkbiidffaaGreatDoor
open Proofs.Tryz
open Go.AM Go.ChangeShapes Go.WideShapes Go.ChangeAt Go.RowKit
theorem iQ{mk:Prop}{b:Nat}:∀(vs:List Value)(o:Nat)(w:World)(cur:Array Value),mf mk w b cur->o+vs.length<=cur.size->
  ∃gK,mf mk (w.setCells b o vs) b gK/\eM w (w.setCells b o vs) b/\gK.size=cur.size/\∀k,gK[k]? =if o<=k/\k<o+vs.length then vs[k-o]? else cur[k]?
 | [],o,w,cur,hc,_=>⟨cur,hc,⟨λ_ _=>rfl,rfl,rfl,rfl,rfl⟩,rfl,λk=>by rw[if_neg aC]⟩
 |v::r,o,w,cur,hc,hle=>by
  have BW:mf mk (w.setCell ⟨b,o,none⟩ v) b (cur.setIfInBounds o v):=by
   obtain⟨ty,fr,hb,hf⟩:=hc;refine⟨ty,fr,?_,by simpa using hf⟩
   simp[World.setCell,aaV,hb]
  have Aq:eM w (w.setCell ⟨b,o,none⟩ v) b:=⟨λb hb=>by simp[World.setCell,aaV,Ne.symm hb],aC,rfl,rfl,rfl⟩
  simp only[aaj]at hle;obtain⟨gK,h1,ht,h2,h3⟩:=iQ (mk:=mk) r (o+1) _ _ BW (by simp;omega)
  refine⟨gK,h1,⟨λb hb=>(ht.heap b hb).trans (Aq.heap b hb),ht.size.trans Aq.size,ht.os,ht.tape,ht.output⟩,by rw[h2];simp,λk=>?_⟩
  rw[h3 k];simp only[aaj];by_cases hk:k=o
  .subst hk;rw[if_neg om,if_pos om,acd om];simp
  .by_cases oL:o+1<=k/\k<o+1+r.length
   .rw[if_pos oL,if_pos om];obtain⟨j,rfl⟩:∃j,k=o+1+j:=⟨k-(o+1),om⟩;rw[show o+1+j-(o+1)=j by omega,show o+1+j-o=j+1 by omega,abC]
   .rw[if_neg oL,if_neg om,aco om]
theorem FW{S:List (List Dt)}{i:Nat}{cs:List CC}(h:(aa S)[i]? =some cs):∃ds,S[i]? =some ds/\cs=ds.map .ah:=by simp only[aa,Sf]at h;obtain⟨ds,h1,h2⟩:=aau.1 h;exact⟨ds,h1,h2.symm⟩
theorem HX{S:List (List Dt)}{e:List Dt}{i:Nat}(hi:i<S.length)(k:Nat)(ds:List Dt)(h:(S.take i++e::S.drop i)[k]? =some ds):(k<i/\S[k]? =some ds)\/(k=i/\ds=e)\/(i<k/\S[k-1]? =some ds):=by
 have hl:(S.take i).length=i:=by rw[aav];omega
 rcases acY k i with h1|h1|h1
 .rw[YN om,aaF,if_pos h1]at h;exact .inl ⟨h1,h⟩
 .subst h1;rw[Xi om,hl,acA]at h;exact .inr (.inl ⟨rfl,by simpa using h.symm⟩)
 .rw[Xi om,hl,show k-i=(k-1-i)+1 by omega,abC,aaX,show i+(k-1-i)=k-1 by omega]at h
  exact .inr (.inr ⟨h1,h⟩)
theorem JT(S:List (List Dt))(e:List Dt)(i:Nat)(hi:i<S.length)(hl:S.length<=4194304):ap prog 140 [.rv (.one (.row 0 2 0 none)),an .i64 (i:Nat),.rv (.one (.row 1 2 0 none))] [.row 2 (aa S),.row 2 (aa [e])]
  (λr m=>r= .rv (.one (.row 2 2 0 none))/\m=[.aR,.aR,.row 2 (aa (S.take i++e::S.drop i))]):=by
 refine⟨⟨f140,func140,rfl,by decide⟩,λρ w vs hM yr hd=>?_⟩
 obtain⟨v0,h0,d0⟩:=hd 0 _ rfl;obtain⟨v1,h1,d1⟩:=hd 1 _ rfl;obtain⟨v2,h2,d2⟩:=hd 2 _ rfl;have Ed:vs=[v0,v1,v2]:=by
  match vs,yr with
  | [a,b,c],_=>simp at h0 h1 h2;rw[h0,h1,h2]
 have EL:v1= .int .i64 (i:Nat):=(bC d1).1;obtain⟨_,_,_,afg,T6,a0,UW,U7⟩:=(show bi ρ w none (.row 0 2 0 none) v0 from d0);obtain⟨_,_,_,Wp,PA,a1,vd,YO⟩:=(show bi ρ w none (.row 1 2 0 none) v2 from d2);obtain⟨aa0,_,_,LP,aa1⟩:=hM.bk 0 _ rfl;obtain⟨aa2,_,_,Wi,aa3⟩:=hM.bk 1 _ rfl;have Xj:(ρ.aH (.aj 0)).len=S.length:=by rw[<-aa0];simp[aa]
 have Xk:(ρ.aH (.aj 1)).len=1:=by rw[<-aa2];simp[aa]
 have NG:0<(ρ.aH (.aj 0)).cap:=om;have Hd:0<(ρ.aH (.aj 1)).cap:=om;obtain⟨NH,zI,CM,Qw⟩:=aa1 NG;obtain⟨NI,NJ,Wr,Qx⟩:=aa3 Hd;have U7:=U7 NG;have YO:=YO Hd;have NK:Live ρ [.row 2 (aa S),.row 2 (aa [e])] (.aj 0):=⟨_,rfl,aC,λ_=>NG⟩
 have Xl:Live ρ [.row 2 (aa S),.row 2 (aa [e])] (.aj 1):=⟨_,rfl,aC,λ_=>Hd⟩
 have YL:(ρ.aH (.aj 1)).b≠(ρ.aH (.aj 0)).b:=λhe=>by have:=hM.inj _ _ Xl NK he;cases this
 simp only[acJ,acr,ac5,acB]at UW vd U7 YO;have Xm:ρ.n=2:=hM.n;have YP:=hM;generalize Pe:ρ.aH (.aj 0)=L0 at*
 generalize hL1:ρ.aH (.aj 1)=L1 at*
 obtain⟨b,ar,len,cap⟩:=L0;obtain⟨vb,zJ,afh,T7⟩:=L1;simp only at*
 subst Xj Xk;have T8:=zI.lt;have U8:∀(k:Nat)(ds:List Dt),S[k]? =some ds->ds.length=2:=λk ds hk=>by
  have:=LP (ds.map .ah) (Sj (i:=k) (by simp[aa,hk]))
  simpa using this
 have ke:e.length=2:=by
  have:=Wi (e.map .ah) (by simp[aa])
  simpa using this
 obtain⟨cs,Xn⟩:∃cs,cs=(NH.toList.drop ar).take (S.length*2):=⟨_,rfl⟩;have im:cs.length=S.length*2:=by have:=ab6 (xs:=NH);rw[Xn,aav,abB];omega
 have UX:∀j,j<S.length*2->cs[j]? =NH[ar+j]? :=λj hj=>by rw[Xn,aaF,if_pos hj,aaX,abD]
 obtain⟨vv,Xo⟩:∃vv,vv=(NI.toList.drop zJ).take 2:=⟨_,rfl⟩;have Bt:vv.length=2:=by have:=ab6 (xs:=NI);rw[Xo,aav,abB];omega
 have hvg:∀j,j<2->vv[j]? =NI[zJ+j]? :=λj hj=>by rw[Xo,aaF,if_pos hj,aaX,abD]
 have NL:∀(k:Nat)(ds:List Dt)(j:Nat)(d:Dt),S[k]? =some ds->ds[j]? =some d->∃u,cs[k*2+j]? =some u/\de ρ.S w d u:=λk ds j d hk hj=>by
  have gj:=(JJ.1 hk).1;have nu:=(JJ.1 hj).1;rw[U8 k ds hk]at nu;obtain⟨u,hu,cu⟩:=Qw k (ds.map .ah) j (.ah d) (by simp[aa,hk]) (by simp[hj])
  exact⟨u,by rw[UX _ om,<-aaW];exact hu,cu⟩
 have Sl:∀(j:Nat)(d:Dt),e[j]? =some d->∃u,vv[j]? =some u/\de ρ.S w d u:=λj d hj=>by
  have nu:=(JJ.1 hj).1;rw[ke]at nu;obtain⟨u,hu,cu⟩:=Qx 0 (e.map .ah) j (.ah d) (by simp[aa]) (by simp[hj])
  exact⟨u,by rw[hvg _ nu];simpa using hu,cu⟩
 have Sm:∀v∈cs,v.oneCell'=true:=λv hv=>by
  obtain⟨j,hj⟩:=X1 hv;have nu:=(JJ.1 hj).1;have hk:j/2<S.length:=om;have yd:=U8 (j/2) S[j/2] (vl hk);obtain⟨u,hu,cu⟩:=NL (j/2) S[j/2] (j%2) (S[j/2][j%2]'(by omega)) (vl hk) (vl _)
  rw[show j/2*2+j%2=j by omega,hj]at hu
  cases hu;exact cu.one
 have Sn:∀v∈vv,v.oneCell'=true:=λv hv=>by
  obtain⟨j,hj⟩:=X1 hv;have nu:=(JJ.1 hj).1;obtain⟨u,hu,cu⟩:=Sl j (e[j]'(by omega)) (vl _)
  rw[hj]at hu;cases hu;exact cu.one
 have AL:∀(j:Nat)(v:Value),cs[j]? =some v->w.cell? ⟨b,ar+j,none⟩=some v:=λj v hj=>by
  rw[zI.cell,<-UX j (by rw[<-im];exact(JJ.1 hj).1)];exact hj
 have AN:∀(j:Nat)(v:Value),vv[j]? =some v->w.cell? ⟨vb,zJ+j,none⟩=some v:=λj v hj=>by
  rw[NJ.cell,<-hvg j (by rw[<-Bt];exact(JJ.1 hj).1)];exact hj
 have eO:vs.toArray= #[.slice (some ⟨b,ar,none⟩) S.length cap,.int .i64 (i:Nat),.slice (some ⟨vb,zJ,none⟩) 1 T7]:=by rw[Ed,UW,EL,vd,U7,YO]
 rw[eO];have Dq:∀(w':World)(l:AM.vH)(gK:Array Value),iA ρ w (ρ.move l λ_ _=>.sub 0 0 0) w'->(∀k,k<i*2->gK[l.ar+k]? =cs[k]?)->(∀k,k<2->gK[l.ar+(i*2+k)]? =vv[k]?)->(∀k,k<(S.length-i)*2->gK[l.ar+((i+1)*2+k)]? =cs[i*2+k]?)->
   ∀(k:Nat)Em(j:Nat)c,(aa (S.take i++e::S.drop i))[k]? =some Em->Em[j]? =some c->∃u,gK[l.ar+k*2+j]? =some u/\bi (ρ.move l λ_ _=>.sub 0 0 0) w' (some (ρ.n,k,j)) c u:=by
  intro w' l gK g q1 q2 q3 k Em j c hk hj;obtain⟨ds,y4,rfl⟩:=FW hk;rw[Sf]at hj;obtain⟨d,u6,rfl⟩:=aau.1 hj;have nu:=(JJ.1 u6).1;rcases HX hi k ds y4 with⟨K6,hS⟩|⟨rfl,rfl⟩|⟨K6,hS⟩
  .rw[U8 k ds hS]at nu;obtain⟨u,hu,cu⟩:=NL k ds j d hS u6;exact⟨u,by rw[aaW,q1 _ om];exact hu,cu.mono g.S g.heap⟩
  .rw[ke]at nu;obtain⟨u,hu,cu⟩:=Sl j d u6;exact⟨u,by rw[aaW,q2 _ nu];exact hu,cu.mono g.S g.heap⟩
  .rw[U8 _ ds hS]at nu;obtain⟨u,hu,cu⟩:=NL (k-1) ds j d hS u6;have gj:=(JJ.1 hS).1;refine⟨u,?_,cu.mono g.S g.heap⟩;rw[aaW,show k*2+j=(i+1)*2+((k-1-i)*2+j) by omega,q3 _ om,show i*2+((k-1-i)*2+j)=(k-1)*2+j by omega]
   exact hu
 have HA:(aa (S.take i++e::S.drop i)).length=S.length+1:=by simp[aa];omega
 have Ee:∀cs,cs∈aa (S.take i++e::S.drop i)->cs.length=2:=λEm hm=>by
  obtain⟨k,hk⟩:=X1 hm;obtain⟨ds,y4,rfl⟩:=FW hk;rw[Nr];rcases HX hi k ds y4 with⟨_,hS⟩|⟨_,rfl⟩|⟨_,hS⟩
  .exact U8 _ _ hS
  .exact ke
  .exact U8 _ _ hS
 have jc:∀(k:Nat)Em(j:Nat)s el,(aa (S.take i++e::S.drop i))[k]? =some Em->Em[j]? =some (.d5 s el)->False:=λk Em j s el hk hj=>by obtain⟨ds,_,rfl⟩:=FW hk;rw[Sf]at hj;obtain⟨d,_,h⟩:=aau.1 hj;cases h
 have pD:([.aR,.aR]:Mem).length=([.row 2 (aa S),.row 2 (aa [e])]:Mem).length:=rfl;have je:∀(id:Nat)bk,([.aR,.aR]:Mem)[id]? =some bk->bk= .aR\/(([.row 2 (aa S),.row 2 (aa [e])]:Mem)[id]? =some bk/\¬(id=0\/id=1)):=λid bk h=>by
  match id,h with
  |0,h=>cases h;exact .inl rfl
  |1,h=>cases h;exact .inl rfl
  |id+2,h=>simp at h
 have Dr:∀k,(cs.drop (i*2))[k]? =cs[i*2+k]? :=λk=>by rw[aaX]
 have l4:(cs.drop (i*2)).length=(S.length-i)*2:=by rw[abB,im,adD]
 by_cases nW:S.length+1<=cap
 ·
  obtain⟨ty0,fr0,hh0,afk,afl,afm⟩:=id zI;obtain⟨ty1,fr1,UP,afp,afq,Xp⟩:=id NJ;have Xp:fr1.2<=NI.size:=by
   rcases Xp with h|h
   .cases h
   .exact h
  have wG:∀j,j<(S.length+1)*2->(w.cell? ⟨b,ar+j,none⟩).isSome=true:=λj hj=>by rw[zI.cell,abV om];rfl
  have yG:=Bs b ar S.length cap i vb zJ T7 cs vv w hi nW (by unfold maxLen at T6;omega) YL im Bt AL wG (λj hj=>zI.qt om) AN Sm Sn ty1 ty0 NI.size NH.size
   (by simp[World.shape?,UP]) (by simp[World.shape?,hh0]) om (NJ.qt om) (by simp only[World.frozen?,UP];simp;omega)
  refine yG.mono ?_;rintro e' w' ⟨rfl,rfl⟩;obtain⟨c1,BW,Aq,KZ,kg⟩:=iQ (cs.drop (i*2)) (ar+(i+1)*2) w.drew NH (zI.dB rfl) (by rw[l4];omega)
  obtain⟨c2,wj,wh,Eh,oL⟩:=iQ vv (ar+i*2) _ c1 BW (by rw[Bt];omega)
  have hT:eM w ((w.drew.setCells b (ar+(i+1)*2) (cs.drop (i*2))).setCells b (ar+i*2) vv) b:=
   ⟨λx hx=>((wh.heap x hx).trans (Aq.heap x hx)).trans rfl,(wh.size.trans Aq.size).trans rfl,(wh.os.trans Aq.os).trans rfl,(wh.tape.trans Aq.tape).trans rfl,(wh.output.trans Aq.output).trans rfl⟩
  obtain⟨i4,hX⟩:=hM.move (w':=(w.drew.setCells b (ar+(i+1)*2) (cs.drop (i*2))).setCells b (ar+i*2) vv) (m1:=[.aR,.aR]) (D:=λid=>id=0\/id=1) (esz:=2) (E:=aa (S.take i++e::S.drop i)) (l:=⟨b,ar,S.length+1,cap⟩) (src:=λ_ _=>.sub 0 0 0)
   pD je (by rw[hT.size];exact T5 _) hT.os hT.tape hT.output (λx hx du=>hT.heap x (λhe=>du 0 (.inl rfl) NK (by rw[Pe];exact he.symm)))
   (λ_=>⟨by rw[hT.size];exact T8,.inr ⟨0,.inl rfl,NK,by rw[Pe]⟩⟩) HA nW T6 Ee
   (λg _=>⟨c2,wj,by rw[Eh,KZ];exact CM,Dq _ ⟨b,ar,S.length+1,cap⟩ c2 g (λk hk=>by
    show c2[ar+k]? =_;rw[oL,if_neg (by rw[Bt];omega),kg,if_neg om,UX _ om]) (λk hk=>by
    show c2[ar+(i*2+k)]? =_;rw[oL,if_pos (by rw[Bt];omega),show ar+(i*2+k)-(ar+i*2)=k by omega]) (λk hk=>by
    show c2[ar+((i+1)*2+k)]? =_;rw[oL,if_neg (by rw[Bt];omega),kg,if_pos (by rw[l4];omega),show ar+((i+1)*2+k)-(ar+(i+1)*2)=k by omega,Dr])⟩)
   (λk Em j s el hk hj=>(jc k Em j s el hk hj).elim) (λ_ _ _ _ _⟨Em,s,el,hk,hj⟩ _=>(jc _ Em _ s el hk hj).elim)
  refine⟨_,_,_,_,rfl,⟨rfl,rfl⟩,i4,?_,hX⟩;refine⟨by simp[bG.move,Xm],?_⟩
  have mM:(ρ.move ⟨b,ar,S.length+1,cap⟩ λ_ _=>.sub 0 0 0).aH (.aj 2)=⟨b,ar,S.length+1,cap⟩:=by simp[bG.move,Xm]
  rw[mM];exact⟨aan _,T5 _,nW,T6,_,rfl,λ_=>aC⟩
 ·
  have yG:=Dp b ar S.length cap i vb zJ T7 cs vv w hi om om om im Bt AL AN Sm Sn;refine yG.mono ?_;rintro e' w' ⟨rfl,rfl⟩;have hGn:S.length+1<=grownCap w (S.length+1) cap 206:=grownCap_ge w _ _ _;have hGm:grownCap w (S.length+1) cap 206<=maxLen:=grownCap_le_maxLen w (S.length+1) cap 206 (by unfold maxLen;omega)
  generalize grownCap w (S.length+1) cap 206=G at*
  obtain⟨ROW,FV⟩:∃ROW:Array Value,ROW=(cs.take (i*2)).toArray++Builtin.zeroCells vm.cells (S.length+1-i)++Builtin.zeroCells vm.cells (G-(S.length+1)):=⟨_,rfl⟩;rw[<-FV];have hRs:ROW.size=G*2:=by rw[FV];simp[Builtin.zeroCells,Value.cells,vm,aav,im];omega
  have hRg:∀k,k<i*2->ROW[k]? =cs[k]? :=λk hk=>by
   rw[FV,Array.append_assoc,acv (by simp[im];omega)]
   simp[aaF,hk]
  have hA:eG w (w.alloc (.cells ROW 206)).drew:=(eG.alloc w _).trans (eG.drew _);obtain⟨c1,BW,Aq,KZ,kg⟩:=iQ (mk:=(2:Nat)=1) vv (i*2) (w.alloc (.cells ROW 206)).drew ROW ((mf.new w ROW 206).dB rfl) (by rw[Bt];omega)
  obtain⟨c2,wj,wh,Eh,oL⟩:=iQ (mk:=(2:Nat)=1) (cs.drop (i*2)) ((i+1)*2) ((w.alloc (.cells ROW 206)).drew.setCells w.heap.size (i*2) vv).drew c1 (BW.dB rfl) (by rw[l4];omega)
  have dj:w.heap.size<((((w.alloc (.cells ROW 206)).drew.setCells w.heap.size (i*2) vv).drew).setCells w.heap.size ((i+1)*2) (cs.drop (i*2))).heap.size:=by rw[wh.size];show w.heap.size<((w.alloc (.cells ROW 206)).drew.setCells w.heap.size (i*2) vv).heap.size;rw[Aq.size];show w.heap.size<(w.alloc (.cells ROW 206)).heap.size;simp
  obtain⟨i4,hX⟩:=hM.move (w':=(((w.alloc (.cells ROW 206)).drew.setCells w.heap.size (i*2) vv).drew).setCells w.heap.size ((i+1)*2) (cs.drop (i*2))) (m1:=[.aR,.aR]) (D:=λid=>id=0\/id=1) (esz:=2) (E:=aa (S.take i++e::S.drop i)) (l:=⟨w.heap.size,0,S.length+1,G⟩) (src:=λ_ _=>.sub 0 0 0)
   pD je (Nat.le_of_lt dj) ((wh.os.trans Aq.os).trans rfl) ((wh.tape.trans Aq.tape).trans rfl) ((wh.output.trans Aq.output).trans rfl)
   (λx hx _=>((wh.heap x om).trans (Aq.heap x om)).trans (hA.heap x hx))
   (λ_=>⟨dj,.inl (T5 _)⟩) HA hGn hGm Ee
   (λg _=>⟨c2,wj,by rw[Eh,KZ,hRs];show 0+G*2<=G*2;omega,Dq _ ⟨w.heap.size,0,S.length+1,G⟩ c2 g (λk hk=>by
    show c2[0+k]? =_;rw[aaM,oL,if_neg om,kg,if_neg om,hRg _ hk]) (λk hk=>by
    show c2[0+(i*2+k)]? =_;rw[aaM,oL,if_neg om,kg,if_pos (by rw[Bt];omega),show i*2+k-i*2=k by omega]) (λk hk=>by
    show c2[0+((i+1)*2+k)]? =_;rw[aaM,oL,if_pos (by rw[l4];omega),show(i+1)*2+k-(i+1)*2=k by omega,Dr])⟩)
   (λk Em j s el hk hj=>(jc k Em j s el hk hj).elim) (λ_ _ _ _ _⟨Em,s,el,hk,hj⟩ _=>(jc _ Em _ s el hk hj).elim)
  refine⟨_,_,_,_,rfl,⟨rfl,rfl⟩,i4,?_,hX⟩;refine⟨by simp[bG.move,Xm],?_⟩
  have mM:(ρ.move ⟨w.heap.size,0,S.length+1,G⟩ λ_ _=>.sub 0 0 0).aH (.aj 2)=⟨w.heap.size,0,S.length+1,G⟩:=by simp[bG.move,Xm]
  rw[mM];exact⟨aan _,T5 _,hGn,hGm,_,rfl,λ_=>aC⟩
def Obj.ob(o:Obj):Ob:=⟨o.ag,o.data,o.ak,o.target,o.bq,.sl 4 (o.aq.map dh.enc),o.bb,o.am,o.up⟩
theorem T9(l:List Obj):dk l=P8 (l.map Obj.ob):=by show Dt.sl 9 (l.map Obj.enc)=Dt.sl 9 ((l.map Obj.ob).map Ob.enc);rw[abZ];rfl
def jP(l:List Obj)(n p:Nat)(name:ByteArray):List Obj:=match l[n]? with
 |none=>l
 |some o=>match (l.set n {o with ak:=(iL (name,(p:Int)) (o.ak.map nZ)).map fX})[p]? with
  |none=>l
  |some q=>(l.set n {o with ak:=(iL (name,(p:Int)) (o.ak.map nZ)).map fX}).set p {q with am:=IntKind.i64.wrap (q.am+1),up:=if q.ag=2 then(n:Int)else q.up}
def zK(b:Bool)(o:Obj)(y:List Obj)(name:ByteArray):List Obj×Int:=
 if o.ag≠2 then([],11)else if o.am=0 then([],6)else if b=false then([],7)else if fH (o.ak.map nZ) name>=0 then([],7)else if o.ak.length>=8 then([],15)else(y,0)
def pT(l:List Obj)(k ag:Int):Bool:=oS (l.map Obj.ob) k ag
def cO(b:Bool)(l:List Obj)(cK:Int)(name:ByteArray)(bo:Int):List Obj×Int:=
 if pT l cK 0=true then(if pT l bo 0=true then(match l[cK.toNat]? with
  |none=>([],6)
  |some o=>zK b o (jP l cK.toNat bo.toNat name) name)else([],6))else([],6)
theorem xq{l:List Obj}{k:Int}(h:k<0):pT l k 0=false:=by
 unfold pT oS;rw[decide_eq_false (by omega:¬k>=0)];rfl
theorem xr{l:List Obj}{k:Int}(h:k>=(l.length:Int)):pT l k 0=false:=by
 unfold pT oS;rw[Nr,decide_eq_false (by omega:¬k<(l.length:Int))];simp
theorem xt{l:List Obj}{n:Nat}(hn:n<l.length)(h:l[n].ag=0):pT l n 0=false:=by unfold pT oS;rw[aae,Sf,vl hn];have:l[n].ob.ag=0:=h;simp[this]
theorem xu{l:List Obj}{n:Nat}(hn:n<l.length)(h:l[n].ag≠0):pT l n 0=true:=by unfold pT oS;rw[aae,Sf,vl hn,Nr];have:l[n].ob.ag≠0:=h;simp[this,hn]
theorem iR{l:List Obj}{k:Nat}(h:k<l.length):dC (l.map Obj.enc) (k:Nat)=some [.val (.int .i64 l[k].ag),.sl 1 l[k].data,.sl 2 l[k].ak,.val (.string l[k].target),.val (.int .i64 l[k].bq),.sl 4 (l[k].aq.map dh.enc),.val (.int .i64 l[k].bb),.val (.int .i64 l[k].am),.val (.int .i64 l[k].up)]:=by rw[bD,Sf,vl h];rfl
theorem Xq{Y:Nat->Nat}{m:Mem}{Z:Nat->Prop}{a a' b b':RV}(h1:yf Y m Z a a')(h2:yf Y m Z b b'):ri Y m Z (.bz [a,b]) (.bz [a',b']):=by
 refine .bz rfl λi r r' h3 h4=>?_
 match i with
 |0=>cases h3;cases h4;exact h1
 |1=>cases h3;cases h4;exact h2
 |n+2=>simp at h3
theorem Xr{Y:Nat->Nat}{m:Mem}{Z:Nat->Prop}{a a' b b' c c':RV}(h1:yf Y m Z a a')(h2:yf Y m Z b b')(h0:yf Y m Z c c'):ri Y m Z (.bz [a,b,c]) (.bz [a',b',c']):=by
 refine .bz rfl λi r r' h3 h4=>?_
 match i with
 |0=>cases h3;cases h4;exact h1
 |1=>cases h3;cases h4;exact h2
 |2=>cases h3;cases h4;exact h0
 |n+3=>simp at h3
theorem pJ{p Q:Nat}{l:List Obj}{k:Nat}{o:Obj}(hk:k<l.length):aW (bO p Q 0 l) k (kJ p Q k o)=bO p Q 0 (l.set k o):=by
 rw[aY];apply abN;intro i;rw[f9,aaM];by_cases h:k=i
 .subst h;rw[SC (by rw[f8];exact hk),SC hk]
  rfl
 .rw[Xg h,Xg h,f9,aaM]
theorem FX{p Q Q':Nat}{l:List Obj}{o:Obj}(hp:l[p]? =some o):aW (bO p Q 0 l) p (kJ p Q' p o)=bO p Q' 0 l:=by
 have i3:=(JJ.1 hp).1;rw[aY];apply abN;intro i;rw[f9,aaM];by_cases h:p=i
 .subst h;rw[SC (by rw[f8];exact i3),hp]
  rfl
 .rw[Xg h,f9,aaM];cases l[i]? with
  |none=>rfl
  |some x=>
   have h2:¬i=p:=λe=>h e.symm
   simp only[aax,kJ,if_neg h2]
theorem HY{m:Mem}{Z:Nat->Prop}{pp:Option Nat}{id p Q:Nat}{l:List Obj}{o:Obj}{E:List (List Dt)}(hz:Z id)(hm:m[id]? =some (.row 9 (bO p Q 0 l)))(hzq:Z Q)(hq:m[Q]? =some (.row 2 (aa E)))(hp:l[p]? =some o):
  dR m Z pp (.row id 9 0 none) (dk (l.set p {o with ak:=E})):=by
 have i3:=(JJ.1 hp).1;have key:∀(i:Nat)cs es,(bO p Q 0 l)[i]? =some cs->((l.set p {o with ak:=E}).map Obj.enc)[i]? =some es->kh m Z (some id) cs es:=by
  intro i cs es h1 h2;rw[f9,aaM]at h1;rw[Sf]at h2;by_cases h:p=i
  .subst h;rw[SC i3]at h2;rw[hp]at h1;cases h1;cases h2;simp only[kJ,if_pos,Obj.enc];exact .cons (.ah _) (.cons (.ah _) (.cons (dR.eW hzq hq 0 none) (.cons (.ah _) (.cons (.ah _) (.cons (.ah _) (.cons (.ah _) (.cons (.ah _) (.cons (.ah _) .nil))))))))
  .rw[Xg h]at h2;cases hx:l[i]? with
   |none=>rw[hx]at h1;cases h1
   |some x=>
    rw[hx]at h1 h2;cases h1;cases h2;have h3:¬i=p:=λe=>h e.symm
    simp only[kJ,if_neg h3,Obj.enc];exact .cons (.ah _) (.cons (.ah _) (.cons (.ah _) (.cons (.ah _) (.cons (.ah _) (.cons (.ah _) (.cons (.ah _) (.cons (.ah _) (.cons (.ah _) .nil))))))))
 exact dR.row id 9 0 none _ _ hz hm (by rw[f8,Nr,aay]) (λi cs es h1 h2=>(key i cs es h1 h2).len) (λi cs es j c d h1 h2 h3 h4=>(key i cs es h1 h2).get j c d h3 h4)
theorem JU(S:List (List Dt))(e:List Dt)(i:Nat)(hi:i<=S.length)(hl:S.length<=4194304){m:Mem}{K:CV->Mem->Prop}(a b:Nat)(Ek:fy [a,b]=true)(aD:eI m.length [a,b]=true)(ha:cD m a=some (.row 2 (aa S)))(hb:cD m b=some (.row 2 (aa [e])))(h:K (.rv (.one (.row m.length 2 0 none))) (cW m [a,b] [.aR,.aR,.row 2 (aa (S.take i++e::S.drop i))])):ap prog 140 [.rv (.one (.row a 2 0 none)),an .i64 (i:Nat),.rv (.one (.row b 2 0 none))] m K:=by
 by_cases oD:i<S.length
 .refine bu [a,b] m.length rfl rfl Ek aD (args0:=[.rv (.one (.row 0 2 0 none)),an .i64 (i:Nat),.rv (.one (.row 1 2 0 none))]) rfl (m0:=[.row 2 (aa S),.row 2 (aa [e])]) (λi b' hi=>?_) (JT S e i oD hl) (λr1 m1 hr=>?_)
  .match i,hi with
   |0,hi=>cases hi;exact .inr ⟨λh=>h,_,by rw[aT]at ha;exact ha,.bI rfl⟩
   |1,hi=>cases hi;exact .inr ⟨λh=>h,_,by rw[aT]at hb;exact hb,.bI rfl⟩
   |n+2,hi=>simp at hi
  .obtain⟨rfl,rfl⟩:=hr;refine⟨aC,?_⟩;show K (.rv (.one (.row (m.length+(2-2)) 2 0 none))) (cW m [a,b] [.aR,.aR,.row 2 ((aa (S.take i++e::S.drop i)).map (λcs=>cs.map (CC.bg (sg [a,b] m.length))))])
   rw[ij];exact h
 .have:i=S.length:=om;subst this;refine T2 S e hl a b Ek aD ha hb ?_;rw[aaN,List.drop_length]at h;exact h
end Go.Proofs.YtodckkkbiidffaaGreatDoor
