/- Part 13 of 16. -/
import Derived.Test.YtodckkkbiidffaaGreatDoorJ11
import Derived.Test.YtodckkkbiidffaaGreatDoorJ12
import Derived.Test.YtodckkkbiidffaaGreatDoorRows
import Derived.Shelf.Strings.Search3
import Derived.Shelf.Strings.OnBuilder
import Derived.RangeFuncNested
import Derived.RangeFuncCalls
import Derived.Shelf.Abstract
import Derived.WalkKit
import Derived.OwnWalkIn
import Derived.TacticsInMore
import Derived.LoopNIn
import Derived.LoopIn
import Derived.Shelf.Spec.SlicesInsert
import Derived.Lib.AppendZerosOnto
import Derived.Laws.NewBlocks
set_option linter.unusedVariables false
set_option linter.unusedSimpArgs false
set_option maxRecDepth 100000
set_option maxHeartbeats 0
namespace Go.Proofs.YtodckkkbiidffaaGreatDoor
open Proofs.Tryz
open Go.AM Go.ChangeShapes Go.WideShapes Go.ChangeAt Go.RowKit
def c16:LF:= ⟨28,[.cell true 2 4,.tmp 5],(.seq (.ai [qu 4 (.alloc [qd 0,qd 0]),qu 5 (.aN (qi 0))]) (.seq (.seq (.ai [qm 6 1,qu 7 (.aL .lss 6 (qi 0)),qm 8 7,qg 9 (.aN 1) 8 false,qg 10 (.aN 0) 8 false,qg 11 (.len 1 10) 8 false,qg 12 (.aL .geq 9 11) 8 false,qu 13 (.pick 8 (qb true) 12),qm 14 13,qg 15 (.aN 0) 14 false,qg 16 (.aN 1) 14 false,qg 17 (.cw 3 15 16) 14 false,qg 18 (.bY 0 17) 14 false,qg 19 (.load false 1 18) 14 false,qg 20 (.un .not 19) 14 false,qu 21 (.pick 14 (qb true) 20)]) (.cond 21 (.seq (.ai [qu 22 (.build [qd 0,qd 0] []),qw (.store 2 4 22),qu 5 (.aN (qi 6))]) .ret) .skip)) (.seq (.ai [qm 23 0,qm 24 1,qu 25 (.cw 3 23 24),qf 26 1 25,qL 27 2 26,qw (.store 2 4 27),qu 5 (.aN (qi 0))]) .ret)))⟩
def c54:LF:= ⟨9,[.tmp 2],(.seq (.ai [qu 2 (.aN (qb false))]) (.seq (.ai [qm 3 0,qu 4 (.aL .geq 3 (qi 0)),qm 5 4,qg 6 (.aN 0) 5 true,qg 7 (.aL .leq 6 (qi 4095)) 5 true,qu 8 (.pick 5 7 (qb false)),qm 2 8]) .ret))⟩
def c61:LF:= ⟨24,[.tmp 4,.tmp 5,.tmp 6],(.seq (.ai [qu 4 (.aN qe),qu 5 (.aN (qi 0)),qu 6 (.aN (qi 0))]) (.seq (.ai [qm 10 0,qm 11 1,qu 12 (qc 73 [10,11]),qm 9 12,qu 13 (.ext 9 0),qu 14 (.ext 9 1),qu 7 (.alloc [qd 0,qd 0]),qw (.store 2 7 13),qm 8 14]) (.seq (.seq (.ai [qm 15 8,qu 16 (.aL .neq 15 (qi 0))]) (.cond 16 (.seq (.ai [qm 17 8,qu 4 (.aN qe),qu 5 (.aN (qi 0)),qm 6 17]) .ret) .skip)) (.seq (.ai [qm 18 0,qL 19 2 7,qu 20 (qc 76 [18,19]),qu 21 (.ext 20 0),qu 22 (.ext 20 1),qu 23 (.ext 20 2),qm 4 21,qm 5 22,qm 6 23]) .ret))))⟩
def c73:LF:= ⟨28,[.cell true 2 4,.tmp 5],(.seq (.ai [qu 4 (.alloc [qd 0,qd 0]),qu 5 (.aN (qi 0))]) (.seq (.seq (.ai [qm 6 1,qu 7 (.aL .lss 6 (qi 0)),qm 8 7,qg 9 (.aN 1) 8 false,qg 10 (.aN 0) 8 false,qg 11 (.len 1 10) 8 false,qg 12 (.aL .geq 9 11) 8 false,qu 13 (.pick 8 (qb true) 12),qm 14 13,qg 15 (.aN 0) 14 false,qg 16 (.aN 1) 14 false,qg 17 (.cw 3 15 16) 14 false,qg 18 (.bY 0 17) 14 false,qg 19 (.load false 1 18) 14 false,qg 20 (.un .not 19) 14 false,qu 21 (.pick 14 (qb true) 20)]) (.cond 21 (.seq (.ai [qu 22 (.build [qd 0,qd 0] []),qw (.store 2 4 22),qu 5 (.aN (qi 6))]) .ret) .skip)) (.seq (.ai [qm 23 0,qm 24 1,qu 25 (.cw 3 23 24),qf 26 1 25,qL 27 2 26,qw (.store 2 4 27),qu 5 (.aN (qi 0))]) .ret)))⟩
def c76:LF:= ⟨44,[.tmp 4,.tmp 5,.tmp 6],(.seq (.ai [qu 3 (.box 1),qu 4 (.aN qe),qu 5 (.aN (qi 0)),qu 6 (.aN (qi 0))]) (.seq (.seq (.ai [qf 9 1 3,ql 10 9,qu 11 (qc 54 [10]),qu 12 (.un .not 11),qm 13 12,qg 14 (.bY 0 3) 13 false,qg 15 (.load false 1 14) 13 false,qg 16 (.aL .lss 15 (qi 0)) 13 false,qu 17 (.pick 13 (qb true) 16)]) (.cond 17 (.seq (.ai [qu 4 (.aN qe),qu 5 (.aN (qi 0)),qu 6 (.aN (qi 3))]) .ret) .skip)) (.seq (.ai [qm 18 0,qu 19 (qc 116 [18,(.c (.rv (.one (.fn 117 []))))]),qm 7 19]) (.seq (.seq (.ai [qm 20 7,qu 21 (.aL .lss 20 (qi 0))]) (.cond 21 (.seq (.seq (.ai [qm 22 0,qu 23 (.len 1 22),qu 24 (.aL .geq 23 (qi 10))]) (.cond 24 (.seq (.ai [qu 4 (.aN qe),qu 5 (.aN (qi 0)),qu 6 (.aN (qi 15))]) .ret) .skip)) (.ai [qm 25 0,qu 26 (.len 1 25),qm 7 26])) .skip)) (.seq (.ai [qm 27 0,qu 28 (qc 100 [27]),qm 8 28]) (.seq (.seq (.ai [qm 29 7,qm 30 8,qu 31 (.len 1 30),qu 32 (.aL .eql 29 31)]) (.cond 32 (.ai [qm 33 8,qu 34 (.build [(.ah (.val (.bool false))),qd 0,qd 0] []),qu 35 (.nI 3 [(.ah (.val (.bool false))),qd 0,qd 0] 1 [(0,34)]),qu 36 (.oL 3 24 33 35),qm 8 36]) .skip)) (.seq (.ai [qm 37 8,qm 38 7,qL 39 2 3,qu 40 (.build [(.ah (.val (.bool false))),qd 0,qd 0] [(0,1,qb true),(1,2,39)]),qu 41 (.cw 3 37 38),qw (.store 3 41 40)]) (.seq (.ai [qm 42 8,qm 43 7,qm 4 42,qm 5 43,qu 6 (.aN (qi 0))]) .ret))))))))⟩
def c116:LF:= ⟨19,[.tmp 4],(.seq (.ai [qu 4 (.aN (qi 0))]) (.seq (.seq (.ai [qm 6 0,qu 7 (.len 1 6),qu 8 (.aN (qi 0))]) (.block 0 (.loop (.seq (.ai [qu 9 (.aL .lss 8 7)]) (.seq (.cond 9 .skip (.exit 0)) (.seq (.block 1 (.seq (.ai [qm 10 8,qm 5 10]) (.seq (.ai [qm 11 1,qm 12 0,qm 13 5,qu 14 (.cw 3 12 13),qL 15 3 14,qu 16 (.call 11 [15])]) (.cond 16 (.seq (.ai [qm 17 5,qm 4 17]) .ret) .skip)))) (.ai [qu 18 (.aL .add 8 (qi 1)),qm 8 18]))))))) (.seq (.ai [qu 4 (.aN (qi (-1)))]) .ret)))⟩
def c117:LF:= ⟨6,[.tmp 2],(.seq (.ai [qu 1 (.box 0),qu 2 (.aN (qb false))]) (.seq (.ai [qf 3 0 1,ql 4 3,qu 5 (.un .not 4),qm 2 5]) .ret))⟩
namespace Tb
structure Cap where
 dG:Int
 bX:Int
 deriving DecidableEq
structure bS where
 has:Bool
 cap:Cap
 deriving DecidableEq
def bS.enc(s:bS):List Dt:=[.val (.bool s.has),.val (.int .i64 s.cap.dG),.val (.int .i64 s.cap.bX)]
def re(l:List bS):Dt:= .sl 3 (l.map bS.enc)
def dE(l:List bS):CV:= .rv (.one (.ah (re l)))
def Cap.rv(c:Cap):RV:= .agg [.ah (.val (.int .i64 c.dG)),.ah (.val (.int .i64 c.bX))]
def cG(n:Int):RV:= .one (.ah (.val (.int .i64 n)))
theorem l73:bz prog f73=some c73:=by kernel_rfl
def du(l:List bS)(fd:Int):Cap×Int:=
 match (if 0<=fd then l[fd.toNat]? else none)with
 |some s=>if s.has then(s.cap,0)else(⟨0,0⟩,6)
 |none=>(⟨0,0⟩,6)
theorem NP(l:List bS)(fd:Int):body prog c73 [dE l,an .i64 fd] [] (λr m=>r= .bx [(du l fd).1.rv,cG (du l fd).2]):=by
 refine aJ (λh=>?_) (λh=>?_)
 .have h:fd<0:=of_decide_eq_true h;show CV.bx _=CV.bx _;rw[du,if_neg om];rfl
 .have h:¬fd<0:=of_decide_eq_false h;refine aJ (λh2=>?_) (λh2=>?_)
  .have h2:fd>=((l.map bS.enc).length:Int):=of_decide_eq_true h2;simp at h2;show CV.bx _=CV.bx _;rw[du,if_pos om,aaH om];rfl
  .have h2:¬fd>=((l.map bS.enc).length:Int):=of_decide_eq_false h2;simp at h2;have aD:fd.toNat<l.length:=om;have hg:dA (l.map bS.enc) fd=some (l[fd.toNat].enc):=by rw[A3,if_pos om,Tr,vR aD];rfl
   have hs:du l fd=if l[fd.toNat].has then(l[fd.toNat].cap,0)else(⟨0,0⟩,6):=by rw[du,if_pos om,vR aD]
   refine af hg ?_;refine aJ (λh3=>?_) (λh3=>?_)
   .have h3:l[fd.toNat].has=false:=by simpa using h3
    show CV.bx _=CV.bx _;rw[hs,h3];rfl
   .have h3:l[fd.toNat].has=true:=by simpa using h3
    refine af hg ?_;show CV.bx _=CV.bx _;rw[hs,h3];rfl
theorem xA(l:List bS)(fd:Int){m:Mem}{K:CV->Mem->Prop}(h:K (.bx [(du l fd).1.rv,cG (du l fd).2]) m):aq prog 73 [dE l,an .i64 fd] m K:=
 bC func73 l73 rfl (aap rfl) (NP l fd) rfl rfl h
theorem l100:bz prog f100=some c100:=by kernel_rfl
theorem l54:bz prog f54=some c54:=by kernel_rfl
theorem l116:bz prog f116=some c116:=by kernel_rfl
theorem l117:bz prog f117=some c117:=by kernel_rfl
def fm(n:Int):Bool:=decide (n>=0)&&decide (n<=4095)
theorem Gc(n:Int):body prog c54 [an .i64 n] [] (λr m=>r=aF (fm n)):=by
 refine aJ (λh=>?_) (λh=>?_)
 .show aF _=aF _;unfold fm;rw[h];rfl
 .show aF _=aF _;unfold fm;rw[h];rfl
theorem xD(n:Int){m:Mem}{K:CV->Mem->Prop}(h:K (aF (fm n)) m):aq prog 54 [an .i64 n] m K:=
 bC func54 l54 rfl (aap rfl) (Gc n) rfl rfl h
def bS.cv(s:bS):CV:= .rv (.agg (s.enc.map .ah))
theorem uf(s:bS):body prog c117 [s.cv] [] (λr m=>r=aF (!s.has)):=by show aF _=aF _;rfl
theorem Bs(s:bS){m:Mem}{K:CV->Mem->Prop}(h:K (aF (!s.has)) m):aq prog 117 [s.cv] m K:=
 bC func117 l117 rfl (aap rfl) (uf s) rfl rfl h
def vp{α:Type}(p:α->Bool)(l:List α):Int:=match l.findIdx? p with|some i=>(i:Int)|none=>-1
theorem Gd(l:List bS)(hb:l.length<=2097152)(f:Nat)(p:bS->Bool)(hf:∀(s:bS)(m:Mem)(K:CV->Mem->Prop),K (aF (p s)) m->aq prog f [s.cv] m K):
  body prog c116 [dE l,.rv (.one (.fn f []))] [] (λr m=>r=an .i64 (vp p l)):=by
 refine M3 (λk=>k<=l.length/\∀(i:Nat)s,i<k->l[i]? =some s->p s=false) (λk=>[(8,an .i64 (k:Nat)),(5,.aH),(9,.aH),(10,.aH),(11,.aH),(12,.aH),(13,.aH),(14,.aH),(15,.aH),(16,.aH),(17,.aH),(18,.aH)])
  (λ_=>[]) (λk=>l.length-k) 0 ⟨aav _,λi s h=>absurd h (aa9 i)⟩ (Da (aav _) ?_) (λk hk=>?_)
 .repeat(first|exact .nil|refine .aH ?_|refine .eX ?_)
 .refine aJ (λh=>?_) (λh=>?_)
  .have aD:k<l.length:=by have h:(k:Int)<((l.map bS.enc).length:Int):=of_decide_eq_true h;simp at h;omega
   have hg:dA (l.map bS.enc) (k:Nat)=some (l[k].enc):=by rw[bG,Tr,vR aD];rfl
   refine af hg ?_;refine hf l[k] _ _ ?_;refine aJ (λh3=>?_) (λh3=>?_)
   .show an _ _=an _ _;have:l.findIdx? p=some k:=by
     rw[aaV];refine⟨aD,h3,λj hj=>?_⟩
     have:=hk.2 j l[j] hj (vR om);simp[this]
    rw[vp,this]
   .refine⟨k+1,⟨aD,λi s hi hs=>?_⟩,?_,Da (aav _) ?_⟩
    .rcases aag i k with h5|h5
     .exact hk.2 i s h5 hs
     .have:i=k:=om;subst this;rw[vR aD]at hs;cases hs;exact h3
    .show l.length-(k+1)<l.length-k;omega
    .repeat(first|exact .nil|refine .aH ?_|refine .put (cR om) ?_|refine .eX ?_)
  .have eG:¬(k:Int)<((l.map bS.enc).length:Int):=of_decide_eq_false h;simp at eG;show an _ _=an _ _;have:l.findIdx? p=none:=by rw[ac5];intro s hs;obtain⟨i,hi⟩:=aab hs;have:=(Ki.1 hi).1;simpa using hk.2 i s om hi
   rw[vp,this]
theorem NQ(l:List bS)(hb:l.length<=2097152)(f:Nat)(p:bS->Bool)(hf:∀(s:bS)(m:Mem)(K:CV->Mem->Prop),K (aF (p s)) m->aq prog f [s.cv] m K){m:Mem}{K:CV->Mem->Prop}(h:K (an .i64 (vp p l)) m):aq prog 116 [dE l,.rv (.one (.fn f []))] m K:=
 bC func116 l116 rfl (aap rfl) (Gd l hb f p hf) rfl rfl h
def ct(l:List bS):List (List CC):=(l.map bS.enc).map λds=>ds.map CC.ah
theorem DI(l:List bS)(hb:l.length<=2097152):body prog c100 [dE l] [] (λr m=>(l=[]/\r= .rv (.one .aM))\/(r= .rv (.one (.row 1 3 0 none))/\m[1]? =some (.row 3 ([]++ct l)))):=by
 have tw:((([]:List (List CC)).length+((l.map bS.enc).map λds=>ds.map CC.ah).length)*24)<=140737488355328:=by simp;omega
 refine aJ (λh=>?_) (λh=>?_)
 .have hl:l=[]:=aaq (by simpa using aau h)
  exact⟨.inl ⟨hl,rfl⟩,tw,.inr ⟨rfl,rfl⟩⟩
 .exact⟨tw,.inr ⟨rfl,rfl⟩⟩
theorem pV(l:List bS)(hb:l.length<=2097152){m:Mem}{K:CV->Mem->Prop}(h1:l=[]->K (.rv (.one .aM)) m)(h2:K (.rv (.one (.row m.length 3 0 none))) (m++ [.row 3 (ct l)])):
  aq prog 100 [dE l] m K:=by
 refine JL (bc func100 l100 (DI l hb)) (by simp[dE,CV.dC,CC.dC]) λr m1 hr=>?_
 rcases hr with⟨hl,rfl⟩|⟨rfl,hm⟩
 .exact .inl ⟨rfl,h1 hl⟩
 .refine .inr ⟨1,3,ct l,rfl,by simpa using hm,λcs eL c hc=>?_,λi cs j d hi hj=>?_,h2⟩
  .simp only[ct,aaz]at eL;obtain⟨ds,⟨s,_,rfl⟩,rfl⟩:=eL;obtain⟨d,_,rfl⟩:=aaz.1 hc;exact⟨d,rfl⟩
  .have eL:=Tu hi;simp only[ct,aaz]at eL;obtain⟨ds,⟨s,_,rfl⟩,rfl⟩:=eL;have hd:=Tu hj;simp only[bS.enc,aaR,adK,aaL,CC.ah.injEq,adb,or_false]at hd;rcases hd with rfl|rfl|rfl<;>exact⟨_,rfl⟩
theorem l76:bz prog f76=some c76:=by kernel_rfl
def iS(l:List bS)(c:Cap):List bS×Int×Int:=
 if fm c.bX=false\/c.dG<0 then([],0,3)else
 match l.findIdx? (λs=>!s.has)with
 |some k=>(l.set k ⟨true,c⟩,k,0)
 |none=>if l.length>=10 then([],0,15)else(l++ [⟨true,c⟩],l.length,0)
def jK(l:List bS):RV:= .one (.ah (re l))
theorem mI{m:Mem}{a b:RV}{x y:Int}(h:eZ m a b):cN m (.bx [a,cG x,cG y]) (.bx [b,cG x,cG y]):=by
 refine .bx rfl λi r r' h1 h2=>?_
 match i,h1,h2 with
 |0,h1,h2=>cases h1;cases h2;exact h
 |1,h1,h2=>cases h1;cases h2;exact eZ.self rfl
 |2,h1,h2=>cases h1;cases h2;exact eZ.self rfl
theorem Im{l:List bS}{c:Cap}{m:Mem}(h:fm c.bX=false\/c.dG<0):cN m (.bx [.one .aM,cG 0,cG 3]) (.bx [jK (iS l c).1,cG (iS l c).2.1,cG (iS l c).2.2]):=by rw[iS,if_pos h];exact mI (.one (.aM 3))
theorem NR{l:List bS}{c:Cap}{m:Mem}(h:¬(fm c.bX=false\/c.dG<0))(hk:l.findIdx? (λs=>!s.has)=none)(hl:l.length>=10):
  cN m (.bx [.one .aM,cG 0,cG 15]) (.bx [jK (iS l c).1,cG (iS l c).2.1,cG (iS l c).2.2]):=by
 rw[iS,if_neg h,hk];simp only;rw[if_pos hl];exact mI (.one (.aM 3))
theorem In{l:List bS}{c:Cap}{m:Mem}{id:Nat}(h:¬(fm c.bX=false\/c.dG<0))(hk:l.findIdx? (λs=>!s.has)=none)(hl:¬l.length>=10)(hm:m[id]? =some (.row 3 (ct (l++ [⟨true,c⟩])))):
  cN m (.bx [.one (.row id 3 0 none),cG ((l.map bS.enc).length:Nat),cG 0]) (.bx [jK (iS l c).1,cG (iS l c).2.1,cG (iS l c).2.2]):=by
 rw[iS,if_neg h,hk,N7];simp only;rw[if_neg hl];exact mI (.one (ff.fg hm 0 none))
theorem Q8{l:List bS}{c:Cap}{m:Mem}{id k:Nat}(h:¬(fm c.bX=false\/c.dG<0))(hk:l.findIdx? (λs=>!s.has)=some k)(hm:m[id]? =some (.row 3 (ct (l.set k ⟨true,c⟩)))):
  cN m (.bx [.one (.row id 3 0 none),cG k,cG 0]) (.bx [jK (iS l c).1,cG (iS l c).2.1,cG (iS l c).2.2]):=by
 rw[iS,if_neg h,hk];exact mI (.one (ff.fg hm 0 none))
theorem NS(l:List bS)(hb:l.length<=2097152)(c:Cap):body prog c76 [dE l,.rv c.rv] [] (λr m=>cN m r (.bx [jK (iS l c).1,cG (iS l c).2.1,cG (iS l c).2.2])):=by
 refine xD c.bX ?_;refine aJ (λh=>?_) (λhr=>?_)
 .exact Im (.inl (by simpa using h))
 .refine aJ (λh=>?_) (λho=>?_)
  .exact Im (.inr (of_decide_eq_true h))
  .have fA:¬(fm c.bX=false\/c.dG<0):=by have:=of_decide_eq_false ho;simp at hr;simp[hr];omega
   refine NQ l hb 117 (λs=>!s.has) (λs m K h=>Bs s h) ?_
   cases hk:l.findIdx? (λs=>!s.has)with
   |none=>
    have hi:vp (λs:bS=>!s.has) l= -1:=by rw[vp,hk]
    rw[hi];refine aJ (λh=>?_) (λh=>?_)
    .have eG:l.length>=10:=by have h:=of_decide_eq_true h;simp at h;omega
     exact NR fA hk eG
    .have aD:¬l.length>=10:=by have h:=of_decide_eq_false h;simp at h;omega
     refine pV l hb (λhl=>?_) ?_
     .subst hl;refine⟨by decide,?_⟩
      exact In fA hk aD rfl
     .refine cM (by simp[ct,lenOf]) ?_
      refine⟨by simp[ct,b7];omega,?_⟩
      have hlen:(ct l).length=l.length:=by simp[ct]
      refine af (cy (k:=(l.map bS.enc).length) (by simp[ct,lenOf,b7])) ?_
      refine af (x:=[CC.ah (.val (.bool false)),CC.ah (.val (.int .i64 0)),CC.ah (.val (.int .i64 0))]) (by simp[aV,ct,b7,iN]) ?_
      refine In (id:=3) fA hk aD ?_;refine congrArg (λx=>some (Bk.row 3 x)) ?_
      show aX (ct l++ [[CC.ah (.val (.bool false)),CC.ah (.val (.int .i64 0)),CC.ah (.val (.int .i64 0))]]) (l.map bS.enc).length [CC.ah (.val (.bool true)),CC.ah (.val (.int .i64 c.dG)),CC.ah (.val (.int .i64 c.bX))]=_;rw[bb,N7,<-hlen,adG _ _ (Yj _),ac6];simp[ct,bS.enc]
   |some k=>
    have hi:vp (λs:bS=>!s.has) l=(k:Int):=by rw[vp,hk]
    have gA:k<l.length:=(aaV.1 hk).1;rw[hi];refine pV l hb (λhl=>?_) ?_
    .subst hl;simp at gA
    .have hlen:(ct l).length=l.length:=by simp[ct]
     refine si (by simp[hlen,lenOf];omega) ?_
     refine af (cy (k:=k) (by simp[hlen,lenOf];omega)) ?_
     refine af (x:=(l[k].enc).map .ah) (by simp[aV,ct,iN,gA]) ?_
     refine Q8 (id:=1) fA hk ?_;refine congrArg (λx=>some (Bk.row 3 x)) ?_
     show aX (ct l) k [CC.ah (.val (.bool true)),CC.ah (.val (.int .i64 c.dG)),CC.ah (.val (.int .i64 c.bX))]=_;rw[bb];simp[ct,bS.enc]
theorem NT(l:List bS)(hb:l.length<=2097152)(c:Cap){m:Mem}{K:CV->Mem->Prop}(h:K (.bx [jK (iS l c).1,cG (iS l c).2.1,cG (iS l c).2.2]) m):aq prog 76 [dE l,.rv c.rv] m K:=
 bi (bc func76 l76 (NS l hb c)) (by simp[dE,Cap.rv,CV.dC,CC.dC]) λr m1 hf=>⟨_,hf,h⟩
theorem l16:bz prog f16=some c16:=by kernel_rfl
theorem J9(l:List bS)(fd:Int):body prog c16 [dE l,an .i64 fd] [] (λr m=>r= .bx [(du l fd).1.rv,cG (du l fd).2]):=by
 refine aJ (λh=>?_) (λh=>?_)
 .have h:fd<0:=of_decide_eq_true h;show CV.bx _=CV.bx _;rw[du,if_neg om];rfl
 .have h:¬fd<0:=of_decide_eq_false h;refine aJ (λh2=>?_) (λh2=>?_)
  .have h2:fd>=((l.map bS.enc).length:Int):=of_decide_eq_true h2;simp at h2;show CV.bx _=CV.bx _;rw[du,if_pos om,aaH om];rfl
  .have h2:¬fd>=((l.map bS.enc).length:Int):=of_decide_eq_false h2;simp at h2;have aD:fd.toNat<l.length:=om;have hg:dA (l.map bS.enc) fd=some (l[fd.toNat].enc):=by rw[A3,if_pos om,Tr,vR aD];rfl
   have hs:du l fd=if l[fd.toNat].has then(l[fd.toNat].cap,0)else(⟨0,0⟩,6):=by rw[du,if_pos om,vR aD]
   refine af hg ?_;refine aJ (λh3=>?_) (λh3=>?_)
   .have h3:l[fd.toNat].has=false:=by simpa using h3
    show CV.bx _=CV.bx _;rw[hs,h3];rfl
   .have h3:l[fd.toNat].has=true:=by simpa using h3
    refine af hg ?_;show CV.bx _=CV.bx _;rw[hs,h3];rfl
theorem Q9(l:List bS)(fd:Int){m:Mem}{K:CV->Mem->Prop}(h:K (.bx [(du l fd).1.rv,cG (du l fd).2]) m):aq prog 16 [dE l,an .i64 fd] m K:=
 bC func16 l16 rfl (aap rfl) (J9 l fd) rfl rfl h
theorem l61:bz prog f61=some c61:=by kernel_rfl
def sN(l:List bS)(fd:Int):List bS×Int×Int:=if(du l fd).2=0 then iS l (du l fd).1 else([],0,(du l fd).2)
theorem NU(l:List bS)(hb:l.length<=2097152)(fd:Int):body prog c61 [dE l,an .i64 fd] [] (λr m=>cN m r (.bx [jK (sN l fd).1,cG (sN l fd).2.1,cG (sN l fd).2.2])):=by
 refine xA l fd ?_;refine aJ (λh=>?_) (λh=>?_)
 .have h:¬(du l fd).2=0:=by simpa using h
  rw[sN,if_neg h];exact mI (.one (.aM 3))
 .have h:(du l fd).2=0:=by simpa using h
  rw[sN,if_pos h];refine NT l hb (du l fd).1 ?_;exact cN.self rfl
theorem UP(l:List bS)(hb:l.length<=2097152)(fd:Int){m:Mem}{K:CV->Mem->Prop}(h:K (.bx [jK (sN l fd).1,cG (sN l fd).2.1,cG (sN l fd).2.2]) m):aq prog 61 [dE l,an .i64 fd] m K:=
 bi (bc func61 l61 (NU l hb fd)) (by simp[dE,an,CV.dC,CC.dC]) λr m1 hf=>⟨_,hf,h⟩
end Tb
def c44:LF:= ⟨21,[.tmp 2],(.seq (.ai [qu 2 (.aN qe)]) (.seq (.ai [qu 3 (.aN qe)]) (.seq (.seq (.ai [qm 6 0,qu 7 (.len 1 6),qu 8 (.aN (qi 0))]) (.block 0 (.loop (.seq (.ai [qu 9 (.aL .lss 8 7)]) (.seq (.cond 9 .skip (.exit 0)) (.seq (.block 1 (.seq (.ai [qm 10 8,qu 11 (.cw 3 6 8),qL 12 3 11,qu 5 (.alloc [(.ah (.val (.bool false))),qd 0,qd 0]),qm 4 10,qw (.store 3 5 12)]) (.seq (.ai [qf 13 0 5,ql 14 13]) (.cond 14 (.ai [qm 15 3,qm 16 4,qu 17 (.nI 1 [qd 0] 1 [(0,16)]),qu 18 (.oL 1 8 15 17),qm 3 18]) .skip)))) (.ai [qu 19 (.aL .add 8 (qi 1)),qm 8 19]))))))) (.seq (.ai [qm 20 3,qm 2 20]) .ret))))⟩
def c60:LF:= ⟨43,[.tmp 4,.tmp 5],(.seq (.ai [qu 4 (.aN qe),qu 5 (.aN (qi 0))]) (.seq (.seq (.ai [qm 10 0,qm 11 1,qu 12 (qc 73 [10,11]),qm 9 12,qu 13 (.ext 9 0),qu 14 (.ext 9 1),qu 6 (.alloc [qd 0,qd 0]),qw (.store 2 6 13),qm 7 14]) (.seq (.ai [qm 15 7,qu 16 (.aL .neq 15 (qi 0))]) (.cond 16 (.seq (.ai [qm 17 7,qu 4 (.aN qe),qm 5 17]) .ret) .skip))) (.seq (.ai [qm 18 0,qu 19 (qc 100 [18]),qm 8 19]) (.seq (.ai [qm 20 8,qm 21 1,qu 22 (.build [(.ah (.val (.bool false))),qd 0,qd 0] []),qu 23 (.cw 3 20 21),qw (.store 3 23 22)]) (.seq (.block 0 (.loop (.seq (.seq (.ai [qm 24 8,qu 25 (.len 1 24),qu 26 (.aL .gtr 25 (qi 0)),qm 27 26,qg 28 (.aN 8) 27 true,qg 29 (.aN 8) 27 true,qg 30 (.len 1 29) 27 true,qg 31 (.aL .sub 30 (qi 1)) 27 true,qg 32 (.cw 3 28 31) 27 true,qg 33 (.bY 0 32) 27 true,qg 34 (.load false 1 33) 27 true,qg 35 (.un .not 34) 27 true,qu 36 (.pick 27 35 (qb false))]) (.cond 36 .skip (.exit 0))) (.block 1 (.ai [qm 37 8,qm 38 8,qu 39 (.len 1 38),qu 40 (.aL .sub 39 (qi 1)),qu 41 (.oI 3 37 none (some 40) none),qm 8 41]))))) (.seq (.ai [qm 42 8,qm 4 42,qu 5 (.aN (qi 0))]) .ret))))))⟩
def c96:LF:= ⟨28,[.cell true 2 6,.tmp 7],(.seq (.ai [qu 6 (.alloc [qd 0,qd 0]),qu 7 (.aN (qi 0))]) (.seq (.ai [qm 11 0,qm 12 1,qu 13 (qc 73 [11,12]),qm 10 13,qu 14 (.ext 10 0),qu 15 (.ext 10 1),qu 8 (.alloc [qd 0,qd 0]),qw (.store 2 8 14),qm 9 15]) (.seq (.seq (.ai [qm 16 9,qu 17 (.aL .eql 16 (qi 0)),qm 18 17,qg 19 (.aN 2) 18 true,qg 20 (.bY 1 8) 18 true,qg 21 (.load false 1 20) 18 true,qg 22 (qc 101 [19,21]) 18 true,qg 23 (.un .not 22) 18 true,qu 24 (.pick 18 23 (qb false))]) (.cond 24 (.seq (.ai [qu 25 (.build [qd 0,qd 0] []),qw (.store 2 6 25),qu 7 (.aN (qi 10))]) .ret) .skip)) (.seq (.ai [qL 26 2 8,qm 27 9,qw (.store 2 6 26),qm 7 27]) .ret))))⟩
def c101:LF:= ⟨9,[.tmp 4],(.seq (.ai [qu 4 (.aN (qb false))]) (.seq (.ai [qm 5 0,qm 6 1,qu 7 (.aL .andNot 5 6),qu 8 (.aL .eql 7 (qi 0)),qm 4 8]) .ret))⟩
namespace Tb
theorem l101:bz prog f101=some c101:=by kernel_rfl
def fc(a b:Int):Bool:=(IntKind.i64.wrap ((BitVec.ofInt 64 a&&& ~~~ BitVec.ofInt 64 b).toNat:Int))==0
theorem z6(a b:Int){m:Mem}{K:CV->Mem->Prop}(h:K (aF (fc a b)) m):aq prog 101 [an .i64 a,an .i64 b] m K:=
 bC (r0:=aF (fc a b)) func101 l101 rfl (aap rfl) (show body prog c101 [an .i64 a,an .i64 b] [] (λr m=>r=aF (fc a b))from rfl) rfl rfl h
theorem l96:bz prog f96=some c96:=by kernel_rfl
def oy(l:List bS)(fd need:Int):Cap×Int:=
 if(du l fd).2=0/\fc need (du l fd).1.bX=false then(⟨0,0⟩,10)else du l fd
theorem ug(l:List bS)(fd need:Int):body prog c96 [dE l,an .i64 fd,an .i64 need] [] (λr m=>r= .bx [(oy l fd need).1.rv,cG (oy l fd need).2]):=by
 refine xA l fd ?_;refine aJ (λh=>?_) (λh=>?_)
 .have h:(du l fd).2=0:=by simpa using h
  refine z6 _ _ ?_;refine aJ (λh2=>?_) (λh2=>?_)
  .have h2:fc need (du l fd).1.bX=false:=by simpa using h2
   show CV.bx _=CV.bx _;rw[oy,if_pos ⟨h,h2⟩];rfl
  .have h2:fc need (du l fd).1.bX=true:=by simpa using h2
   show CV.bx _=CV.bx _;rw[oy,if_neg (by simp[h2])];rfl
 .have h:¬(du l fd).2=0:=by simpa using h
  show CV.bx _=CV.bx _;rw[oy,if_neg (by simp[h])];rfl
theorem kY(l:List bS)(fd need:Int){m:Mem}{K:CV->Mem->Prop}(h:K (.bx [(oy l fd need).1.rv,cG (oy l fd need).2]) m):aq prog 96 [dE l,an .i64 fd,an .i64 need] m K:=
 bC func96 l96 rfl (aap rfl) (ug l fd need) rfl rfl h
theorem l44:bz prog f44=some c44:=by kernel_rfl
def ph(l:List Int):List (List Dt):=l.map λi=>[.val (.int .i64 i)]
def NV(l:List Int):CV:= .rv (.one (.ah (.sl 1 (ph l))))
def nY:Nat->List bS->List Int
 |_,[]=>[]
 |k,s::r=>if s.has then(k:Int)::nY (k+1) r else nY (k+1) r
theorem sO:∀(l:List bS)(k:Nat),(nY k l).length<=l.length
 | [],k=>by simp[nY]
 |s::r,k=>by
  have:=sO r (k+1);simp only[nY];split<;>simp<;>omega
theorem z7(l:List bS)(k i:Nat)(h:i<l.length):nY k (l.take (i+1))=if l[i].has then nY k (l.take i)++ [((k+i:Nat):Int)]else nY k (l.take i):=by
 induction l generalizing k i with
 |nil=>simp at h
 |cons s r ih=>
  cases i with
  |zero=>simp[nY]
  |succ i=>
   simp at h;have:=ih (k+1) i h;rw[show k+1+i=k+(i+1) by omega]at this
   simp only[List.take_succ_cons,nY,this,List.getElem_cons_succ];split<;>split<;>simp
theorem NW(l:List bS)(hb:l.length<=2097152):body prog c44 [dE l] [] (λr m=>cN m r (NV (nY 0 l))):=by
 refine sA (λk=>k<=l.length) (λk=>[(8,an .i64 (k:Nat)),(3,.rv (.one (.row 0 1 0 none))),(4,.aH),(5,.aH),(9,.aH),(10,.aH),(11,.aH),(12,.aH),(13,.aH),(14,.aH),(15,.aH),(16,.aH),(17,.aH),(18,.aH),(19,.aH)])
  (λk=>[.row 1 (aa (ph (nY 0 (l.take k))))]) (λk=>l.length-k) 0 (aav _) ?_ (λk hk=>?_)
 .refine View.trans (View.aM 3 1 0 rfl rfl rfl) (View.o1 1 [0] [] ?_)
  .exact .put (by simp[bD]) rfl (.FO (.row 1 []) aC) (.nil _)
 .refine aJ (λh=>?_) (λh=>?_)
  .have aD:k<l.length:=by have h:(k:Int)<((l.map bS.enc).length:Int):=of_decide_eq_true h;simp at h;omega
   have hg:dA (l.map bS.enc) (k:Nat)=some (l[k].enc):=by rw[bG,Tr,vR aD];rfl
   refine af hg ?_;refine aJ (λh3=>?_) (λh3=>?_)
   .have hlen:(nY 0 (l.take k)).length<=2097152:=by have:=sO (l.take k) 0;simp at this;omega
    refine⟨?_,?_⟩
    .show((aa (ph (nY 0 (l.take k)))).length+1)*8<=_;simp[aa,ph];omega
    .refine⟨k+1,aD,?_,View.o 4 [3] [] ?_ ?_⟩
     .show l.length-(k+1)<l.length-k;omega
     .repeat(first|exact .nil|refine .aH ?_|refine .put (.bh (cR om).symm) ?_|refine .eq rfl ?_)
     .refine .put (by simp[bD]) rfl (.bM ?_) (.nil _)
      rw[z7 l 0 k aD,if_pos h3];simp[aa,ph,b7]
   .refine⟨k+1,aD,?_,View.o 2 [0] [] ?_ ?_⟩
    .show l.length-(k+1)<l.length-k;omega
    .repeat(first|exact .nil|refine .aH ?_|refine .put (.bh (cR om).symm) ?_|refine .eq rfl ?_)
    .refine .put (by simp[bD]) rfl (.bM ?_) (.nil _)
     rw[z7 l 0 k aD,if_neg (by simp[h3])]
  .have eG:¬(k:Int)<((l.map bS.enc).length:Int):=of_decide_eq_false h;simp at eG;have e:l.take k=l:=abT eG;rw[e];exact .rv (.one (ff.fg rfl 0 none))
theorem UQ(l:List bS)(hb:l.length<=2097152){m:Mem}{K:CV->Mem->Prop}(h:K (NV (nY 0 l)) m):aq prog 44 [dE l] m K:=
 bi (bc func44 l44 (NW l hb)) (by simp[dE,CV.dC,CC.dC]) λr m1 hf=>⟨_,hf,h⟩
theorem l60:bz prog f60=some c60:=by kernel_rfl
def z8:Nat->Nat->List bS->Nat
 |_,b,[]=>b
 |k,b,s::r=>z8 (k+1) (if s.has then k+1 else b) r
theorem Ge(l:List bS)(k b i:Nat)(h:i<l.length):z8 k b (l.take (i+1))=if l[i].has then k+i+1 else z8 k b (l.take i):=by
 induction l generalizing k b i with
 |nil=>simp at h
 |cons s r ih=>
  cases i with
  |zero=>simp[z8]
  |succ i=>
   simp at h;have:=ih (k+1) (if s.has then k+1 else b) i h
   rw[show k+1+i=k+(i+1) by omega]at this
   simp only[List.take_succ_cons,z8,this,List.getElem_cons_succ]
def qC(l:List bS):Nat:=z8 0 0 l
theorem Gf(l:List bS)(i:Nat)(h:i<l.length):qC (l.take (i+1))=if l[i].has then i+1 else qC (l.take i):=by rw[qC,Ge l 0 0 i h];simp[qC]
def pi:bS:=⟨false,⟨0,0⟩⟩
def mL(l:List bS)(fd:Int):List bS×Int:=
 if(du l fd).2=0 then((l.set fd.toNat pi).take (qC (l.set fd.toNat pi)),0)else([],(du l fd).2)
theorem Io{l:List bS}{fd:Int}(h:(du l fd).2=0):∃k:Nat,fd=k/\∃hk:k<l.length,l[k].has=true/\(du l fd).1=l[k].cap:=by
 unfold du at h;split at h
 .rename_i s hs;split at hs
  .refine⟨fd.toNat,om,(Ki.1 hs).1,?_⟩;have e:=(Ki.1 hs).2;split at h
   .rename_i h0 hh;rw[e];refine⟨hh,?_⟩;rw[du,if_pos h0,hs];simp[hh]
   .simp at h
  .cases hs
 .simp at h
theorem kX{m:Mem}{a b:RV}{x:Int}(h:eZ m a b):cN m (.bx [a,cG x]) (.bx [b,cG x]):=by
 refine .bx rfl λi r r' h1 h2=>?_
 match i,h1,h2 with
 |0,h1,h2=>cases h1;cases h2;exact h
 |1,h1,h2=>cases h1;cases h2;exact eZ.self rfl
theorem DJ{m:Mem}{id h:Nat}{l:List bS}(hm:m[id]? =some (.row 3 (aa (l.map bS.enc)))):ff m (.row id 3 0 (some h)) (.ah (re (l.take h))):=by
 have h1:ff m (.row id 3 0 (some h)) (.ah (.sl 3 (b7 (l.map bS.enc) 0 (some h)))):=ff.fg hm 0 (some h);have h2:b7 (l.map bS.enc) 0 (some h)=(l.take h).map bS.enc:=by simp[b7,adg]
 rw[h2]at h1;exact h1
theorem Gg(l:List bS)(hb:l.length<=2097152)(fd:Int):body prog c60 [dE l,an .i64 fd] [] (λr m=>cN m r (.bx [jK (mL l fd).1,cG (mL l fd).2])):=by
 refine xA l fd ?_;refine aJ (λh=>?_) (λh=>?_)
 .have h:¬(du l fd).2=0:=by simpa using h
  rw[mL,if_neg h];exact kX (.one (.aM 3))
 .have h:(du l fd).2=0:=by simpa using h
  rw[mL,if_pos h];obtain⟨k,rfl,hk,X2,_⟩:=Io h;refine pV l hb (λhl=>by subst hl;simp at hk) ?_
  refine af (cy (k:=k) (by simp[ct,lenOf];omega)) ?_
  refine af (x:=(l[k].enc).map .ah) (by simp[aV,ct,iN,hk]) ?_
  have jC:aX (ct l) (iN 0 k) [CC.ah (.val (.bool false)),CC.ah (.val (.int .i64 0)),CC.ah (.val (.int .i64 0))]=aa ((l.set k pi).map bS.enc):=by rw[bb];simp[ct,bS.enc,aa,iN,pi]
  have hlen:(l.set k pi).length=l.length:=aC;rw[show((k:Nat):Int).toNat=k from rfl];generalize l.set k pi=l2 at jC hlen;refine sA (λh=>h<=l2.length/\qC (l2.take h)=qC l2) (λh=>[(8,.rv (.one (.row 1 3 0 (some h)))),(24,.aH),(25,.aH),(26,.aH),(27,.aH),(28,.aH),(29,.aH),(30,.aH),(31,.aH),(32,.aH),(33,.aH),(34,.aH),(35,.aH),(36,.aH),(37,.aH),(38,.aH),(39,.aH),(40,.aH),(41,.aH),(19,.aH),(20,.aH),(23,.aH)])
   (λh=>[.aU,.row 3 (aa (l2.map bS.enc))]) (λh=>h) l2.length ⟨Yj _,by rw[aaZ]⟩ ?_ (λh hh=>?_)
  .refine View.o 2 [0,1] [] ?_ ?_
   .repeat(first|exact .nil|refine .aH ?_|refine .put (.hi rfl rfl ((congrArg List.length jC).trans (by simp[aa]))) ?_|refine .eq rfl ?_)
   .exact .aU (.put (by simp[bD]) rfl (.bM jC) (.nil _))
  .refine aJ (λh2=>?_) (λh2=>?_)
   .have h2:0<h:=by have h2:((h:Nat):Int)>0:=of_decide_eq_true h2;omega
    obtain⟨j,rfl⟩:∃j,h=j+1:=⟨h-1,om⟩;have hj:j<l2.length:=om;have hi:(IntKind.i64.wrap (((j+1:Nat):Int)-1))=((j:Nat):Int):=by rw[<-ot (n:=j) om];congr 1;omega
    have tY:d5 (IntKind.i64.wrap (((j+1:Nat):Int)-1)) (j+1)=some j:=by rw[hi];exact cy om
    refine af tY ?_;refine af (x:=(l2[j].enc).map .ah) (by simp[aV,aa,iN,hj]) ?_
    have ht:=Gf l2 j hj;refine aJ (λh3=>?_) (λh3=>?_)
    .have h3:l2[j].has=false:=by simpa using h3
     refine af (x:=j) (by show qS (.rv (.one (.ah (.val (.int .i64 (IntKind.i64.wrap (((j+1:Nat):Int)-1)))))))=_;rw[hi];rfl) ?_
     refine cM (by simp[lenOf,abe,aa];try omega) ?_
     refine⟨j,⟨om,by rw[h3]at ht;simp at ht;rw[<-ht];exact hh.2⟩,ab6 j,View.o1 2 [0,1] [] ?_⟩
     .exact .aU (.put (by simp[bD]) rfl (.bM rfl) (.nil _))
    .have h3:l2[j].has=true:=by simpa using h3
     have:qC l2=j+1:=by rw[<-hh.2,ht,if_pos h3]
     rw[this];exact kX (.one (DJ rfl))
   .have h2:h=0:=by have h2:¬((h:Nat):Int)>0:=of_decide_eq_false h2;omega
    subst h2;have:qC l2=0:=by rw[<-hh.2];rfl
    rw[this];exact kX (.one (DJ rfl))
theorem NX(l:List bS)(hb:l.length<=2097152)(fd:Int){m:Mem}{K:CV->Mem->Prop}(h:K (.bx [jK (mL l fd).1,cG (mL l fd).2]) m):aq prog 60 [dE l,an .i64 fd] m K:=
 bi (bc func60 l60 (Gg l hb fd)) (by simp[dE,an,CV.dC,CC.dC]) λr m1 hf=>⟨_,hf,h⟩
end Tb
def c29:LF:= ⟨22,[.tmp 4],(.seq (.ai [qu 2 (.box 0),qu 4 (.aN (qb false))]) (.seq (.ai [qm 5 1,qu 6 (.aL .geq 5 (qi 0)),qm 7 6,qg 8 (.aN 1) 7 true,qg 9 (.bY 2 2) 7 true,qg 10 (.load false 1 9) 7 true,qg 11 (.len 1 10) 7 true,qg 12 (.aL .lss 8 11) 7 true,qu 13 (.pick 7 12 (qb false)),qm 14 13,qg 15 (.bY 2 2) 14 true,qg 16 (.load false 1 15) 14 true,qg 17 (.aN 1) 14 true,qg 18 (.cw 4 16 17) 14 true,qg 19 (.bY 0 18) 14 true,qg 20 (.load false 1 19) 14 true,qu 21 (.pick 14 20 (qb false)),qm 4 21]) .ret))⟩
def c113:LF:= ⟨19,[.tmp 4],(.seq (.ai [qu 4 (.aN (qi 0))]) (.seq (.seq (.ai [qm 6 0,qu 7 (.len 1 6),qu 8 (.aN (qi 0))]) (.block 0 (.loop (.seq (.ai [qu 9 (.aL .lss 8 7)]) (.seq (.cond 9 .skip (.exit 0)) (.seq (.block 1 (.seq (.ai [qm 10 8,qm 5 10]) (.seq (.ai [qm 11 1,qm 12 0,qm 13 5,qu 14 (.cw 2 12 13),qL 15 2 14,qu 16 (.call 11 [15])]) (.cond 16 (.seq (.ai [qm 17 5,qm 4 17]) .ret) .skip)))) (.ai [qu 18 (.aL .add 8 (qi 1)),qm 8 18]))))))) (.seq (.ai [qu 4 (.aN (qi (-1)))]) .ret)))⟩
def c114:LF:= ⟨6,[.tmp 2],(.seq (.ai [qu 1 (.box 0),qu 2 (.aN (qb false))]) (.seq (.ai [qf 3 0 1,ql 4 3,qu 5 (.aL .lss 4 (qi 0)),qm 2 5]) .ret))⟩
def c118:LF:= ⟨37,[.tmp 2],(.seq (.ai [qu 2 (.aN (qi 0))]) (.seq (.seq (.ai [qu 5 (.aN (qi 0))]) (.block 0 (.loop (.seq (.ai [qu 6 (.aL .lss 5 (qi 8))]) (.seq (.cond 6 .skip (.exit 0)) (.seq (.block 1 (.seq (.ai [qm 7 5,qu 3 (.alloc [qd 0]),qw (.store 1 3 7)]) (.seq (.seq (.bV [ql 8 3,qm 9 0,qu 10 (.aR 9),qf 11 2 10,ql 12 11,qu 13 (.len 1 12),qu 14 (.aL .eql 8 13)] [eE 7 0 .nil]) (.cond 14 (.seq (.ai [ql 15 3,qm 2 15]) .ret) .skip)) (.seq (.ai [qm 16 0,qu 17 (.aR 16),qf 18 0 17,ql 19 18,qu 20 (.fn 141 [3]),qu 21 (qc 80 [19,20]),qm 4 21]) (.seq (.bV [qm 22 0,qu 23 (.aR 22),qf 24 2 23,ql 25 24,ql 26 3,qu 27 (.cw 4 25 26),qf 28 0 27,ql 29 28,qu 30 (.un .not 29),qm 31 30,qg 32 (.aN 4) 31 true,qg 33 (.un .not 32) 31 true,qu 34 (.pick 31 33 (qb false))] [eE 13 0 .nil]) (.cond 34 (.seq (.ai [ql 35 3,qm 2 35]) .ret) .skip)))))) (.ai [qu 36 (.aL .add 5 (qi 1)),qm 5 36]))))))) (.seq (.ai [qu 2 (.aN (qi (-1)))]) .ret)))⟩
def c141:LF:= ⟨13,[.tmp 3],(.seq (.ai [qu 2 (.box 0),qu 3 (.aN (qb false))]) (.seq (.ai [qf 4 0 2,ql 5 4,qu 6 (.aL .eql 5 (qi 5)),qm 7 6,qg 8 (.bY 6 2) 7 true,qg 9 (.load false 1 8) 7 true,qg 10 (.load false 1 1) 7 true,qg 11 (.aL .eql 9 10) 7 true,qu 12 (.pick 7 11 (qb false)),qm 3 12]) .ret))⟩
theorem l29:bz prog Tryz.f29=some c29:=by kernel_rfl
def fN(ps:List bl)(p:Int):Bool:=decide (p>=0)&&(decide (p<ps.length)&&match ps[p.toNat]? with|some x=>x.aO|none=>false)
theorem Gh(l:List Obj)(ops:List bI)(ps:List bl)(p:Int):body prog c29 [eJ l ops ps,an .i64 p] [] (λr m=>r=aF (fN ps p)):=by
 refine aP (λh0=>?_) (λh0=>?_)
 .obtain⟨n,rfl⟩:∃n:Nat,p=n:=⟨p.toNat,om⟩;refine aP (λh=>?_) (λh=>?_)
  .have aD:n<ps.length:=by have h:(n:Int)<((ps.map bl.enc).length:Int):=h;rw[N7]at h;omega
   refine af (dJ aD) ?_;have hS:fN ps (n:Int)=ps[n].aO:=by simp[fN,aD]
   show aF _=aF _;rw[hS]
  .have eG:¬n<ps.length:=by have h:¬(n:Int)<((ps.map bl.enc).length:Int):=h;rw[N7]at h;omega
   have hS:fN ps (n:Int)=false:=by simp[fN,eG]
   show aF _=aF _;rw[hS]
 .have hS:fN ps p=false:=by have:decide (p>=0)=false:=decide_eq_false h0;simp[fN,this]
  show aF _=aF _;rw[hS]
theorem pj(l:List Obj)(ops:List bI)(ps:List bl)(p:Int){m:Mem}{K:CV->Mem->Prop}(h:K (aF (fN ps p)) m):aq prog 29 [eJ l ops ps,an .i64 p] m K:=
 bC func29 l29 rfl (aap rfl) (Gh l ops ps p) (by simp[eJ,dt,fh,gE,an,CV.dC,CC.dC,RV.dC]) rfl h
theorem pl{ps:List bl}{p:Int}(h:fN ps p=true):∃n:Nat,p=n/\∃hn:n<ps.length,ps[n].aO=true:=by
 unfold fN at h;by_cases h0:p>=0
 .obtain⟨n,rfl⟩:∃n:Nat,p=n:=⟨p.toNat,om⟩;by_cases hn:n<ps.length
  .refine⟨n,rfl,hn,?_⟩;simpa[hn]using h
  .simp[hn]at h
 .simp[h0]at h
theorem Ra{ps:List bl}{n:Nat}(hn:n<ps.length)(h:ps[n].aO=true):fN ps (n:Int)=true:=by simp[fN,hn,h]
theorem l118:bz prog f118=some c118:=by kernel_rfl
theorem l141:bz prog f141=some c141:=by kernel_rfl
theorem Gi(o:Obj)(p:Int):body prog c141 [o.cv,.rv (.one (.ptr 0 0))] [.var ([Dt.val (.int .i64 p)].map .ah)] (λr m=>r=aF (dL p o)/\∃ex,m= .var ([Dt.val (.int .i64 p)].map .ah)::ex):=by
 refine aJ (λh=>?_) (λh=>?_)
 .refine⟨?_,_,rfl⟩;show aF _=aF _;rw[dL,h];rfl
 .refine⟨?_,_,rfl⟩;show aF _=aF _;rw[dL,h];rfl
theorem X3(o:Obj)(p:Int)(K:CV->Mem->Prop)(h:K (aF (dL p o)) [.var ([Dt.val (.int .i64 p)].map .ah)]):aq prog 141 [o.cv,.rv (.one (.ptr 0 0))] [.var ([Dt.val (.int .i64 p)].map .ah)] K:=
 e7 rfl (bc func141 l141 (Gi o p)) h
def sP(l:List Obj)(ps:List bl)(p:Nat):Bool:=match ps[p]? with
 |some x=>!x.aO&& !(l.any (dL (p:Nat)))
 |none=>false
def po(l:List Obj)(ps:List bl):Nat->Nat->Int
 |0,_=>-1
 |n+1,p=>if p=ps.length then(p:Nat)else if sP l ps p=true then(p:Nat)else po l ps n (p+1)
def hU(l:List Obj)(ps:List bl):Int:=po l ps 8 0
def kC(l:List Obj)(ops:List bI)(ps:List bl):List Dt:=[dt l,fh ops,gE ps]
theorem uf(l:List Obj)(hl:l.length<=4194304)(ops:List bI)(ps:List bl):body prog c118 [.rv (.one (.ptr 0 0))] [.var ((kC l ops ps).map .ah)] (λr m=>r=an .i64 (hU l ps)/\∃ex,m= .var ((kC l ops ps).map .ah)::ex):=by
 refine ba (λp=>p<=8/\p<=ps.length/\po l ps (8-p) p=hU l ps) [0] (λp=>[(5,an .i64 (p:Nat))]) (λ_=>[.var ((kC l ops ps).map .ah)]) (λp=>8-p) 0 ⟨om,aav _,rfl⟩ ?_ (λp hp=>?_)
 .refine View.o1 1 [0] [] ?_
  .exact .au
 obtain⟨hp8,jY,LU⟩:=hp;have hp8:p<=8:=hp8;have jY:p<=ps.length:=jY;have LU:po l ps (8-p) p=hU l ps:=LU;refine aP (λh=>?_) (λh=>?_)
 .have aD:p<8:=by have h:(p:Int)<8:=h;omega
  rw[show 8-p=(8-(p+1))+1 by omega,po]at LU
  refine bu (λhe=>?_) (λhe=>?_)
  .have he:p=ps.length:=by have he:(p:Int)=((ps.map bl.enc).length:Int):=he;rw[N7]at he;omega
   rw[if_pos he]at LU;rw[<-LU];exact⟨rfl,_,rfl⟩
  .have dy:¬p=ps.length:=by intro hh;apply he;show(p:Int)=((ps.map bl.enc).length:Int);rw[N7];omega
   rw[if_neg dy]at LU;have C6:p<ps.length:=om;have Qt:sP l ps p=(!ps[p].aO&& !(l.any (dL (p:Nat)))):=by rw[sP,vR C6]
   refine fC (args0:=[cC l,.rv (.one (.fn 141 [0]))]) (cs:=[.val (.int .i64 (p:Nat))]) 1 rfl rfl (r0:=aF (l.any (dL (p:Int)))) rfl (λK hK=>ua l hl 141 _ _ (λs K hK=>X3 s _ K hK) K hK) ?_
   refine af (dJ C6) ?_;rw[Qt]at LU;have go:(!ps[p].aO&& !(l.any (dL (p:Nat))))=false->po l ps (8-(p+1)) (p+1)=hU l ps:=λhh=>by
    rw[if_neg (by rw[hh];simp)]at LU;exact LU
   refine aJ (λh1=>?_) (λh1=>?_)
   .refine aJ (λh2=>?_) (λh2=>?_)
    .rw[if_pos (by rw[h1,h2];rfl)]at LU
     rw[<-LU];exact⟨rfl,_,rfl⟩
    .refine⟨p+1,⟨om,om,go (by rw[h2,Bool.and_false])⟩,(show 8-(p+1)<8-p by omega),View.o2 2 [0] [] ?_⟩
     .exact .au
   .refine⟨p+1,⟨om,om,go (by rw[h1,Bool.false_and])⟩,(show 8-(p+1)<8-p by omega),View.o2 2 [0] [] ?_⟩
    .exact .au
 .have hp:p=8:=by have h:¬(p:Int)<8:=h;omega
  subst hp;rw[show hU l ps= -1 from LU.symm];exact⟨rfl,_,rfl⟩
theorem Bs(l:List Obj)(hl:l.length<=4194304)(ops:List bI)(ps:List bl)(K:CV->Mem->Prop)(h:K (an .i64 (hU l ps)) [.var ((kC l ops ps).map .ah)]):aq prog 118 [.rv (.one (.ptr 0 0))] [.var ((kC l ops ps).map .ah)] K:=
 e7 rfl (bc func118 l118 (uf l hl ops ps)) h
theorem l113:bz prog f113=some c113:=by kernel_rfl
theorem l114:bz prog f114=some c114:=by kernel_rfl
def bI.cv(o:bI):CV:= .rv (.agg (o.enc.map .ah))
theorem Gj(o:bI):body prog c114 [o.cv] [] (λr m=>r=aF (decide (o.bp<0))):=by show aF _=aF _;rfl
theorem X4(o:bI){m:Mem}{K:CV->Mem->Prop}(h:K (aF (decide (o.bp<0))) m):aq prog 114 [o.cv] m K:=
 bC func114 l114 rfl (aap rfl) (Gj o) rfl rfl h
def EX(l:List bI):Option Nat:=l.findIdx? λo=>decide (o.bp<0)
def LV(l:List bI):Int:=match EX l with|some i=>(i:Nat)|none=>-1
theorem Ka(l:List bI)(hb:l.length<=4194304):body prog c113 [.rv (.one (.ah (fh l))),.rv (.one (.fn 114 []))] [] (λr m=>r=an .i64 (LV l)):=by
 refine ba (λk=>k<=l.length/\∀(i:Nat)s,i<k->l[i]? =some s->¬s.bp<0) [0,1,7] (λk=>[(8,an .i64 (k:Nat))]) (λ_=>[]) (λk=>l.length-k) 0 ⟨aav _,λi s h=>absurd h (aa9 i)⟩ ?_ (λk hk=>?_)
 .refine View.o1 0 [] [] (.nil _)
 obtain⟨gA,UC⟩:=hk;have gA:k<=l.length:=gA;refine aP (λh=>?_) (λh=>?_)
 .have aD:k<l.length:=by have h:(k:Int)<((l.map bI.enc).length:Int):=h;rw[N7]at h;omega
  refine af (nX aD) ?_;refine X4 l[k] ?_;refine aP (λh3=>?_) (λh3=>?_)
  .show an _ _=an _ _;have:EX l=some k:=by
    rw[EX,aaV];exact⟨aD,by simpa using h3,λj hj=>by simpa using UC j _ hj (vR om)⟩
   rw[LV,this]
  .refine⟨k+1,⟨aD,λi s hi hs=>?_⟩,(show l.length-(k+1)<l.length-k by omega),View.o 0 [] [] ?_ (.nil _)⟩
   .rcases aag i k with h5|h5
    .exact UC i s h5 hs
    .have:i=k:=om;subst this;rw[vR aD]at hs;cases hs;exact h3
   .repeat(first|exact .nil|refine .aH ?_|refine .put (.bh (cR om).symm) ?_|refine .eq rfl ?_)
 .have eG:k=l.length:=by have h:¬(k:Int)<((l.map bI.enc).length:Int):=h;rw[N7]at h;omega
  show an _ _=an _ _;have:EX l=none:=by rw[EX,ac5];intro s hs;obtain⟨i,hi⟩:=aab hs;have:=(Ki.1 hi).1;simpa using UC i s om hi
  rw[LV,this]
theorem Ip(l:List bI)(hb:l.length<=4194304){m:Mem}{K:CV->Mem->Prop}(h:K (an .i64 (LV l)) m):aq prog 113 [.rv (.one (.ah (fh l))),.rv (.one (.fn 114 []))] m K:=
 bC func113 l113 rfl (aap rfl) (Ka l hb) (by simp[fh,CV.dC,CC.dC,RV.dC]) rfl h
def c78:LF:= ⟨36,[.cell true 3 6,.tmp 7],(.seq (.ai [qu 3 (.box 0),qu 6 (.alloc [.aM,.aM,.aM]),qu 7 (.aN (qi 0))]) (.seq (.seq (.ai [qL 9 3 3,qm 10 1,qu 11 (qc 29 [9,10]),qu 12 (.un .not 11)]) (.cond 12 (.seq (.ai [qu 13 (.build [.aM,.aM,.aM] []),qw (.store 3 6 13),qu 7 (.aN (qi 6))]) .ret) .skip)) (.seq (.seq (.ai [qm 14 2,qu 15 (.aL .lss 14 (qi 0)),qm 16 15,qg 17 (.aN 2) 16 false,qg 18 (.aL .gtr 17 (qi 255)) 16 false,qu 19 (.pick 16 (qb true) 18)]) (.cond 19 (.seq (.ai [qu 20 (.build [.aM,.aM,.aM] []),qw (.store 3 6 20),qu 7 (.aN (qi 3))]) .ret) .skip)) (.seq (.ai [qL 21 3 3,qu 22 (qc 59 [21]),qu 8 (.alloc [.aM,.aM,.aM]),qw (.store 3 8 22)]) (.seq (.bV [qf 23 2 8,ql 24 23,qm 25 1,qf 26 2 3,ql 27 26,qm 28 1,qu 29 (.cw 4 27 28),qf 30 1 29,ql 31 30,qm 32 2,qu 33 (.build [(.ah (.val (.bool false))),(.ah (.val (.bool false))),qd 0,.aM] [(1,1,31),(2,1,32)]),qu 34 (.cw 4 24 25),qw (.store 4 34 33)] [(eE 12 0 (.cons 12 (some []) .nil))]) (.cX (.seq (.ai [qL 35 3 8,qw (.store 3 6 35),qu 7 (.aN (qi 0))]) .ret)))))))⟩
theorem l78:bz prog f78=some c78.er:=by kernel_rfl
def jx(k:Kr):RV:= .agg [.ah (dt k.l),.ah (fh k.ops),.ah (gE k.ps)]
def nZ:Kr:=⟨[],[],[]⟩
def gD(k:Kr)(p code:Int):Kr×Int:=
 if fN k.ps p=false then(nZ,6)else if code<0\/code>255 then(nZ,3)
 else(⟨k.l,k.ops,k.ps.set p.toNat ⟨false,(match k.ps[p.toNat]? with|some x=>x.fenced|none=>false),code,[]⟩⟩,0)
theorem il{m:Mem}:eZ m (.agg [.aM,.aM,.aM]) (jx nZ):=by
 refine .agg rfl λi c c' h1 h2=>?_
 match i,h1,h2 with
 |0,h1,h2=>cases h1;cases h2;exact .aM 9
 |1,h1,h2=>cases h1;cases h2;exact .aM 2
 |2,h1,h2=>cases h1;cases h2;exact .aM 4
 |n+3,h1,h2=>simp at h1
theorem Bt(k:Kr):(jx k).dC=true:=by simp[jx,dt,fh,gE,CV.dC,CC.dC,RV.dC]
theorem NY{m:Mem}{Z:Nat->Prop}{p:Option Nat}{id:Nat}{ps:List bl}{k:Nat}{c:List CC}{x:bl}(hc:kN m Z (some id) c x.enc)(hz:Z id)(hm:m[id]? =some (.row 4 (aX (aa (ps.map bl.enc)) k c))):
  d6 m Z p (.row id 4 0 none) (gE (ps.set k x)):=by
 rw[bb]at hm;refine d6.row id 4 0 none _ _ hz hm (by simp[aa]) (λi cs es h1 h2=>?_) (λi cs es j c' d h1 h2 h3 h4=>?_)
 .rw[abb]at h1;rw[Tr,abb]at h2;by_cases e:k=i
  .subst e;rw[if_pos rfl]at h1 h2;split at h1
   .cases h1;split at h2
    .cases h2;exact hc.len
    .cases h2
   .cases h1
  .rw[if_neg e]at h1 h2;rw[aa,Tr,Tr]at h1;cases hi:ps[i]? with
   |none=>rw[hi]at h1;cases h1
   |some y=>rw[hi]at h1 h2;cases h1;cases h2;simp
 .rw[abb]at h1;rw[Tr,abb]at h2;by_cases e:k=i
  .subst e;rw[if_pos rfl]at h1 h2;split at h1
   .cases h1;split at h2
    .cases h2;exact hc.get j _ _ h3 h4
    .cases h2
   .cases h1
  .rw[if_neg e]at h1 h2;rw[aa,Tr,Tr]at h1;cases hi:ps[i]? with
   |none=>rw[hi]at h1;cases h1
   |some y=>
    rw[hi]at h1 h2;cases h1;cases h2;have h4:y.enc[j]? =some d:=h4;rw[Tr,h4]at h3;cases h3;exact .ah d
def G15:LC:=rc (bP (bP (bP (bP (bP c78.code)))))
theorem Kb(k:Kr)(hk:dP k.l k.ops k.ps)(p code:Int):body prog c78 [eJ k.l k.ops k.ps,an .i64 p,an .i64 code] [] (λr m=>cN m r (.bx [jx (gD k p code).1,cG (gD k p code).2])):=by
 refine pj k.l k.ops k.ps p ?_;refine aJ (λh1=>?_) (λh1=>?_)
 .have h1:fN k.ps p=false:=by simpa using h1
  rw[gD,if_pos h1];exact kX il
 have h1:fN k.ps p=true:=by simpa using h1
 obtain⟨n,rfl,hn,bK⟩:=pl h1;rw[gD,if_neg (by rw[h1];simp)]
 refine aP (λh2=>?_) (λh2=>?_)
 .rw[if_pos (.inl h2)];exact kX il
 refine aP (λh3=>?_) (λh3=>?_)
 .rw[if_pos (.inr h3)];exact kX il
 rw[if_neg (λh=>h.elim h2 h3)]
 refine i4 k.l k.ops k.ps ⟨hk.ll,λo ho=>(hk.sm o ho).oD⟩ hk.lo hk.lp hk.sl hk.ne ?_
 have hg:=dJ hn;have hr:=bN bl.enc k.ps hn;have hx:(match k.ps[((n:Nat):Int).toNat]? with|some x=>x.fenced|none=>false)=k.ps[n].fenced:=by rw[show((n:Nat):Int).toNat=n from rfl,vR hn]
 rw[hx,show((n:Nat):Int).toNat=n from rfl];generalize k.ps[n]=y at hg hr;obtain⟨aO,fenced,cd,aQ⟩:=y;refine af hg ?_;refine af (mJ hn) ?_;refine af hr ?_;have d9:aw prog 0 G15 (oR prog c78.me (λr m=>cN m r (.bx [jx ⟨k.l,k.ops,k.ps.set n ⟨false,fenced,code,[]⟩⟩,cG 0]))) ⟨kT 36 [(6,.rv (.one (.ptr 1 0))),(8,.rv (.one (.ptr 2 0)))],[.var ((kC k.l k.ops k.ps).map .ah),.var [.aM,.aM,.aM],.var ((kC k.l k.ops (k.ps.set n ⟨false,fenced,code,[]⟩)).map .ah)]⟩:=by exact kX (eZ.self (Bt _))
 refine⟨?_,_,View.o 6 [0,1,5] [2,3,4] ?_ ?_,d9⟩
 .exact trivial
 .repeat(first|exact .nil|refine .aH ?_|refine .eq rfl ?_)
 .refine .pt rfl rfl (.eq rfl (by simp[kC])) (.pe rfl rfl rfl (.pt rfl rfl (fv.var (.cons (.fT (d6.fg (Z:=λk=>bD [2,3,4] k=true) rfl rfl 0 none)) (.cons (.fT (d6.fg (Z:=λk=>bD [2,3,4] k=true) rfl rfl 0 none)) (.cons (.fT (NY (Z:=λk=>bD [2,3,4] k=true) ?_ rfl rfl)) .nil)))) (.nil _)))
  exact .cons (.ah _) (.cons (.ah _) (.cons (.ah _) (.cons (.aM 3) .nil)))
theorem Bu(k:Kr)(hk:dP k.l k.ops k.ps)(p code:Int){m:Mem}{K:CV->Mem->Prop}(h:K (.bx [jx (gD k p code).1,cG (gD k p code).2]) m):aq prog 78 [eJ k.l k.ops k.ps,an .i64 p,an .i64 code] m K:=
 bi (cj func78 l78 (Kb k hk p code)) (by simp[eJ,dt,fh,gE,an,CV.dC,CC.dC,RV.dC]) λr m1 hf=>⟨_,hf,h⟩
def c72:LF:= ⟨74,[.cell true 3 8,.tmp 9,.tmp 10],(.seq (.ai [qu 4 (.box 0),qu 8 (.alloc [.aM,.aM,.aM]),qu 9 (.aN (qi 0)),qu 10 (.aN (qi 0))]) (.seq (.ai [qf 16 1 4,ql 17 16,qu 18 (qc 113 [17,(.c (.rv (.one (.fn 114 []))))]),qm 11 18]) (.seq (.seq (.ai [qm 19 11,qu 20 (.aL .lss 19 (qi 0))]) (.cond 20 (.seq (.seq (.ai [qf 21 1 4,ql 22 21,qu 23 (.len 1 22),qu 24 (.aL .geq 23 (qi 60))]) (.cond 24 (.seq (.ai [qu 25 (.build [.aM,.aM,.aM] []),qw (.store 3 8 25),qu 9 (.aN (qi 0)),qu 10 (.aN (qi 15))]) .ret) .skip)) (.ai [qf 26 1 4,ql 27 26,qu 28 (.len 1 27),qm 11 28])) .skip)) (.cX (.seq (.ai [qf 30 2 4,ql 31 30,qm 32 1,qu 33 (.cw 4 31 32),qf 34 3 33,ql 35 34,qm 36 11,qm 37 3,qu 38 (.build [qd 0,qd 0] [(0,1,36),(1,1,37)]),qu 39 (qc 76 [35,38]),qm 29 39,qu 40 (.ext 29 0),qu 41 (.ext 29 1),qu 42 (.ext 29 2),qm 12 40,qm 13 41,qm 14 42]) (.seq (.seq (.ai [qm 43 14,qu 44 (.aL .neq 43 (qi 0))]) (.cond 44 (.seq (.ai [qu 45 (.build [.aM,.aM,.aM] []),qm 46 14,qw (.store 3 8 45),qu 9 (.aN (qi 0)),qm 10 46]) .ret) .skip)) (.seq (.ai [qL 47 3 4,qu 48 (qc 59 [47]),qu 15 (.alloc [.aM,.aM,.aM]),qw (.store 3 15 48)]) (.seq (.seq (.ai [qm 49 11,qf 50 1 15,ql 51 50,qu 52 (.len 1 51),qu 53 (.aL .eql 49 52)]) (.cond 53 (.ai [qf 54 1 15,ql 55 54,qu 56 (.build [qd 0,qd 0] []),qu 57 (.nI 2 [qd 0,qd 0] 1 [(0,56)]),qu 58 (.oL 2 16 55 57),qf 59 1 15,qw (.store 1 59 58)]) .skip)) (.cX (.seq (.ai [qf 60 1 15,ql 61 60,qm 62 11,qm 63 2,qu 64 (.build [qd 0,qd 0] [(0,1,63)]),qu 65 (.cw 2 61 62),qw (.store 2 65 64)]) (.seq (.ai [qf 66 2 15,ql 67 66,qm 68 1,qm 69 12,qu 70 (.cw 4 67 68),qf 71 3 70,qw (.store 1 71 69)]) (.seq (.ai [qL 72 3 15,qm 73 13,qw (.store 3 8 72),qm 9 73,qu 10 (.aN (qi 0))]) .ret))))))))))))⟩
theorem l72:bz prog f72=some c72.er:=by kernel_rfl
def i7(s:eA):Tb.bS:=⟨s.has,⟨s.dG,s.bX⟩⟩
def Iq(s:Tb.bS):eA:=⟨s.has,s.cap.dG,s.cap.bX⟩
theorem Rb(l:List eA):(l.map i7).map Tb.bS.enc=l.map eA.enc:=by rw[abJ];rfl
theorem Rc(l:List Tb.bS):(l.map Iq).map eA.enc=l.map Tb.bS.enc:=by rw[abJ];rfl
theorem uh(l:List eA):Tb.re (l.map i7)=y8 l:=by rw[Tb.re,Rb];rfl
theorem pW(l:List Tb.bS):Tb.jK l=Nt (l.map Iq):=by show RV.one (.ah (.sl 3 (l.map Tb.bS.enc)))= .one (.ah (.sl 3 ((l.map Iq).map eA.enc)));rw[Rc]
def fw(l:List eA)(dG bX:Int):List eA×Int×Int:=((Tb.iS (l.map i7) ⟨dG,bX⟩).1.map Iq,(Tb.iS (l.map i7) ⟨dG,bX⟩).2.1,(Tb.iS (l.map i7) ⟨dG,bX⟩).2.2)
theorem Bv(l:List eA)(hb:l.length<=2097152)(dG bX:Int){m:Mem}{K:CV->Mem->Prop}(h:K (.bx [Nt (fw l dG bX).1,cG (fw l dG bX).2.1,cG (fw l dG bX).2.2]) m):
  aq prog 76 [ma l,.rv (.agg [.ah (.val (.int .i64 dG)),.ah (.val (.int .i64 bX))])] m K:=by
 have:=Tb.NT (l.map i7) (by simpa using hb) ⟨dG,bX⟩ (m:=m) (K:=K) (by rw[pW];exact h)
 have e:Tb.dE (l.map i7)=ma l:=by show CV.rv (.one (.ah (Tb.re (l.map i7))))=_;rw[uh];rfl
 rw[e]at this;exact this
def cY(ops:List bI):Nat:=(EX ops).getD ops.length
def ap(ps:List bl)(n:Nat):List eA:=match ps[n]? with|some x=>x.aQ|none=>[]
def jy(ops:List bI)(i:Nat)(o:bI):List bI:=if i=ops.length then ops++ [o]else ops.set i o
def cS(ps:List bl)(n:Nat)(l:List eA):List bl:=match ps[n]? with|some x=>ps.set n {x with aQ:=l}|none=>ps
def aE(k:Kr)(n:Nat)(bp bX:Int):Kr×Int×Int:=
 if EX k.ops=none/\k.ops.length>=60 then(nZ,0,15)
 else if(fw (ap k.ps n) (cY k.ops) bX).2.2≠0 then(nZ,0,(fw (ap k.ps n) (cY k.ops) bX).2.2)
 else(⟨k.l,jy k.ops (cY k.ops) ⟨bp,0⟩,cS k.ps n (fw (ap k.ps n) (cY k.ops) bX).1⟩,(fw (ap k.ps n) (cY k.ops) bX).2.1,0)
theorem Bw{ops:List bI}{i:Nat}(h:EX ops=some i):i<ops.length:=(aaV.1 h).1
def C30:LC:=bP (bP (bP c72.code))
def G30:LC:=rc C30
def C60:LC:=bP (bP (bP (bP G30)))
def G60:LC:=rc C60
def M60(l:List Obj)(O:List bI)(ps:List bl):Mem:=[.var [.aM,.aM,.aM],.row 9 (aa (l.map Obj.enc)),.row 2 (aa (O.map bI.enc)),.row 4 (aa (ps.map bl.enc)),.var [.row 1 9 0 none,.row 2 2 0 none,.row 3 4 0 none]]
theorem X5{m:Mem}{a b c:Nat}{l:List Obj}{ops:List bI}{ps:List bl}(h1:m[a]? =some (.row 9 (aa (l.map Obj.enc))))(h2:m[b]? =some (.row 2 (aa (ops.map bI.enc))))(h3:m[c]? =some (.row 4 (aa (ps.map bl.enc)))):
  eZ m (.agg [.row a 9 0 none,.row b 2 0 none,.row c 4 0 none]) (jx ⟨l,ops,ps⟩):=by
 refine .agg rfl λi c c' e1 e2=>?_
 match i,e1,e2 with
 |0,e1,e2=>cases e1;cases e2;exact ff.fg h1 0 none
 |1,e1,e2=>cases e1;cases e2;exact ff.fg h2 0 none
 |2,e1,e2=>cases e1;cases e2;exact ff.fg h3 0 none
 |n+3,e1,e2=>simp at e1
theorem Tm(l:List Obj)(O:List bI)(ps:List bl)(n i:Nat)(hn:n<ps.length)(hi:i<O.length)(bp fd:Int)(y:List eA):
  aw prog 0 G60 (oR prog c72.me (λr m=>cN m r (.bx [jx ⟨l,O.set i ⟨bp,0⟩,cS ps n y⟩,cG fd,cG 0])))
   ⟨kT 74 [(1,an .i64 (n:Nat)),(2,an .i64 bp),(8,.rv (.one (.ptr 0 0))),(11,an .i64 (i:Nat)),(12,ma y),(13,an .i64 fd),(15,.rv (.one (.ptr 4 0)))],M60 l O ps⟩:=by
 refine af (Bm hi) ?_;have ho:=bN bI.enc O hi;generalize O[i]=x at ho;obtain⟨xo,xa⟩:=x;refine af ho ?_;refine af (mJ hn) ?_;have hp:=bN bl.enc ps hn;have p8:cS ps n y=ps.set n {ps[n]with aQ:=y}:=by rw[cS,vR hn]
 rw[p8];generalize ps[n]=z at hp;obtain⟨aO,fenced,cd,aQ⟩:=z;refine af hp ?_;refine mI (X5 ?_ ?_ ?_) (eZ.self rfl)
 .rfl
 .refine congrArg (λx=>some (Bk.row 2 x)) ?_
  show aX (aa (O.map bI.enc)) i ((bI.enc ⟨bp,0⟩).map .ah)=_;rw[bb,aa,aa,abB,abB]
 .refine congrArg (λx=>some (Bk.row 4 x)) ?_
  show aX (aa (ps.map bl.enc)) n ((bl.enc ⟨aO,fenced,cd,y⟩).map .ah)=_;rw[bb,aa,aa,abB,abB]
theorem Tn(k:Kr)(hk:dP k.l k.ops k.ps)(n:Nat)(hn:n<k.ps.length)(bp bX:Int)(i:Nat)(hi:i=cY k.ops)(vI:i<=k.ops.length)(kz:¬(EX k.ops=none/\k.ops.length>=60)):
  aw prog 0 G30 (oR prog c72.me (λr m=>cN m r (.bx [jx (aE k n bp bX).1,cG (aE k n bp bX).2.1,cG (aE k n bp bX).2.2])))
   ⟨kT 74 [(1,an .i64 (n:Nat)),(2,an .i64 bp),(3,an .i64 bX),(4,.rv (.one (.ptr 0 0))),(8,.rv (.one (.ptr 1 0))),(11,an .i64 (i:Nat))],[.var ((kC k.l k.ops k.ps).map .ah),.var [.aM,.aM,.aM]]⟩:=by
 have ui:ap k.ps n=k.ps[n].aQ:=by rw[ap,vR hn]
 have yU:=hk.sl _ (aay hn);have UR:k.ops.length<=4194304:=hk.lo;rw[aE,if_neg kz,ui,<-hi];refine af (dJ hn) ?_;generalize k.ps[n].aQ=S at yU;refine Bv S om (i:Nat) bX ?_;generalize fw S (i:Nat) bX=A;obtain⟨y,fd,e⟩:=A;refine bv (λhe=>?_) (λhe=>?_)
 .rw[if_pos he];exact mI il (eZ.self rfl)
 have he:e=0:=he;subst he;rw[if_neg aC];refine i4 k.l k.ops k.ps ⟨hk.ll,λo ho=>(hk.sm o ho).oD⟩ hk.lo hk.lp hk.sl hk.ne ?_
 refine bu (λlY=>?_) (λlY=>?_)
 .have lY:i=k.ops.length:=by have lY:(i:Int)=((aa (k.ops.map bI.enc)).length:Int):=lY;rw[bj,N7]at lY;omega
  have jC:jy k.ops i ⟨bp,0⟩=(k.ops++ [bI.mk 0 0]).set i ⟨bp,0⟩:=by rw[jy,if_pos lY,lY];simp
  rw[jC];refine⟨by simp only[b7,bj,N7,aar,abm];omega,?_⟩
  refine⟨_,View.o1 8 [1,2,7,4,5] [] ?_,Tm k.l (k.ops++ [bI.mk 0 0]) k.ps n i hn (by simp;omega) bp fd y⟩
  .exact .pe rfl rfl rfl (.pr rfl rfl rfl (.pt rfl rfl (.bM (by simp[b7,aa,bI.enc])) (.pr rfl rfl rfl (.pm rfl rfl rfl))))
 .have aD:i<k.ops.length:=by have lY:¬(i:Int)=((aa (k.ops.map bI.enc)).length:Int):=lY;rw[bj,N7]at lY;omega
  have jC:jy k.ops i ⟨bp,0⟩=k.ops.set i ⟨bp,0⟩:=by rw[jy,if_neg om]
  rw[jC];refine⟨_,View.o1 6 [1,2,3,4,5] [] ?_,Tm k.l k.ops k.ps n i hn aD bp fd y⟩
  .exact .au
theorem DK(k:Kr)(hk:dP k.l k.ops k.ps)(n:Nat)(hn:n<k.ps.length)(bp bX:Int):body prog c72 [eJ k.l k.ops k.ps,an .i64 (n:Nat),an .i64 bp,an .i64 bX] []
  (λr m=>cN m r (.bx [jx (aE k n bp bX).1,cG (aE k n bp bX).2.1,cG (aE k n bp bX).2.2])):=by
 refine Ip k.ops hk.lo ?_;have UR:k.ops.length<=4194304:=hk.lo;cases ho:EX k.ops with
 |none=>
  have US:LV k.ops= -1:=by rw[LV,ho]
  have Qa:cY k.ops=k.ops.length:=by rw[cY,ho];rfl
  rw[US];refine aP (λxE=>?_) (λxE=>?_)
  .have xE:k.ops.length>=60:=by have xE:((k.ops.map bI.enc).length:Int)>=60:=xE;rw[N7]at xE;omega
   rw[aE,if_pos ⟨ho,xE⟩];exact mI il (eZ.self rfl)
  .have xE:¬k.ops.length>=60:=by have xE:¬((k.ops.map bI.enc).length:Int)>=60:=xE;rw[N7]at xE;omega
   refine⟨_,View.o 2 [0,1] [] ?_ ?_,Tn k hk n hn bp bX k.ops.length Qa.symm (Yj _) (λh=>xE h.2)⟩
   .have hlen:an .i64 (((k.ops.map bI.enc).length:Nat):Int)=an .i64 ((k.ops.length:Nat):Int):=by rw[N7]
    repeat(first|exact .nil|refine .aH ?_|refine .eq rfl ?_)
    refine .eq hlen.symm ?_;repeat(first|exact .nil|refine .aH ?_|refine .eq rfl ?_)
   .exact .au
 |some i=>
  have US:LV k.ops=(i:Nat):=by rw[LV,ho]
  have Qa:cY k.ops=i:=by rw[cY,ho];rfl
  have vI:=Bw ho;rw[US];refine⟨_,View.o1 2 [0,1] [] ?_,Tn k hk n hn bp bX i Qa.symm om (λh=>by rw[ho]at h;cases h.1)⟩
  .exact .au
theorem uj(k:Kr)(hk:dP k.l k.ops k.ps)(n:Nat)(hn:n<k.ps.length)(bp bX:Int){m:Mem}{K:CV->Mem->Prop}(h:K (.bx [jx (aE k n bp bX).1,cG (aE k n bp bX).2.1,cG (aE k n bp bX).2.2]) m):aq prog 72 [eJ k.l k.ops k.ps,an .i64 (n:Nat),an .i64 bp,an .i64 bX] m K:=
 bi (cj func72 l72 (DK k hk n hn bp bX)) (by simp[eJ,dt,fh,gE,an,CV.dC,CC.dC,RV.dC]) λr m1 hf=>⟨_,hf,h⟩
def c77:LF:= ⟨84,[.cell true 3 4,.tmp 5,.tmp 6,.tmp 7],(.seq (.ai [qu 2 (.box 0),qu 4 (.alloc [.aM,.aM,.aM]),qu 5 (.aN (qi 0)),qu 6 (.aN (qi 0)),qu 7 (.aN (qi 0))]) (.seq (.seq (.ai [qL 14 3 2,qm 15 1,qu 16 (qc 29 [14,15]),qu 17 (.un .not 16)]) (.cond 17 (.seq (.ai [qu 18 (.build [.aM,.aM,.aM] []),qw (.store 3 4 18),qu 5 (.aN (qi 0)),qu 6 (.aN (qi 0)),qu 7 (.aN (qi 6))]) .ret) .skip)) (.seq (.ai [qu 19 (qc 118 [2]),qm 8 19]) (.seq (.seq (.ai [qm 20 8,qu 21 (.aL .lss 20 (qi 0))]) (.cond 21 (.seq (.ai [qu 22 (.build [.aM,.aM,.aM] []),qw (.store 3 4 22),qu 5 (.aN (qi 0)),qu 6 (.aN (qi 0)),qu 7 (.aN (qi 15))]) .ret) .skip)) (.seq (.ai [qL 23 3 2,qu 24 (qc 59 [23]),qu 9 (.alloc [.aM,.aM,.aM]),qw (.store 3 9 24)]) (.seq (.seq (.ai [qm 25 8,qf 26 2 9,ql 27 26,qu 28 (.len 1 27),qu 29 (.aL .eql 25 28)]) (.cond 29 (.ai [qf 30 2 9,ql 31 30,qu 32 (.build [(.ah (.val (.bool false))),(.ah (.val (.bool false))),qd 0,.aM] []),qu 33 (.nI 4 [(.ah (.val (.bool false))),(.ah (.val (.bool false))),qd 0,.aM] 1 [(0,32)]),qu 34 (.oL 4 40 31 33),qf 35 2 9,qw (.store 1 35 34)]) .skip)) (.cX (.seq (.bV [qf 36 2 9,ql 37 36,qm 38 8,qf 39 2 2,ql 40 39,qm 41 1,qu 42 (.cw 4 40 41),qf 43 1 42,ql 44 43,qf 45 2 2,ql 46 45,qm 47 1,qu 48 (.cw 4 46 47),qf 49 3 48,ql 50 49,qu 51 (qc 100 [50]),qu 52 (.build [(.ah (.val (.bool false))),(.ah (.val (.bool false))),qd 0,.aM] [(0,1,qb true),(1,1,44),(3,1,51)]),qu 53 (.cw 4 37 38),qw (.store 4 53 52)] [(eE 15 0 (.cons 15 (some [8,6,4,1]) (.cons 16 none (.cons 17 none (.cons 18 (some []) .nil)))))]) (.cX (.seq (.ai [qf 55 0 9,ql 56 55,qm 57 8,qu 58 (.build [qd 0,.aM,.aM,(.ah (.val (.string ⟨#[]⟩))),qd 0,.aM,qd 0,qd 0,qd 0] [(0,1,qi 5),(4,1,(qi (-1))),(6,1,57)]),qu 59 (qc 111 [56,58]),qm 54 59,qu 60 (.ext 54 0),qu 61 (.ext 54 1),qu 62 (.ext 54 2),qm 10 60,qm 11 61,qm 12 62]) (.seq (.seq (.ai [qm 63 12,qu 64 (.aL .neq 63 (qi 0))]) (.cond 64 (.seq (.ai [qu 65 (.build [.aM,.aM,.aM] []),qm 66 12,qw (.store 3 4 65),qu 5 (.aN (qi 0)),qu 6 (.aN (qi 0)),qm 7 66]) .ret) .skip)) (.seq (.ai [qm 67 10,qf 68 0 9,qw (.store 1 68 67)]) (.seq (.ai [qL 70 3 9,qm 71 1,qm 72 11,qu 73 (qc 72 [70,71,72,qi 3200]),qm 69 73,qu 74 (.ext 69 0),qu 75 (.ext 69 1),qu 76 (.ext 69 2),qw (.store 3 9 74),qm 13 75,qm 12 76]) (.seq (.seq (.ai [qm 77 12,qu 78 (.aL .neq 77 (qi 0))]) (.cond 78 (.seq (.ai [qu 79 (.build [.aM,.aM,.aM] []),qm 80 12,qw (.store 3 4 79),qu 5 (.aN (qi 0)),qu 6 (.aN (qi 0)),qm 7 80]) .ret) .skip)) (.seq (.ai [qL 81 3 9,qm 82 8,qm 83 13,qw (.store 3 4 81),qm 5 82,qm 6 83,qu 7 (.aN (qi 0))]) .ret)))))))))))))))⟩
theorem l77:bz prog f77=some c77.er:=by kernel_rfl
def da(c:Int):Obj:=⟨5,[],[],⟨#[]⟩,-1,[],c,0,0⟩
theorem DL(c:Int):(da c).sm:=⟨⟨⟨[],rfl⟩,⟨[],rfl⟩,λq hq=>by simp[da]at hq⟩,by simp[da],by simp[da],by simp[da],λq hq=>by simp[da]at hq⟩
theorem NZ(a:CV)(c:Int):lC [a,.rv (.agg [.ah (.val (.int .i64 5)),.aM,.aM,.ah (.val (.string ⟨#[]⟩)),.ah (.val (.int .i64 (-1))),.aM,.ah (.val (.int .i64 c)),.ah (.val (.int .i64 0)),.ah (.val (.int .i64 0))])] [a,(da c).cv]:=
 .dH _ (.agg (.cons (.dH _) (.cons (.aM 1) (.cons (.aM 2) (.cons (.dH _) (.cons (.dH _) (.cons (.aM 4) (.cons (.dH _) (.cons (.dH _) (.cons (.dH _) .nil))))))))) .nil)
theorem Aa{l:List Obj}{o x:Obj}(h:x∈(aG l o).1):x∈l\/x=o:=by
 unfold aG at h;split at h
 .exact aaQ h
 .split at h
  .simp at h
  .simpa using h
theorem Kc(l:List Obj)(o:Obj):(aG l o).1.length<=l.length+1:=by
 unfold aG;split
 .simp
 .split<;>simp
theorem N0{m:Mem}{a b:RV}{x y z:Int}(h:eZ m a b):cN m (.bx [a,cG x,cG y,cG z]) (.bx [b,cG x,cG y,cG z]):=by
 refine .bx rfl λi r r' h1 h2=>?_
 match i,h1,h2 with
 |0,h1,h2=>cases h1;cases h2;exact h
 |1,h1,h2=>cases h1;cases h2;exact eZ.self rfl
 |2,h1,h2=>cases h1;cases h2;exact eZ.self rfl
 |3,h1,h2=>cases h1;cases h2;exact eZ.self rfl
 |n+4,h1,h2=>simp at h1
def xF(l:List Obj)(ops:List bI)(P:List bl)(n:Nat)(c:Int):Kr×Int×Int×Int:=
 if(aG l (da c)).2.2≠0 then(nZ,0,0,(aG l (da c)).2.2)
 else if(aE ⟨(aG l (da c)).1,ops,P⟩ n (aG l (da c)).2.1 3200).2.2≠0 then(nZ,0,0,(aE ⟨(aG l (da c)).1,ops,P⟩ n (aG l (da c)).2.1 3200).2.2)
 else((aE ⟨(aG l (da c)).1,ops,P⟩ n (aG l (da c)).2.1 3200).1,c,(aE ⟨(aG l (da c)).1,ops,P⟩ n (aG l (da c)).2.1 3200).2.1,0)
def gm(ps:List bl)(n c:Nat):List bl:=match ps[n]? with
 |some x=>if c=ps.length then ps++ [⟨true,x.fenced,0,x.aQ⟩]else ps.set c ⟨true,x.fenced,0,x.aQ⟩
 |none=>ps
def fX(k:Kr)(p:Int):Kr×Int×Int×Int:=
 if fN k.ps p=false then(nZ,0,0,6)else if hU k.l k.ps<0 then(nZ,0,0,15)
 else xF k.l k.ops (gm k.ps p.toNat (hU k.l k.ps).toNat) p.toNat (hU k.l k.ps)
def Ir(a:Kr×Int×Int×Int):CV:= .bx [jx a.1,cG a.2.1,cG a.2.2.1,cG a.2.2.2]
def C36:LC:=bP (bP (bP (bP (bP (bP c77.code)))))
def G36:LC:=rc C36
def C55:LC:=bP G36
def G55:LC:=rc C55
theorem X6(l:List Obj)(ops:List bI)(P:List bl)(hk:dP l ops P)(Gk:l.length<=4194303)(n:Nat)(hn:n<P.length)(c:Int):
  aw prog 0 G55 (oR prog c77.me (λr m=>cN m r (Ir (xF l ops P n c))))
   ⟨kT 84 [(1,an .i64 (n:Nat)),(4,.rv (.one (.ptr 0 0))),(8,an .i64 c),(9,.rv (.one (.ptr 1 0)))],[.var [.aM,.aM,.aM],.var ((kC l ops P).map .ah)]⟩:=by
 have hA1:∀x,x∈(aG l (da c)).1->x.sm:=λx hx=>by
  rcases Aa hx with hx|rfl
  .exact hk.sm x hx
  .exact DL c
 have hA2:=Kc l (da c);refine nj (NZ _ _) (Bd l ⟨hk.ll,λo ho=>(hk.sm o ho).oD⟩ (da c) ?_)
 unfold xF;generalize aG l (da c)=A at hA1 hA2;obtain⟨A1,k,e⟩:=A;refine bv (λhe=>?_) (λhe=>?_)
 .rw[if_pos he];exact N0 il
 have he:e=0:=he;subst he;rw[if_neg aC];refine uj ⟨A1,ops,P⟩ ⟨hA1,by have hA2:A1.length<=l.length+1:=hA2;show A1.length<=4194304;omega,hk.lo,hk.lp,hk.sl,hk.ne⟩ n hn k 3200 ?_
 generalize aE ⟨A1,ops,P⟩ n k 3200=B;obtain⟨B1,fd,e2⟩:=B;refine bv (λkK=>?_) (λkK=>?_)
 .rw[if_pos kK];exact N0 il
 have kK:e2=0:=kK;subst kK;rw[if_neg aC];exact N0 (eZ.self (Bt _))
theorem pq(l:List Obj)(ps:List bl):∀(n p c:Nat),po l ps n p=(c:Nat)->p<=ps.length->c<=ps.length/\p<=c/\c<p+n/\(c<ps.length->sP l ps c=true)
 |0,p,c,h,_=>by have h:(-1:Int)=(c:Nat):=h;omega
 |n+1,p,c,h,hp=>by
  rw[po]at h;by_cases h1:p=ps.length
  .rw[if_pos h1]at h;have:p=c:=om;subst this;exact⟨om,om,om,λh2=>om⟩
  .rw[if_neg h1]at h;by_cases h2:sP l ps p=true
   .rw[if_pos h2]at h;have:p=c:=om;subst this;exact⟨om,om,om,λ_=>h2⟩
   .rw[if_neg h2]at h;obtain⟨a,b,c1,d⟩:=pq l ps n (p+1) c h om;exact⟨a,om,om,d⟩
theorem To(k:Kr)(hk:dP k.l k.ops k.ps)(Gk:k.l.length<=4194303)(P:List bl)(hP:∀p,p∈P->p.aQ.length<=10)(ZL:P.length<=4194304)(n:Nat)(hn:n<k.ps.length)(hnP:n<P.length)(c:Nat)(hc:c<P.length):
  aw prog 0 G36 (oR prog c77.me (λr m=>cN m r (Ir (xF k.l k.ops (P.set c ⟨true,k.ps[n].fenced,0,k.ps[n].aQ⟩) n (c:Nat)))))
   ⟨kT 84 [(1,an .i64 (n:Nat)),(2,.rv (.one (.ptr 0 0))),(4,.rv (.one (.ptr 1 0))),(8,an .i64 (c:Nat)),(9,.rv (.one (.ptr 5 0)))],
    [.var ((kC k.l k.ops k.ps).map .ah),.var [.aM,.aM,.aM],.row 9 (aa (k.l.map Obj.enc)),.row 2 (aa (k.ops.map bI.enc)),.row 4 (aa (P.map bl.enc)),.var [.row 2 9 0 none,.row 3 2 0 none,.row 4 4 0 none]]⟩:=by
 have hg:=dJ hn;have yU:=hk.sl _ (aay hn);have hr:=bN bl.enc P hc;generalize k.ps[n]=z at hg yU;obtain⟨aO,fenced,cd,aQ⟩:=z;have yU:aQ.length<=10:=yU;generalize P[c]=w at hr;obtain⟨wl,wf,wc,ws⟩:=w;refine af hg ?_;refine af hg ?_;refine jI aQ om ?_;refine⟨⟨rfl,af hg rfl,rfl,rfl,trivial⟩,?_⟩;refine af (mJ hc) ?_;refine af hr ?_;refine⟨trivial,?_⟩;have jC:∀x,x∈P.set c ⟨true,fenced,0,aQ⟩->x.aQ.length<=10:=λx hx=>by
  rcases aaQ hx with hx|rfl
  .exact hP x hx
  .exact yU
 have d9:=X6 k.l k.ops (P.set c ⟨true,fenced,0,aQ⟩) ⟨hk.sm,hk.ll,hk.lo,by rw[aaI];exact ZL,jC,λh=>by have:=congrArg List.length h;rw[aaI,abm]at this;omega⟩ Gk n (by rw[aaI];exact hnP) (c:Nat)
 refine⟨_,View.o1 6 [1,5] [2,3,4] ?_,d9⟩
 .refine .pe rfl rfl rfl (.pt rfl rfl (fv.var (.cons (.fT (d6.fg (Z:=λk=>bD [2,3,4] k=true) rfl rfl 0 none)) (.cons (.fT (d6.fg (Z:=λk=>bD [2,3,4] k=true) rfl rfl 0 none)) (.cons (.fT (NY (Z:=λk=>bD [2,3,4] k=true) (c:=(bl.enc ⟨true,fenced,0,aQ⟩).map .ah) ?_ rfl rfl)) .nil)))) (.nil _))
  exact .cons (.ah _) (.cons (.ah _) (.cons (.ah _) (.cons (.ah _) .nil)))
theorem Ke(k:Kr)(hk:dP k.l k.ops k.ps)(Gk:k.l.length<=4194303)(p:Int):body prog c77 [eJ k.l k.ops k.ps,an .i64 p] [] (λr m=>cN m r (Ir (fX k p))):=by
 refine pj k.l k.ops k.ps p ?_;have h2:=hk.lp;refine aJ (λh1=>?_) (λh1=>?_)
 .have h1:fN k.ps p=false:=by simpa using h1
  rw[fX,if_pos h1];exact N0 il
 have h1:fN k.ps p=true:=by simpa using h1
 obtain⟨n,rfl,hn,bK⟩:=pl h1;rw[fX,if_neg (by rw[h1];simp)]
 refine fC (args0:=[.rv (.one (.ptr 0 0))]) (cs:=kC k.l k.ops k.ps) 0 rfl rfl (r0:=an .i64 (hU k.l k.ps)) rfl (λK hK=>Bs k.l hk.ll k.ops k.ps K hK) ?_
 refine aP (λh3=>?_) (λh3=>?_)
 .rw[if_pos h3];exact N0 il
 rw[if_neg h3];obtain⟨c,hc⟩:∃c:Nat,hU k.l k.ps=(c:Int):=⟨(hU k.l k.ps).toNat,om⟩;obtain⟨eL,_,hc8,_⟩:=pq k.l k.ps 8 0 c hc (aav _);rw[hc,show((n:Nat):Int).toNat=n from rfl,show((c:Nat):Int).toNat=c from rfl];refine i4 k.l k.ops k.ps ⟨hk.ll,λo ho=>(hk.sm o ho).oD⟩ hk.lo hk.lp hk.sl hk.ne ?_
 refine bu (λlY=>?_) (λlY=>?_)
 .have lY:c=k.ps.length:=by have lY:(c:Int)=((aa (k.ps.map bl.enc)).length:Int):=lY;rw[bj,N7]at lY;omega
  have hfp:gm k.ps n c=(k.ps++ [gC]).set c ⟨true,k.ps[n].fenced,0,k.ps[n].aQ⟩:=by rw[gm,vR hn];simp only[];rw[if_pos lY,lY];simp
  rw[hfp];refine⟨by simp only[b7,bj,N7,aar,abm];omega,?_⟩
  have d9:=To k hk Gk (k.ps++ [gC]) (λx hx=>by
   rcases abD.1 hx with hx|hx
   .exact hk.sl x hx
   .simp at hx;subst hx;simp[gC]) (by simp;omega) n hn (by simp;omega) c (by simp;omega)
  refine⟨_,View.o1 8 [0,1,2,3,7,5] [] ?_,d9⟩
  .exact .pt rfl rfl (.eq rfl (by simp[kC])) (.pe rfl rfl rfl (.pr rfl rfl rfl (.pr rfl rfl rfl (.pt rfl rfl (XT k.ps gC (.fT (.aM 3)) (by simp[b7,aa,CC.bh,gC])) (.pm rfl rfl rfl)))))
 .have aD:c<k.ps.length:=by have lY:¬(c:Int)=((aa (k.ps.map bl.enc)).length:Int):=lY;rw[bj,N7]at lY;omega
  have hfp:gm k.ps n c=k.ps.set c ⟨true,k.ps[n].fenced,0,k.ps[n].aQ⟩:=by rw[gm,vR hn];simp only[];rw[if_neg om]
  rw[hfp];have d9:=To k hk Gk k.ps hk.sl hk.lp n hn hn c aD;refine⟨_,View.o1 6 [0,1,2,3,4,5] [] ?_,d9⟩
  .exact .au
theorem Is(k:Kr)(hk:dP k.l k.ops k.ps)(Gk:k.l.length<=4194303)(p:Int){m:Mem}{K:CV->Mem->Prop}(h:K (Ir (fX k p)) m):aq prog 77 [eJ k.l k.ops k.ps,an .i64 p] m K:=
 bi (cj func77 l77 (Ke k hk Gk p)) (by simp[eJ,dt,fh,gE,an,CV.dC,CC.dC,RV.dC]) λr m1 hf=>⟨_,hf,h⟩
def c62:LF:= ⟨40,[.tmp 6,.tmp 7],(.seq (.ai [qu 6 (.aN qe),qu 7 (.aN (qi 0))]) (.seq (.ai [qm 12 0,qm 13 1,qu 14 (qc 73 [12,13]),qm 11 14,qu 15 (.ext 11 0),qu 16 (.ext 11 1),qu 8 (.alloc [qd 0,qd 0]),qw (.store 2 8 15),qm 9 16]) (.seq (.block 0 (.seq (.ai [qm 18 9,qu 19 (.aL .neq 18 (qi 0)),qm 17 19]) (.cond 17 (.seq (.ai [qm 20 9,qu 6 (.aN qe),qm 7 20]) .ret) (.seq (.ai [qm 22 2,qu 23 (qc 54 [22]),qu 24 (.un .not 23),qm 21 24]) (.cond 21 (.seq (.ai [qu 6 (.aN qe),qu 7 (.aN (qi 3))]) .ret) (.seq (.ai [qm 26 2,qf 27 1 8,ql 28 27,qu 29 (qc 101 [26,28]),qu 30 (.un .not 29),qm 25 30]) (.cond 25 (.seq (.ai [qu 6 (.aN qe),qu 7 (.aN (qi 10))]) .ret) .skip))))))) (.seq (.ai [qm 31 0,qu 32 (qc 100 [31]),qm 10 32]) (.seq (.ai [qm 33 10,qm 34 1,qm 35 2,qu 36 (.cw 3 33 34),qf 37 1 36,qf 38 1 37,qw (.store 1 38 35)]) (.seq (.ai [qm 39 10,qm 6 39,qu 7 (.aN (qi 0))]) .ret))))))⟩
namespace Tb
theorem l62:bz prog f62=some c62:=by kernel_rfl
def xG(l:List bS)(fd n:Int):List bS×Int:=
 if(du l fd).2=0 then
  if fm n=false then([],3)else if fc n (du l fd).1.bX=false then([],10)else(l.set fd.toNat ⟨true,⟨(du l fd).1.dG,n⟩⟩,0)
 else([],(du l fd).2)
theorem Gl(l:List bS)(hb:l.length<=2097152)(fd n:Int):body prog c62 [dE l,an .i64 fd,an .i64 n] [] (λr m=>cN m r (.bx [jK (xG l fd n).1,cG (xG l fd n).2])):=by
 refine xA l fd ?_;refine aJ (λh=>?_) (λh=>?_)
 .have h:¬(du l fd).2=0:=by simpa using h
  rw[xG,if_neg h];exact kX (.one (.aM 3))
 .have h:(du l fd).2=0:=by simpa using h
  rw[xG,if_pos h];refine xD n ?_;refine aJ (λh1=>?_) (λh1=>?_)
  .have h1:fm n=false:=by simpa using h1
   rw[if_pos h1];exact kX (.one (.aM 3))
  .have h1:fm n=true:=by simpa using h1
   rw[if_neg (by simp[h1])]
   refine z6 _ _ ?_;refine aJ (λh2=>?_) (λh2=>?_)
   .have h2:fc n (du l fd).1.bX=false:=by simpa using h2
    rw[if_pos h2];exact kX (.one (.aM 3))
   .have h2:fc n (du l fd).1.bX=true:=by simpa using h2
    rw[if_neg (by simp[h2])]
    obtain⟨d,rfl,hd,X2,bg⟩:=Io h;rw[show((d:Nat):Int).toNat=d from rfl];refine pV l hb (λhl=>by subst hl;simp at hd) ?_
    refine af (cy (k:=d) (by simp[ct,lenOf];omega)) ?_
    refine af (x:=(l[d].enc).map .ah) (by simp[aV,ct,iN,hd]) ?_
    refine kX (.one ?_);have e:aX (ct l) d [CC.ah (.val (.bool l[d].has)),CC.ah (.val (.int .i64 l[d].cap.dG)),CC.ah (.val (.int .i64 n))]=aa ((l.set d ⟨true,⟨(du l d).1.dG,n⟩⟩).map bS.enc):=by rw[bb,X2,bg];simp[ct,aa,bS.enc]
    exact ff.fg (congrArg (λx=>some (Bk.row 3 x)) e) 0 none
theorem N1(l:List bS)(hb:l.length<=2097152)(fd n:Int){m:Mem}{K:CV->Mem->Prop}(h:K (.bx [jK (xG l fd n).1,cG (xG l fd n).2]) m):aq prog 62 [dE l,an .i64 fd,an .i64 n] m K:=
 bi (bc func62 l62 (Gl l hb fd n)) (by simp[dE,an,CV.dC,CC.dC]) λr m1 hf=>⟨_,hf,h⟩
end Tb
def c134:LF:= ⟨49,[.tmp 6,.tmp 7],(.seq (.ai [qu 6 (.aN (qi 0)),qu 7 (.aN (qb false))]) (.seq (.ai [qm 12 0,qu 13 (.len 1 12),qm 8 13]) (.seq (.ai [qm 14 8,qu 9 (.aN (qi 0)),qm 10 14]) (.seq (.block 0 (.loop (.seq (.seq (.ai [qm 15 9,qm 16 10,qu 17 (.aL .lss 15 16)]) (.cond 17 .skip (.exit 0))) (.block 1 (.seq (.ai [qm 18 9,qm 19 10,qu 20 (.aL .add 18 19),qu 21 (.conv .u64 20),qu 22 (.aL .shr 21 (.c (.rv (.one (.ah (.val (.int .u64 (1)))))))),qu 23 (.conv .i64 22),qm 11 23]) (.seq (.ai [qm 24 2,qm 25 0,qm 26 11,qu 27 (.cw 2 25 26),qL 28 2 27,qm 29 1,qu 30 (.call 24 [28,29]),qu 31 (.aL .lss 30 (qi 0))]) (.cond 31 (.ai [qm 32 11,qu 33 (.aL .add 32 (qi 1)),qm 9 33]) (.ai [qm 34 11,qm 10 34])))))))) (.seq (.ai [qm 35 9,qm 36 9,qm 37 8,qu 38 (.aL .lss 36 37),qm 39 38,qg 40 (.aN 2) 39 true,qg 41 (.aN 0) 39 true,qg 42 (.aN 9) 39 true,qg 43 (.cw 2 41 42) 39 true,qg 44 (.load true 2 43) 39 true,qg 45 (.aN 1) 39 true,qg 46 (.call 40 [44,45]) 39 true,qg 47 (.aL .eql 46 (qi 0)) 39 true,qu 48 (.pick 39 47 (qb false)),qm 6 35,qm 7 48]) .ret)))))⟩
def c135:LF:= ⟨9,[.tmp 4],(.seq (.ai [qu 2 (.box 0),qu 4 (.aN (qi 0))]) (.seq (.ai [qf 5 0 2,ql 6 5,qm 7 1,qu 8 (qc 136 [6,7]),qm 4 8]) .ret))⟩
def c136:LF:= ⟨20,[.tmp 4],(.seq (.ai [qu 4 (.aN (qi 0))]) (.seq (.ai [qm 7 0,qu 8 (qc 150 [7]),qm 5 8]) (.seq (.ai [qm 9 1,qu 10 (qc 150 [9]),qm 6 10]) (.seq (.seq (.ai [qm 11 5]) (.cond 11 (.seq (.seq (.ai [qm 12 6]) (.cond 12 (.seq (.ai [qu 4 (.aN (qi 0))]) .ret) .skip)) (.seq (.ai [qu 4 (.aN (qi (-1)))]) .ret)) .skip)) (.seq (.seq (.ai [qm 13 6]) (.cond 13 (.seq (.ai [qu 4 (.aN (qi 1))]) .ret) .skip)) (.seq (.seq (.ai [qm 14 0,qm 15 1,qu 16 (.aL .lss 14 15)]) (.cond 16 (.seq (.ai [qu 4 (.aN (qi (-1)))]) .ret) .skip)) (.seq (.seq (.ai [qm 17 0,qm 18 1,qu 19 (.aL .gtr 17 18)]) (.cond 19 (.seq (.ai [qu 4 (.aN (qi 1))]) .ret) .skip)) (.seq (.ai [qu 4 (.aN (qi 0))]) .ret))))))))⟩
def c150:LF:= ⟨6,[.tmp 2],(.seq (.ai [qu 2 (.aN (qb false))]) (.seq (.ai [qm 3 0,qm 4 0,qu 5 (.aL .neq 3 4),qm 2 5]) .ret))⟩
theorem l150:bz prog f150=some c150:=by kernel_rfl
theorem l136:bz prog f136=some c136:=by kernel_rfl
theorem l135:bz prog f135=some c135:=by kernel_rfl
theorem l134:bz prog f134=some c134:=by kernel_rfl
def Tp(a b:ByteArray):Bool:=Op.bytesLess a.toList b.toList
def V7(a b:ByteArray):Bool:= !(Op.bytesLess a.toList b.toList||a.toList==b.toList)
def lG(a b:ByteArray):Int:=if Tp a b=true then -1 else if V7 a b=true then 1 else 0
theorem N2(a:ByteArray):body prog c150 [fe a] [] (λr m=>r=aF false):=by show aF (!(a.toList==a.toList))=aF false;simp
theorem N3(a:ByteArray){m:Mem}{K:CV->Mem->Prop}(h:K (aF false) m):aq prog 150 [fe a] m K:=
 bC func150 l150 rfl (aap rfl) (N2 a) rfl rfl h
theorem N4(a b:ByteArray):body prog c136 [fe a,fe b] [] (λr m=>r=an .i64 (lG a b)):=by
 refine N3 a ?_;refine N3 b ?_;refine aJ (λh1=>?_) (λh1=>?_)
 .show an _ _=an _ _;rw[lG,if_pos (show Tp a b=true from h1)]
 refine aJ (λh2=>?_) (λh2=>?_)
 .show an _ _=an _ _;rw[lG,if_neg (by rw[show Tp a b=false from h1];simp),if_pos (show V7 a b=true from h2)]
 .show an _ _=an _ _;rw[lG,if_neg (by rw[show Tp a b=false from h1];simp),if_neg (by rw[show V7 a b=false from h2];simp)]
theorem N5(a b:ByteArray){m:Mem}{K:CV->Mem->Prop}(h:K (an .i64 (lG a b)) m):aq prog 136 [fe a,fe b] m K:=
 bC func136 l136 rfl (aap rfl) (N4 a b) rfl rfl h
def db(e:ByteArray×Int):List Dt:=[.val (.string e.1),.val (.int .i64 e.2)]
def xH(e:ByteArray×Int):CV:= .rv (.agg ((db e).map .ah))
theorem Gm(e:ByteArray×Int)(s:ByteArray):body prog c135 [xH e,fe s] [] (λr m=>r=an .i64 (lG e.1 s)):=
 N5 e.1 s rfl
theorem Tq(e:ByteArray×Int)(s:ByteArray){m:Mem}{K:CV->Mem->Prop}(h:K (an .i64 (lG e.1 s)) m):aq prog 135 [xH e,fe s] m K:=
 bC func135 l135 rfl (aap rfl) (Gm e s) rfl rfl h
def Kf(es:List (ByteArray×Int))(s:ByteArray):Nat->Nat->Nat->Nat
 |0,i,_=>i
 |n+1,i,j=>if i<j then(match es[(i+j)/2]? with
   |some e=>if lG e.1 s<0 then Kf es s n ((i+j)/2+1) j else Kf es s n i ((i+j)/2)
   |none=>i)else i
def rf(es:List (ByteArray×Int))(s:ByteArray):Nat:=Kf es s es.length 0 es.length
def Bx(es:List (ByteArray×Int))(s:ByteArray):Bool:=match es[rf es s]? with|some e=>lG e.1 s==0|none=>false
structure abL where
 i:Nat
 j:Nat
theorem pu{es:List (ByteArray×Int)}{k:Nat}(h:k<es.length):dA (es.map db) (k:Nat)=some [.val (.string es[k].1),.val (.int .i64 es[k].2)]:=by rw[bG,Tr,vR h];rfl
theorem Gn{i j:Nat}(h:i+j<=4294967296):IntKind.i64.wrap ((IntKind.u64.wrap (IntKind.i64.wrap ((i:Int)+(j:Int)))).fdiv (2^(min (1:Int).toNat IntKind.u64.bits)))=(((i+j)/2:Nat):Int):=by
 rw[show(i:Int)+(j:Int)=((i+j:Nat):Int) by omega,ot om]
 have hu:IntKind.u64.wrap ((i+j:Nat):Int)=((i+j:Nat):Int):=by simp only[IntKind.wrap,IntKind.bits,IntKind.signed];simp;omega
 rw[hu,show(2:Int)^(min (1:Int).toNat IntKind.u64.bits)=((2:Nat):Int)from rfl];rw[show(((i+j:Nat):Int)).fdiv ((2:Nat):Int)=(((i+j)/2:Nat):Int) by rw[Int.fdiv_eq_ediv_of_nonneg _ om];exact(Int.natCast_ediv _ _).symm]
 rw[ot om]
theorem Rd(es:List (ByteArray×Int))(hl:es.length<=2147483648)(s:ByteArray)(F:Nat)(hF:∀(e:ByteArray×Int)(m:Mem)(K:CV->Mem->Prop),K (an .i64 (lG e.1 s)) m->aq prog F [xH e,fe s] m K):
  body prog c134 [sC 2 (es.map db),fe s,.rv (.one (.fn F []))] [] (λr m=>r= .bx [.one (.ah (.val (.int .i64 (rf es s:Nat)))),.one (.ah (.val (.bool (Bx es s))))]):=by
 refine ba (λa:abL=>a.i<=a.j/\a.j<=es.length/\∃n,a.j-a.i<=n/\Kf es s n a.i a.j=rf es s) [0,1,2] (λa=>[(8,an .i64 (es.length:Nat)),(9,an .i64 (a.i:Nat)),(10,an .i64 (a.j:Nat))]) (λ_=>[]) (λa=>a.j-a.i) ⟨0,es.length⟩ ⟨aav _,Yj _,es.length,aC,rfl⟩ ?_ (λa ha=>?_)
 .refine View.o 0 [] [] ?_ (.nil _);have hlen:an .i64 (((es.map db).length:Nat):Int)=an .i64 ((es.length:Nat):Int):=by rw[N7]
  repeat(first|exact .nil|refine .aH ?_|refine .eq rfl ?_|refine .eq hlen.symm ?_)
 obtain⟨i,j⟩:=a;obtain⟨h1,h2,n,h3,h4⟩:=ha;have h1:i<=j:=h1;have h2:j<=es.length:=h2;have h3:j-i<=n:=h3;have h4:Kf es s n i j=rf es s:=h4;refine aP (λh=>?_) (λh=>?_)
 .have aD:i<j:=by have h:(i:Int)<(j:Int):=h;omega
  obtain⟨n,rfl⟩:∃n',n=n'+1:=⟨n-1,om⟩;have hh:(i+j)/2<es.length:=om;rw[Kf,if_pos aD,vR hh]at h4;have eG:dA (es.map db) (IntKind.i64.wrap ((IntKind.u64.wrap (IntKind.i64.wrap ((i:Int)+(j:Int)))).fdiv (2^(min (1:Int).toNat IntKind.u64.bits))))=some [.val (.string es[(i+j)/2].1),.val (.int .i64 es[(i+j)/2].2)]:=by rw[Gn om];exact pu hh
  refine af eG ?_;refine hF es[(i+j)/2] _ _ ?_;refine aP (λh5=>?_) (λh5=>?_)
  .have h5:lG es[(i+j)/2].1 s<0:=h5;simp only[]at h4;rw[if_pos h5]at h4;refine⟨⟨(i+j)/2+1,j⟩,⟨by show(i+j)/2+1<=j;omega,h2,n,by show j-((i+j)/2+1)<=n;omega,h4⟩,(show j-((i+j)/2+1)<j-i by omega),View.o 0 [] [] ?_ (.nil _)⟩
   have e1:an .i64 (IntKind.i64.wrap (IntKind.i64.wrap ((IntKind.u64.wrap (IntKind.i64.wrap ((i:Int)+(j:Int)))).fdiv (2^(min (1:Int).toNat IntKind.u64.bits)))+1))=an .i64 (((i+j)/2+1:Nat):Int):=by
    rw[Gn om,show(((i+j)/2:Nat):Int)+1=(((i+j)/2+1:Nat):Int) by omega,ot om]
   repeat(first|exact .nil|refine .aH ?_|refine .eq rfl ?_|refine .eq e1.symm ?_)
  .have h5:¬lG es[(i+j)/2].1 s<0:=h5;simp only[]at h4;rw[if_neg h5]at h4;refine⟨⟨i,(i+j)/2⟩,⟨by show i<=(i+j)/2;omega,by show(i+j)/2<=es.length;omega,n,by show(i+j)/2-i<=n;omega,h4⟩,(show(i+j)/2-i<j-i by omega),View.o 0 [] [] ?_ (.nil _)⟩
   have e1:an .i64 (IntKind.i64.wrap ((IntKind.u64.wrap (IntKind.i64.wrap ((i:Int)+(j:Int)))).fdiv (2^(min (1:Int).toNat IntKind.u64.bits))))=an .i64 (((i+j)/2:Nat):Int):=by rw[Gn om]
   repeat(first|exact .nil|refine .aH ?_|refine .eq rfl ?_|refine .eq e1.symm ?_)
 .have p5:i=j:=by have h:¬(i:Int)<(j:Int):=h;omega
  subst p5;have hI:rf es s=i:=by
   rw[<-h4];cases n with
   |zero=>rfl
   |succ n=>rw[Kf,if_neg (Nat.lt_irrefl _)]
  rw[Bx,hI];refine aP (λh6=>?_) (λh6=>?_)
  .have aD:i<es.length:=by have h6:(i:Int)<(es.length:Int):=h6;omega
   refine af (pu aD) ?_;refine hF es[i] _ _ ?_;show CV.bx _=CV.bx _;rw[vR aD]
  .have eG:¬i<es.length:=by have h6:¬(i:Int)<(es.length:Int):=h6;omega
   show CV.bx _=CV.bx _;rw[aaH om]
def ZR(es:List (ByteArray×Int))(s:ByteArray):CV:= .bx [.one (.ah (.val (.int .i64 (rf es s:Nat)))),.one (.ah (.val (.bool (Bx es s))))]
theorem N6(es:List (ByteArray×Int))(hl:es.length<=2147483648)(s:ByteArray)(F:Nat)(hF:∀(e:ByteArray×Int)(m:Mem)(K:CV->Mem->Prop),K (an .i64 (lG e.1 s)) m->aq prog F [xH e,fe s] m K){m:Mem}{K:CV->Mem->Prop}(h:K (ZR es s) m):aq prog 134 [sC 2 (es.map db),fe s,.rv (.one (.fn F []))] m K:=by
 refine bi (K0:=λr _=>r=ZR es s) (bc func134 l134 (Rd es hl s F hF)) (by simp[sC,fe,CV.dC,CC.dC,RV.dC]) λr m1 hr=>?_
 subst hr;exact⟨_,cN.self rfl,h⟩
theorem UT(es:List (ByteArray×Int))(hl:es.length<=2147483648)(s:ByteArray)(F:Nat)(hF:∀(e:ByteArray×Int)(m:Mem)(K:CV->Mem->Prop),K (an .i64 (lG e.1 s)) m->aq prog F [xH e,fe s] m K){m:Mem}{id:Nat}(hb:cF m id=some (.row 2 (aa (es.map db)))){K:CV->Mem->Prop}(h:K (ZR es s) m):aq prog 134 [.rv (.one (.row id 2 0 none)),fe s,.rv (.one (.fn F []))] m K:=
 Ng [id] (args0:=[sC 2 (es.map db),fe s,.rv (.one (.fn F []))]) (N6 es hl s F hF (K:=λr _=>r=ZR es s) rfl) (.put (rJ.fT id (es.map db) (by simp[bD]) hb) (.eq rfl (.eq rfl .nil))) λr m1 hr=>by subst hr;exact⟨rfl,h⟩
def Tryz.DM:Go.Shelf.Ren:=⟨λ|143=>149|219=>154|217=>156|225=>157|224=>158|267=>159|266=>161|314=>162|n=>n,λ|9=>9|3=>3|4=>4|5=>5|46=>127|146=>267|51=>187|n=>n,λ|1=>0|n=>n⟩
theorem Tryz.Re:Go.Proofs.Lays.n143 prog Tryz.DM:={
 mixed:=by kernel_rfl,
 f143:=func149.trans (congrArg some (by kernel_rfl)),
 f217:=func156.trans (congrArg some (by kernel_rfl)),
 f219:=func154.trans (congrArg some (by kernel_rfl)),
 f224:=func158.trans (congrArg some (by kernel_rfl)),
 f225:=func157.trans (congrArg some (by kernel_rfl)),
 f266:=func161.trans (congrArg some (by kernel_rfl)),
 f267:=func159.trans (congrArg some (by kernel_rfl)),
 f314:=func162.trans (congrArg some (by kernel_rfl)),
 t3:=underlying3,
 a3:=isAgg3,
 z3:=sizeOf3,
 v3:=zeroValue3,
 t4:=underlying4,
 a4:=isAgg4,
 z4:=sizeOf4,
 v4:=zeroValue4,
 t5:=underlying5,
 a5:=isAgg5,
 z5:=sizeOf5,
 v5:=zeroValue5,
 t9:=underlying9,
 a9:=isAgg9,
 z9:=sizeOf9,
 v9:=zeroValue9,
 t46:=underlying127,
 a46:=isAgg127,
 z46:=sizeOf127,
 v46:=zeroValue127,
 t51:=underlying187,
 a51:=isAgg187,
 z51:=sizeOf187,
 v51:=zeroValue187,
 t146:=underlying267,
 a146:=isAgg267,
 z146:=sizeOf267,
 v146:=zeroValue267,
 g1:=by kernel_rfl}
def Tryz.vq:Go.Shelf.Ren:=⟨λ|156=>64|165=>102|166=>103|169=>104|240=>129|241=>130|276=>145|277=>146|n=>n,λ|31=>146|9=>9|3=>3|4=>4|0=>0|20=>20|72=>198|76=>202|70=>196|37=>23|75=>201|127=>241|164=>252|5=>5|80=>204|n=>n,λ|n=>n⟩
theorem Tryz.It:Go.Proofs.Lays.n156 prog Tryz.vq:={
 mixed:=by kernel_rfl,
 f156:=func64.trans (congrArg some (by kernel_rfl)),
 f165:=func102.trans (congrArg some (by kernel_rfl)),
 f166:=func103.trans (congrArg some (by kernel_rfl)),
 f169:=func104.trans (congrArg some (by kernel_rfl)),
 f240:=func129.trans (congrArg some (by kernel_rfl)),
 f241:=func130.trans (congrArg some (by kernel_rfl)),
 f276:=func145.trans (congrArg some (by kernel_rfl)),
 f277:=func146.trans (congrArg some (by kernel_rfl)),
 t0:=underlying0,
 a0:=isAgg0,
 z0:=sizeOf0,
 v0:=zeroValue0,
 t3:=underlying3,
 a3:=isAgg3,
 z3:=sizeOf3,
 v3:=zeroValue3,
 t4:=underlying4,
 a4:=isAgg4,
 z4:=sizeOf4,
 v4:=zeroValue4,
 t9:=underlying9,
 a9:=isAgg9,
 z9:=sizeOf9,
 v9:=zeroValue9,
 t20:=underlying20,
 a20:=isAgg20,
 z20:=sizeOf20,
 v20:=zeroValue20,
 t31:=underlying146,
 a31:=isAgg146,
 z31:=sizeOf146,
 v31:=zeroValue146,
 t37:=underlying23,
 a37:=isAgg23,
 z37:=sizeOf23,
 v37:=zeroValue23,
 t70:=underlying196,
 a70:=isAgg196,
 z70:=sizeOf196,
 v70:=zeroValue196,
 t72:=underlying198,
 a72:=isAgg198,
 z72:=sizeOf198,
 v72:=zeroValue198,
 t75:=underlying201,
 a75:=isAgg201,
 z75:=sizeOf201,
 v75:=zeroValue201,
 t76:=underlying202,
 a76:=isAgg202,
 z76:=sizeOf202,
 v76:=zeroValue202,
 t127:=underlying241,
 a127:=isAgg241,
 z127:=sizeOf241,
 v127:=zeroValue241,
 t164:=underlying252,
 a164:=isAgg252,
 z164:=sizeOf252,
 v164:=zeroValue252}
theorem Tryz.Iu:Builder.Extra prog Tryz.vq:={
 sizeBuilder:=by kernel_rfl,
 liesBuilder:=by kernel_rfl,
 t5:=underlying5,
 a5:=isAgg5,
 z5:=sizeOf5,
 v5:=zeroValue5,
 infoByte:=by kernel_rfl,
 cellsByte:=by kernel_rfl,
 sizeByte:=by kernel_rfl,
 neB5:=by decide}
namespace bO
theorem Kg(s:ByteArray)(c:UInt8)(w:World):Calls prog 149 #[.string s,.string ⟨#[c]⟩] w λe w'=>e= .returned (.int .i64 (Lib.indexByte s.data.toList c))/\w'=w:=
 Any.strings_Index_one Tryz.Re s c w
end bO
theorem Kh(a:Option Addr)(c:Nat)(sep:ByteArray)(w:World):Calls prog 64 #[.slice a 0 c,.string sep] w λe w'=>e= .returned (.string ⟨#[]⟩)/\w'=w:=
 Any.strings_Join_none Tryz.It Tryz.Iu a c sep w
theorem Rf(bk o c:Nat)(xs:List ByteArray)(sep:ByteArray)(w:World)(dN:∀(j:Nat)x,xs[j]? =some x->w.cell? ⟨bk,o+j,none⟩=some (.string x))(df:bk<w.heap.size)(hN:xs.length<=140737488355328)(bg:xs.length<=c)(hlen:(Lib.join (xs.map (·.data.toList)) sep.data.toList).length<=140737488355328):
  Calls prog 64 #[.slice (some ⟨bk,o,none⟩) xs.length c,.string sep] w λe w'=>e= .returned (.string ⟨(Lib.join (xs.map (·.data.toList)) sep.data.toList).toArray⟩)/\Below w.heap.size w w':=
 Any.strings_Join Tryz.It Tryz.Iu bk o c xs sep w dN df hN bg hlen
namespace bO
attribute [local go_sem] Oper.semAt_some
def ia(c:UInt8):List UInt8->List (List UInt8)
 | []=>[[]]
 |x::r=>if x==c then []::ia c r else match ia c r with
  | []=>[[x]]
  |p::ps=>(x::p)::ps
theorem uk{c:UInt8}:∀{l:List UInt8},Lib.indexByte l c= -1->ia c l=[l]
 | [],_=>rfl
 |x::r,h=>by
  simp only[Lib.indexByte]at h;split at h
  .cases h
  .rename_i hx;split at h
   .rename_i h2;have LD:Lib.indexByte r c= -1:=by simpa using h2
    simp only[ia,hx,uk LD,abR,if_false]
   .have:=Lib.indexByte_ge r c;omega
theorem Ab{c:UInt8}:∀{l:List UInt8}{i:Nat},Lib.indexByte l c=i->i<l.length/\ia c l=l.take i::ia c (l.drop (i+1))
 | [],i,h=>by simp[Lib.indexByte]at h
 |x::r,i,h=>by
  simp only[Lib.indexByte]at h;split at h
  .rename_i hx;have:i=0:=om;subst this;simp[ia,hx]
  .rename_i hx;split at h
   .omega
   .cases i with
    |zero=>
     have:=Lib.indexByte_ge r c;rename_i h2;have:Lib.indexByte r c= -1:=om;simp[this]at h2
    |succ i=>
     have h3:Lib.indexByte r c=i:=om;obtain⟨h4,h5⟩:=Ab h3;refine⟨by simpa using h4,?_⟩
     simp only[ia,hx,h5,abR,if_false];simp
def cI(l:List UInt8):ByteArray:=⟨l.toArray⟩
def iy(c:UInt8)(s:ByteArray):List ByteArray:=(ia c s.data.toList).map cI
end bO
namespace bO
attribute [local go_sem] Oper.semAt_some
def By(w:World)(b o:Nat):Nat:=match w.cell? ⟨b,o,none⟩with|some (.string s)=>s.size|_=>0
theorem xI{w:World}{b o:Nat}{s:ByteArray}(h:w.cell? ⟨b,o,none⟩=some (.string s)):By w b o=s.size:=by simp[By,h]
@[simp] theorem pX(r:List UInt8):(cI r).data.toList=r:=rfl
@[simp] theorem nv(r:List UInt8):(cI r).size=r.length:=by simp[cI,ByteArray.size]
theorem sR(r:List UInt8)(a b:Nat)(hb:b<=r.length):(cI r).extract a b=cI ((r.take b).drop a):=by apply ByteArray.ext;simp[cI,ByteArray.data_extract,List.drop_take]
def abM(F:Fence)(n:Nat)(P:Program)(l:Nat)(args:Array Value)(W:World)(R:Ending->World->Prop):Prop:=
 ∃fn tmps assign body,(Instr.yield l args).run P W= .ok (.round l fn tmps assign body) W/\RoundIn F n P l fn tmps assign body W R
theorem Gp(F:Fence)(n:Nat)(h49:F.fn 147)(h51:F.fn 149)(hro:F.round=none)(hn:3<=n)(s:ByteArray)(c:UInt8)(l b1 o1 b2 o2 b3 o3:Nat)(W:World)(J:Nat->World->Prop)(Jx:World->Prop)(n12:b1≠b2)(n13:b1≠b3)(n23:b2≠b3)(hix:∀(s:ByteArray)(w:World),CallsIn F (n-1) prog 149 #[.string s,.string ⟨#[c]⟩] w λe w'=>e= .returned (.int .i64 (Lib.indexByte s.data.toList c))/\w'=w)(c1:W.cell? ⟨b1,o1,none⟩=some (.string ⟨#[c]⟩))(c2:W.cell? ⟨b2,o2,none⟩=some (.string s))(f2:W.frozen? ⟨b2,o2,none⟩=false)(c3:W.cell? ⟨b3,o3,none⟩=some (.int .i64 0))(hJ:∀k W v,J k W->J k (W.setCell ⟨b2,o2,none⟩ v))(hY:∀k y W,(iy c s)[k]? =some y->J k W->abM F (n-1) prog l #[.string y] W λe W'=>
   (e= .returned (.bool true)/\J (k+1) W'/\W'.heap[b1]? =W.heap[b1]? /\W'.heap[b2]? =W.heap[b2]? /\W'.heap[b3]? =W.heap[b3]?)\/(e= .returned (.bool false)/\Jx W'))(h0:J 0 W)(hsz:(s.size:Int)<4611686018427387904):
  CallsIn F n prog 147 #[.func (.yield l) #[] #[],.pointer (some ⟨b1,o1,none⟩),.pointer (some ⟨b2,o2,none⟩),.pointer (some ⟨b3,o3,none⟩)] W λe W'=>
   (∃v,e= .returned v)/\(J (iy c s).length W'\/Jx W'):=by
 have h1:1<=n:=om;refine callsIn_of_wp func147 rfl h49 ?_ hro;simp only[ntmps147,List.size_toArray,aar,abm,Nat.reduceAdd,Nat.reduceSub,Array.replicate_succ,Array.replicate_zero,List.push_toArray,List.append_toArray,aec,ad5]
 gi_wp2
 gi_loopw [] (λwr=>∃(k:Nat)(r:List UInt8),wr.cell? ⟨b2,o2,none⟩=some (.string (cI r))/\wr.frozen? ⟨b2,o2,none⟩=false/\wr.cell? ⟨b1,o1,none⟩=some (.string ⟨#[c]⟩)/\
   wr.cell? ⟨b3,o3,none⟩=some (.int .i64 0)/\(iy c s).drop k=(ia c r).map cI/\J k wr/\r.length<=s.size) (λwr=>By wr b2 o2)
 case atStart=>
  exact⟨0,s.data.toList,by rw[c2];rfl,f2,c1,c3,rfl,h0,by show s.data.toList.length<=s.data.size;rw[abY];exact Yj _⟩
 case round=>
  obtain⟨k,r,d2,g2,d1,d3,hcut,hj,hlen⟩:=hrel;rcases Int.lt_or_le (Lib.indexByte r c) 0 with hneg|hpos
  .have hm1:Lib.indexByte r c= -1:=by have:=Lib.indexByte_ge r c;omega
   have hix:=(hix (cI r) wr).mono (R':=λe w'=>e= .returned (.int .i64 (-1))/\w'=wr) λe w'⟨h1,h2⟩=>⟨by rw[h1,pX,hm1],h2⟩
   have hk:(iy c s)[k]? =some (cI r):=by
    have:=congrArg (λl=>l[0]?) hcut
    simp only[abi,uk hm1]at this;simpa using this
   have hlen2:(iy c s).length=k+1:=by have h2:=congrArg List.length hcut;have h3:=(Ki.1 hk).1;rw[uk hm1,abu]at h2;simp only[aaR,adK,aar,abm]at h2;omega
   obtain⟨fn,tmps,assign,body,hy,hR⟩:=hY k _ wr hk hj;have hfin:∀W,J (k+1) W->J (iy c s).length W:=λW h=>hlen2▸h
   clear hY hJ hcut hneg hm1 hk c1 c2 f2 c3 h0 hlen2
   gi_wp2_with (gi_at_call 149;refine hix.mono ?_;rintro e w' ⟨rfl,rfl⟩)
   refine hR.mono ?_;rintro e W' (⟨rfl,hJ',_⟩|⟨rfl,hx⟩)
   .gi_wp2
    go_end0
    exact⟨⟨_,rfl⟩,.inl (hfin _ hJ')⟩
   .gi_wp2
    go_end0
    exact⟨⟨_,rfl⟩,.inr hx⟩
  .obtain⟨i,hi⟩:=Int.eq_ofNat_of_zero_le hpos;obtain⟨hlt,hcut2⟩:=Ab hi;have hk:(iy c s)[k]? =some (cI (r.take i)):=by
    have:=congrArg (λl=>l[0]?) hcut
    simp only[abi,hcut2]at this;simpa using this
   have hnext:(iy c s).drop (k+1)=(ia c (r.drop (i+1))).map cI:=by have:=congrArg List.tail hcut;rw[hcut2,List.tail_drop]at this;simpa using this
   obtain⟨fn,tmps,assign,body,hy,hR⟩:=hY k _ wr hk hj;obtain⟨z,hz⟩:∃z:Int,z=(i:Int):=⟨_,rfl⟩;have hix:=(hix (cI r) wr).mono (R':=λe w'=>e= .returned (.int .i64 z)/\w'=wr) λe w'⟨h1,h2⟩=>⟨by rw[h1,pX,hi,hz],h2⟩
   have Hnext:Hid ((iy c s).drop (k+1)=(ia c (r.drop (i+1))).map cI):=hnext;have HJ:Hid (∀k W v,J k W->J k (W.setCell ⟨b2,o2,none⟩ v)):=hJ;have Hz:Hid (z=(i:Int)):=hz;have z0:0<=z:=om;have z0':decide (z<0)=false:=decide_eq_false om;have z1:z<r.length:=om;have hw1:wrap64 z=z:=by unfold wrap64;omega
   have hw2:wrap64 (z+1)=z+1:=by unfold wrap64;omega
   have hs1:(0<=z/\z<=(r.length:Int))=True:=by simp;omega
   have hs2:(0<=z+1/\z+1<=(r.length:Int))=True:=by simp;omega
   have hs3:z<=(r.length:Int):=om;have hs4:0<=z+1:=om;have hs5:z+1<=(r.length:Int):=om;have he1:cI (r.take i)=(cI r).extract 0 z.toNat:=by rw[sR r _ _ om,hz];simp
   have he2:(cI r).extract (z+1).toNat r.length=cI (r.drop (i+1)):=by rw[sR r _ _ (Yj _),aaZ,hz];rfl
   have Hend:Hid (i<r.length/\r.length<=s.size/\(cI r).extract (z+1).toNat r.length=cI (r.drop (i+1))):=⟨hlt,hlen,he2⟩;rw[he1]at hy;clear hJ hY hcut hcut2 hi hk c1 c2 f2 c3 h0 hpos hnext hz hsz he1 he2 hlt hlen
   gi_wp2_with (first
    |(gi_at_call 149;refine hix.mono ?_;rintro e w' ⟨rfl,rfl⟩)
    |(refine wpIn_cond_false (by show Value.bool (decide (z<0))=Value.bool false;rw[z0']) ?_))
   refine hR.mono ?_;rintro e W' (⟨rfl,hJ',e1,e2,e3⟩|⟨rfl,hx⟩)
   .have q1:W'.cell? ⟨b1,o1,none⟩=some (.string ⟨#[c]⟩):=(World.cell?_of_block (a:=⟨b1,o1,none⟩) e1).trans d1;have q2:W'.cell? ⟨b2,o2,none⟩=some (.string (cI r)):=(World.cell?_of_block (a:=⟨b2,o2,none⟩) e2).trans d2;have q3:W'.cell? ⟨b3,o3,none⟩=some (.int .i64 0):=(World.cell?_of_block (a:=⟨b3,o3,none⟩) e3).trans d3;have q4:W'.frozen? ⟨b2,o2,none⟩=false:=by rw[<-g2];simp only[World.frozen?,e2]
    gi_wp2
    obtain⟨hlt,hlen,he2⟩:=Hend.out;have hq:(W'.cell? ⟨b2,o2,none⟩).isSome=true:=by rw[q2];rfl
    have hn2:=World.cell?_setCell_same' W' ⟨b2,o2,none⟩ (.string ((cI r).extract (z+1).toNat r.length)) hq;rw[he2]at hn2|-;refine⟨⟨k+1,r.drop (i+1),hn2,by rw[World.frozen?_setCell];exact q4,?_,?_,Hnext.out,HJ.out _ _ _ hJ',by simp;omega⟩,?_⟩
    .exact(World.cell?_setCell_other _ _ _ _ λe=>n12 (congrArg Addr.block e).symm).trans q1
    .exact(World.cell?_setCell_other _ _ _ _ λe=>n23 (congrArg Addr.block e)).trans q3
    .rw[xI hn2,xI d2,nv,nv,abu];omega
   .gi_wp2
    refine bodyPost_ret (results_none rfl _ _ _) rfl ?_;exact⟨⟨_,rfl⟩,.inr hx⟩
theorem rh(W:World)(a:Addr)(v:Value){b:Nat}(h:b≠a.block):(W.setCell a v).heap[b]? =W.heap[b]? :=by simp only[World.setCell,abf];rw[if_neg (λe=>h e.symm)]
theorem Bz{n:Nat}{P:Program}{l:Nat}{f:FuncId}{tmps:Array Value}{assign body:Code}{w:World}{R:Ending->World->Prop}(h:RoundIn Fence.wide 0 P l f tmps assign body w R):
  RoundIn Fence.wide n P l f tmps assign body w R:=⟨h.1,λc cs _=>h.2 c cs (room_wide _)⟩
theorem Kj(s:ByteArray)(c:UInt8)(hsz:(s.size:Int)<4611686018427387904):Ww prog 147 [.string ⟨#[c]⟩,.string s,.int .i64 0] (iy c s):=by
 refine⟨⟨f147,func147,rfl,by decide⟩,?_⟩
 intro l az W J Jx hlen hnd hcell hJ hJx hY h0
 match az,hlen with
 | [(b1,o1),(b2,o2),(b3,o3)],_=>
 obtain⟨c1,f1⟩:=hcell 0 _ _ rfl rfl;obtain⟨c2,f2⟩:=hcell 1 _ _ rfl rfl;obtain⟨c3,f3⟩:=hcell 2 _ _ rfl rfl;simp only[aaR,adK,abH,aaL,adb,or_false,not_or,List.nodup_nil]at hnd;obtain⟨⟨n12,n13⟩,n23,_⟩:=hnd;show CallsIn Fence.wide 0 prog 147 #[.func (.yield l) #[] #[],.pointer (some ⟨b1,o1,none⟩),.pointer (some ⟨b2,o2,none⟩),.pointer (some ⟨b3,o3,none⟩)] W _;refine callsIn_wide.2 ((callsIn_wide (n:=5)).1 ?_);refine Gp Fence.wide 5 trivial trivial rfl om s c l b1 o1 b2 o2 b3 o3 W J Jx n12 n13 n23 (λs w=>callsIn_wide.2 (Kg s c w)) c1 c2 f2 c3 ?_ ?_ h0 hsz
 .intro k W v hj;exact hJ k W _ hj aC (λb _ hb=>rh _ _ _ (hb (b2,o2) aC)) rfl rfl rfl
 .intro k y W hk hj;obtain⟨fn,tmps,assign,body,hy,hR⟩:=hY k y W hk hj;refine⟨fn,tmps,assign,body,hy,(Bz hR).mono λe W' h=>?_⟩
  rcases h with⟨he,h1,h2,h3⟩|⟨he,h1⟩
  .exact .inl ⟨he,h1,h3 (b1,o1) aC,h3 (b2,o2) aC,h3 (b3,o3) aC⟩
  .exact .inr ⟨he,h1⟩
end bO
def c106:LF:= ⟨52,[.tmp 2],(.seq (.ai [qu 2 (.aN (qb false))]) (.seq (.seq (.ai [qm 5 0,qu 6 (.len 0 5),qu 7 (.aL .lss 6 (qi 1)),qm 8 7,qg 9 (.aN 0) 8 false,qg 10 (.len 0 9) 8 false,qg 11 (.aL .gtr 10 (qi 12)) 8 false,qu 12 (.pick 8 (qb true) 11),qm 13 12,qg 14 (.aN 0) 13 false,qg 15 (.aL .eql 14 (.c (.rv (.one (.ah (.val (.string ⟨#[46]⟩))))))) 13 false,qu 16 (.pick 13 (qb true) 15),qm 17 16,qg 18 (.aN 0) 17 false,qg 19 (.aL .eql 18 (.c (.rv (.one (.ah (.val (.string ⟨#[46,46]⟩))))))) 17 false,qu 20 (.pick 17 (qb true) 19)]) (.cond 20 (.seq (.ai [qu 2 (.aN (qb false))]) .ret) .skip)) (.seq (.seq (.ai [qm 21 0,qu 22 (.len 0 21),qu 23 (.aN (qi 0))]) (.block 0 (.loop (.seq (.ai [qu 24 (.aL .lss 23 22)]) (.seq (.cond 24 .skip (.exit 0)) (.seq (.block 1 (.seq (.ai [qm 25 23,qm 3 25]) (.seq (.ai [qm 26 0,qm 27 3,qu 28 (.CA 26 27),qm 4 28]) (.seq (.ai [qm 29 4,qu 30 (.aL .lss 29 (.c (.rv (.one (.ah (.val (.int .u8 (97)))))))),qm 31 30,qg 32 (.aN 4) 31 false,qg 33 (.aL .gtr 32 (.c (.rv (.one (.ah (.val (.int .u8 (122)))))))) 31 false,qu 34 (.pick 31 (qb true) 33),qm 35 34,qg 36 (.aN 4) 35 true,qg 37 (.aL .lss 36 (.c (.rv (.one (.ah (.val (.int .u8 (48)))))))) 35 true,qg 38 (.aN 37) 35 true,qg 39 (.aN 4) 38 false,qg 40 (.aL .gtr 39 (.c (.rv (.one (.ah (.val (.int .u8 (57)))))))) 38 false,qg 41 (.pick 38 (qb true) 40) 35 true,qu 42 (.pick 35 41 (qb false)),qm 43 42,qg 44 (.aN 4) 43 true,qg 45 (.aL .neq 44 (.c (.rv (.one (.ah (.val (.int .u8 (46)))))))) 43 true,qu 46 (.pick 43 45 (qb false)),qm 47 46,qg 48 (.aN 4) 47 true,qg 49 (.aL .neq 48 (.c (.rv (.one (.ah (.val (.int .u8 (95)))))))) 47 true,qu 50 (.pick 47 49 (qb false))]) (.cond 50 (.seq (.ai [qu 2 (.aN (qb false))]) .ret) .skip))))) (.ai [qu 51 (.aL .add 23 (qi 1)),qm 23 51]))))))) (.seq (.ai [qu 2 (.aN (qb true))]) .ret))))⟩
namespace bO
abbrev dU:=List UInt8
def vT(t:dU):CV:=fe (cI t)
theorem BA(s:ByteArray):∃t:dU,s=cI t:=⟨s.data.toList,rfl⟩
theorem vr(t:dU):(cI t).toList=t:=ByteArray.toList_mk t
theorem lH{a b:dU}{A B:Prop}(ha:a=b->A)(hb:a≠b->B): @Bool.rec (λ_=>Prop) B A ((cI a).toList==(cI b).toList):=by
 rw[vr,vr];cases h:(a==b)
 .exact hb (by simpa using h)
 .exact ha (by simpa using h)
def N8(n:Nat):Bool:=(decide (97<=n)&&decide (n<=122))||(decide (48<=n)&&decide (n<=57))||decide (n=46)||decide (n=95)
def f9(t:dU):Bool:=decide (1<=t.length)&&decide (t.length<=12)&&decide (t≠[46])&&decide (t≠[46,46])&&t.all λc=>N8 c.toNat
theorem Gq{t:dU}{k:Nat}(hk:k<t.length)(h:N8 t[k].toNat=false):f9 t=false:=by
 have:(t.all λc=>N8 c.toNat)=false:=by
  rw[List.all_eq_false];exact⟨t[k],aay hk,by simp[h]⟩
 simp[f9,this]
theorem Gr{t:dU}(h1:1<=t.length)(h2:t.length<=12)(h3:t≠[46])(h4:t≠[46,46])(h:∀k(hk:k<t.length),N8 t[k].toNat=true):f9 t=true:=by
 have:(t.all λc=>N8 c.toNat)=true:=by rw[abr];intro c hc;obtain⟨k,hk,rfl⟩:=List.mem_iff_getElem.1 hc;exact h k hk
 simp[f9,this,h1,h2,h3,h4]
theorem X8{n:Nat}(h1:¬(97<=n/\n<=122))(h2:¬(48<=n/\n<=57))(h3:n≠46)(h4:n≠95):N8 n=false:=by
 have a:¬(97<=n)\/¬(n<=122):=om;have b:¬(48<=n)\/¬(n<=57):=om;unfold N8;rcases a with a|a<;>rcases b with b|b<;>simp[a,b,h3,h4]
theorem X9{n:Nat}(h:(97<=n/\n<=122)\/(48<=n/\n<=57)\/n=46\/n=95):N8 n=true:=by
 unfold N8;rcases h with⟨a,b⟩|⟨a,b⟩|h|h<;>simp_all
theorem l106:bz prog f106=some c106:=by kernel_rfl
theorem abO{t:dU}{k:Nat}(hk:k<t.length):dA (cI t).data.toList (k:Nat)=some t[k]:=by rw[bG,pX,vR hk]
theorem gL(t:dU):(((cI t).size:Nat):Int)=t.length:=by rw[nv]
theorem ul(t:dU):body prog c106 [vT t] [] (λr m=>r=aF (f9 t)):=by
 refine aP (λh=>?_) (λh=>?_)
 .rw[gL]at h;have:f9 t=false:=by simp[f9];omega
  rw[this];rfl
 rw[gL]at h;refine aP (λh2=>?_) (λh2=>?_)
 .rw[gL]at h2;have:f9 t=false:=by simp[f9];omega
  rw[this];rfl
 rw[gL]at h2;refine lH (b:=[46]) (λh3=>?_) (λh3=>?_)
 .subst h3;rfl
 refine lH (b:=[46,46]) (λh4=>?_) (λh4=>?_)
 .subst h4;rfl
 refine ba (λk=>k<=t.length/\∀j(hj:j<t.length),j<k->N8 t[j].toNat=true) [0] (λk=>[(22,an .i64 (t.length:Nat)),(23,an .i64 (k:Nat))]) (λ_=>[]) (λk=>t.length-k) 0 ⟨aav _,λj _ h=>absurd h (aa9 _)⟩ ?_ (λk hk=>?_)
 .refine View.o 0 [] [] ?_ (.nil _);repeat(first|exact .nil|refine .aH ?_|refine .eq rfl ?_|refine .put (.bh (by rw[gL];rfl)) ?_)
 obtain⟨hk,f4⟩:k<=t.length/\∀j(hj:j<t.length),j<k->N8 t[j].toNat=true:=hk;refine aP (λh5=>?_) (λh5=>?_)
 .have aD:k<t.length:=by have h5:(k:Int)<(t.length:Int):=h5;omega
  refine af (abO aD) ?_;repeat' first|refine aP (λ_=>?_) (λ_=>?_)|refine bv (λ_=>?_) (λ_=>?_)
  all_goals first
   |(show aF false=aF (f9 t)
     rw[Gq aD (X8 om om om om)])
   |(refine⟨k+1,⟨aD,λj hj hjk=>?_⟩,(show t.length-(k+1)<t.length-k by omega),View.o 0 [] [] ?_ (.nil _)⟩
     .rcases aag j k with h|h
      .exact f4 j hj h
      .have:j=k:=om;subst this;exact X9 om
     .repeat(first|exact .nil|refine .aH ?_|refine .put (.bh (cR om).symm) ?_|refine .eq rfl ?_))
 .show aF true=aF (f9 t);have h5:¬(k:Int)<(t.length:Int):=h5;rw[Gr om om h3 h4 λj hj=>f4 j hj om]
theorem BB(t:dU){m:Mem}{K:CV->Mem->Prop}(h:K (aF (f9 t)) m):aq prog 106 [vT t] m K:=
 bC func106 l106 rfl (aap rfl) (ul t) rfl rfl h
end bO
def c66:LF:= ⟨37,[.cell false 1 2,.cell false 1 3,.cell false 1 4],(.seq (.ai [qu 2 (.alloc [.aM]),qu 3 (.alloc [(.ah (.val (.bool false)))]),qu 4 (.alloc [qd 0])]) (.seq (.seq (.ai [qm 7 0,qu 8 (.aL .eql 7 (.c (.rv (.one (.ah (.val (.string ⟨#[]⟩)))))))]) (.cond 8 (.seq (.ai [qw (.store 1 2 qe),qw (.store 1 3 (qb false)),qw (.store 1 4 (qi 2))]) .ret) .skip)) (.seq (.seq (.ai [qm 9 0,qu 10 (.len 0 9),qu 11 (.aL .gtr 10 (qi 60))]) (.cond 11 (.seq (.ai [qw (.store 1 2 qe),qw (.store 1 3 (qb false)),qw (.store 1 4 (qi 4))]) .ret) .skip)) (.seq (.ai [qu 5 (.alloc [.aM])]) (.seq (.seq (.ai [qm 12 0,qu 13 (qc 105 [12,(.c (.rv (.one (.ah (.val (.string ⟨#[47]⟩))))))])]) (.block 0 (.yO 13 14 (.ai [qm 6 14]) (.block 1 (.block 2 (.seq (.ai [qm 16 6,qu 17 (.aL .eql 16 (.c (.rv (.one (.ah (.val (.string ⟨#[]⟩))))))),qm 18 17,qg 19 (.aN 6) 18 false,qg 20 (.aL .eql 19 (.c (.rv (.one (.ah (.val (.string ⟨#[46]⟩))))))) 18 false,qu 21 (.pick 18 (qb true) 20),qm 15 21]) (.cond 15 .skip (.seq (.ai [qm 23 6,qu 24 (.aL .eql 23 (.c (.rv (.one (.ah (.val (.string ⟨#[46,46]⟩))))))),qm 25 24,qg 26 (.aN 6) 25 false,qg 27 (qc 106 [26]) 25 false,qu 28 (.pick 25 (qb true) 27),qm 22 28]) (.cond 22 (.ai [ql 29 5,qm 30 6,qu 31 (.nI 1 [(.ah (.val (.string ⟨#[]⟩)))] 1 [(0,30)]),qu 32 (.oL 1 16 29 31),qw (.store 1 5 32)]) (.seq (.ai [qw (.store 1 2 qe),qw (.store 1 3 (qb false)),qw (.store 1 4 (qi 7))]) .ret)))))))))) (.seq (.bV [ql 33 5,qm 34 0,qu 35 (.CA 34 (qi 0)),qu 36 (.aL .eql 35 (.c (.rv (.one (.ah (.val (.int .u8 (47)))))))),qw (.store 1 2 33),qw (.store 1 3 36),qw (.store 1 4 (qi 0))] [(eE 4 0 (.cons 4 (some []) (.cons 5 (some []) (.cons 6 (some []) .nil))))]) .ret))))))⟩
def c105:LF:= ⟨8,[.tmp 4],(.seq (.ai [qu 4 (.aN (.c (.rv (.one (.ah (.val .nilFunc))))))]) (.seq (.ai [qm 5 0,qm 6 1,qu 7 (qc 131 [5,6,qi 0]),qm 4 7]) .ret))⟩
def c131:LF:= ⟨8,[.tmp 6],(.seq (.ai [qu 3 (.box 0),qu 4 (.box 1),qu 5 (.box 2),qu 6 (.aN (.c (.rv (.one (.ah (.val .nilFunc))))))]) (.seq (.ai [qu 7 (.fn 147 [4,3,5]),qm 6 7]) .ret))⟩
namespace bO
theorem l131:bz prog f131=some c131:=by kernel_rfl
theorem l105:bz prog f105=some c105:=by kernel_rfl
def Ya(s:ByteArray):Bk:= .var [.ah (.val (.string s))]
def sqM(s sep:ByteArray)(b0 b1 b2 b3:Bk):Mem:=[b0,b1,b2,b3,Ya s,Ya sep,.var [.ah (.val (.int .i64 0))]]
theorem abP(s sep:ByteArray){b0 b1 b2 b3:Bk}{K:CV->Mem->Prop}(h:K (.rv (.one (.fn 147 [5,4,6]))) (sqM s sep b0 b1 b2 b3)):aq prog 131 [fe s,fe sep,an .i64 0] [b0,b1,b2,b3] K:=
 bc func131 l131 h
theorem abQ(s sep:ByteArray){b0 b1 b2 b3:Bk}{K:CV->Mem->Prop}(h:K (.rv (.one (.fn 147 [5,4,6]))) (sqM s sep b0 b1 b2 b3)):aq prog 105 [fe s,fe sep] [b0,b1,b2,b3] K:=by refine bc func105 l105 ?_;exact abP s sep h
theorem xJ(c:UInt8):∀t:dU,(ia c t).length<=t.length+1
 | []=>by simp[ia]
 |x::r=>by
  have ih:=xJ c r;simp only[ia];split
  .simp;exact ih
  .split
   .simp
   .rename_i h;rw[h]at ih;simp at ih|-;omega
theorem dg(a b:List (List Dt)):aa (a++b)=aa a++aa b:=by simp[aa]
theorem Rg(c:UInt8)(r:dU):decide ((c::r)[0]? =some 47)=((c.toNat:Int)==47):=by
 by_cases h:c=47
 .subst h;rfl
 .have h2:(c.toNat:Int)≠47:=by
   intro e;have e2:c.toNat=(47:UInt8).toNat:=by show c.toNat=47;omega
   exact h (UInt8.toNat_inj.1 e2)
  simp[h,h2]
theorem l66:bz prog f66=some c66:=by kernel_rfl
def tD(t:dU):List Dt:=[.val (.string (cI t))]
def ZS(l:List dU):Dt:= .sl 1 (l.map tD)
def txV(l:List dU):CV:= .rv (.one (.ah (ZS l)))
def sS(w:dU):Bool:= !(decide (w=[])||decide (w=[46]))
def sU(w:dU):Bool:=decide (w=[])||decide (w=[46])||decide (w=[46,46])||f9 w
def BC(t:dU):List dU:=(ia 47 t).filter sS
def cO(t:dU):List dU×Bool×Int:=
 if t=[]then([],false,2)else if 60<t.length then([],false,4)else if(ia 47 t).all sU then(BC t,decide (t[0]? =some 47),0)else([],false,7)
def UU(p:List dU×Bool×Int):CV:= .bx [.one (.ah (ZS p.1)),.one (.ah (.val (.bool p.2.1))),.one (.ah (.val (.int .i64 p.2.2)))]
def pt(id:Nat):CV:= .rv (.one (.ptr id 0))
def Rh(t:dU):List CV:=vT t:: .aH::pt 0::pt 1::pt 2::pt 3::gH 31 .aH
def UW:List dU->Mem
 | []=>[.var [.aM],.var [.ah (.val (.bool false))],.var [.ah (.val (.int .i64 0))],.var [.aM]]
 |x::r=>[.var [.aM],.var [.ah (.val (.bool false))],.var [.ah (.val (.int .i64 0))],.var [.row 4 1 0 none],.row 1 (aa ((x::r).map tD))]
theorem Gt{c:UInt8}{t:dU}{k:Nat}{y:ByteArray}(h:(iy c (cI t))[k]? =some y):∃w,(ia c t)[k]? =some w/\y=cI w:=by
 simp only[iy,pX,Tr]at h;cases hc:(ia c t)[k]? with
 |none=>rw[hc]at h;cases h
 |some w=>rw[hc]at h;cases h;exact⟨w,rfl,rfl⟩
theorem mI{m:Mem}{c:CC}{l:List dU}{b:Bool}{e:Int}(h:ff m c (.ah (ZS l))):cN m (.bx [.one c,.one (.ah (.val (.bool b))),.one (.ah (.val (.int .i64 e)))]) (UU (l,b,e)):=by
 refine .bx rfl λi r r' h1 h2=>?_
 match i with
 |0=>cases h1;cases h2;exact .one h
 |1=>cases h1;cases h2;exact .one (.ah _)
 |2=>cases h1;cases h2;exact .one (.ah _)
 |n+3=>simp at h1
theorem Gu(t:dU):body prog c66 [vT t] [] (λr m=>cN m r (UU (cO t))):=by
 refine lH (b:=[]) (λh=>?_) (λh0=>?_)
 .subst h;exact mI (.aM 1)
 refine aP (λh=>?_) (λh1=>?_)
 .rw[gL]at h;have:cO t=([],false,4):=by rw[cO,if_neg h0,if_pos om]
  rw[this];exact mI (.aM 1)
 rw[gL]at h1;refine abQ (cI t) ⟨#[47]⟩ ?_;refine⟨147,[5,4,6],[.string ⟨#[47]⟩,.string (cI t),.int .i64 0],iy 47 (cI t),List dU,λk out=>out=((ia 47 t).take k).filter sS/\((ia 47 t).take k).all sU=true,λout=>⟨Rh t,UW out⟩,rfl,
  ⟨⟨rfl,rfl⟩,⟨rfl,rfl⟩,⟨rfl,rfl⟩,trivial⟩,⟨by decide,aC⟩,Kj (cI t) 47 (by rw[gL];omega),⟨[],⟨aC,aC⟩,?_⟩,?_,?_⟩
 .refine View.o1 7 [0,1,2,3] [] ?_
  .repeat(first|exact .nil _|refine .put (by simp[bD]) rfl (.eq rfl aC) ?_)
 .intro k y out hk hJ;obtain⟨w,hw,rfl⟩:=Gt hk;obtain⟨ho,hg⟩:=hJ;have Th:(ia 47 t).take (k+1)=(ia 47 t).take k++ [w]:=by rw[abG,hw];rfl
  have skip:w=[]\/w=[46]->out=((ia 47 t).take (k+1)).filter sS/\((ia 47 t).take (k+1)).all sU=true:=by
   intro h;rw[Th,adU,List.all_append,<-ho,hg];rcases h with rfl|rfl<;>simp[sS,sU]
  have eX:w≠[]->w≠[46]->(w=[46,46]\/f9 w=true)->out++ [w]=((ia 47 t).take (k+1)).filter sS/\((ia 47 t).take (k+1)).all sU=true:=by
   intro h1 h2 h3;rw[Th,adU,List.all_append,<-ho,hg];rcases h3 with rfl|h3
   .simp[sS,sU]
   .simp[sS,sU,h1,h2,h3]
  have bad:w≠[]->w≠[46]->w≠[46,46]->f9 w=false->cO t=([],false,7):=by
   intro h1 h2 h3 h4;have:(ia 47 t).all sU=false:=by
    rw[List.all_eq_false];exact⟨w,Tu hw,by simp[sU,h1,h2,h3,h4]⟩
   rw[cO,if_neg h0,if_neg om,this];rfl
  have hlen:out.length<=61:=by
   rw[ho];have h2:=acY sS ((ia 47 t).take k);have h3:=xJ 47 t;have h4:((ia 47 t).take k).length<=(ia 47 t).length:=by rw[aaE];omega
   omega
  clear ho hg Th hk;cases out with
  |nil=>
   have dH:View 0 ⟨Rh t,UW []⟩ ⟨Rh t,UW []⟩:=by
    refine View.o1 4 [0,1,2,3] [] ?_
    .repeat(first|exact .nil _|refine .put (by simp[bD]) rfl (.eq rfl aC) ?_)
   have iu:∀m,m=([.var [.aM],.var [.ah (.val (.bool false))],.var [.ah (.val (.int .i64 0))],.var [.row 5 1 0 none],.aU,.row 1 ([]++ [[.ah (.val (.string (cI w)))]])]:Mem)->View 0 ⟨Rh t,m⟩ ⟨Rh t,UW ([]++ [w])⟩:=by
    rintro m rfl;refine View.o1 6 [0,1,2,3,5] [] ?_
    .repeat(first|exact .nil _|refine .put (by simp[bD]) rfl (.eq rfl aC) ?_)
   refine lH (b:=[]) (λe1=>?_) (λe1=>?_)
   .exact⟨[],skip (.inl e1),dH⟩
   refine lH (b:=[46]) (λe2=>?_) (λe2=>?_)
   .exact⟨[],skip (.inr e2),dH⟩
   refine lH (b:=[46,46]) (λe3=>?_) (λe3=>?_)
   .exact⟨(show 1*16<=140737488355328 by omega),_,eX e1 e2 (.inl e3),iu _ rfl⟩
   .refine BB w ?_;refine aJ (λe4=>?_) (λe4=>?_)
    .exact⟨(show 1*16<=140737488355328 by omega),_,eX e1 e2 (.inr e4),iu _ rfl⟩
    .rw[bad e1 e2 e3 e4];exact mI (.aM 1)
  |cons x r=>
   have dH:View 0 ⟨Rh t,UW (x::r)⟩ ⟨Rh t,UW (x::r)⟩:=by
    refine View.o1 5 [0,1,2,3,4] [] ?_
    .refine .put (by simp[bD]) rfl (.eq rfl aC) (.put (by simp[bD]) rfl (.eq rfl aC) (.put (by simp[bD]) rfl (.eq rfl aC) (.put (by simp[bD]) rfl (.eq rfl aC) (.put (by simp[bD]) rfl (.bM rfl) (.nil _)))))
   have iu:∀m,m=([.var [.aM],.var [.ah (.val (.bool false))],.var [.ah (.val (.int .i64 0))],.var [.row 6 1 0 none],.aU,.aU,.row 1 (aa ((x::r).map tD)++ [[.ah (.val (.string (cI w)))]])]:Mem)->View 0 ⟨Rh t,m⟩ ⟨Rh t,UW ((x::r)++ [w])⟩:=by
    rintro m rfl;refine View.o1 7 [0,1,2,3,6] [] ?_
    .refine .put (by simp[bD]) rfl (.eq rfl aC) (.put (by simp[bD]) rfl (.eq rfl aC) (.put (by simp[bD]) rfl (.eq rfl aC) (.put (by simp[bD]) rfl (.eq rfl aC) (.put (by simp[bD]) rfl (.bM ?_) (.nil _)))))
     show _=aa (((x::r)++ [w]).map tD);rw[abn,dg];rfl
   have tw:((aa ((x::r).map tD)).length+1)*16<=140737488355328:=by simp[aa];simp at hlen;omega
   refine lH (b:=[]) (λe1=>?_) (λe1=>?_)
   .exact⟨_,skip (.inl e1),dH⟩
   refine lH (b:=[46]) (λe2=>?_) (λe2=>?_)
   .exact⟨_,skip (.inr e2),dH⟩
   refine lH (b:=[46,46]) (λe3=>?_) (λe3=>?_)
   .exact⟨tw,_,eX e1 e2 (.inl e3),iu _ rfl⟩
   .refine BB w ?_;refine aJ (λe4=>?_) (λe4=>?_)
    .exact⟨tw,_,eX e1 e2 (.inr e4),iu _ rfl⟩
    .rw[bad e1 e2 e3 e4];exact mI (.aM 1)
 .intro out hJ;obtain⟨ho,hg⟩:=hJ;have jY:(iy 47 (cI t)).length=(ia 47 t).length:=by simp[iy]
  rw[jY,aaZ]at ho hg;have hs:cO t=(out,decide (t[0]? =some 47),0):=by rw[cO,if_neg h0,if_neg om,hg];simp[BC,ho]
  rw[hs];obtain⟨c,r,rfl⟩:∃c r,t=c::r:=by
   cases t with
   |nil=>exact absurd rfl h0
   |cons c r=>exact⟨c,r,rfl⟩
  have hc:decide ((c::r)[0]? =some 47)=((c.toNat:Int)==47):=Rg c r;cases out with
  |nil=>
   rw[hc];refine⟨trivial,trivial,trivial,?_⟩;exact mI (l:=[]) (c:= .aM) (.aM 1)
  |cons x r=>
   rw[hc];refine⟨trivial,trivial,trivial,?_⟩;exact mI (l:=x::r) (c:= .row 4 1 0 none) (ff.fg (ds:=(x::r).map tD) rfl 0 none)
theorem xK(t:dU){m:Mem}{K:CV->Mem->Prop}(h:K (UU (cO t)) m):aq prog 66 [vT t] m K:=
 bi (bc func66 l66 (Gu t)) (by simp[vT,fe,CV.dC,CC.dC]) λr m1 hf=>⟨_,hf,h⟩
end bO
namespace bO
theorem bj(l:List (List Dt)):(aa l).length=l.length:=by simp[aa]
end bO
def obZ:Ob:=⟨0,[],[],⟨#[]⟩,0,noD,0,0,0⟩
def l6(l:List Ob)(n:Nat):Ob:=(l[n]?).getD obZ
theorem um{l:List Ob}{n:Nat}(h:n<l.length):l6 l n=l[n]:=by rw[l6,vR h];rfl
structure R4 where
 bp:Int
 cL:Int
 name:bO.dU
 fp:Int
def R4.no(e:Int):R4:=⟨0,0,[],e⟩
def i9(o:Ob):List NE:=o.ak.map ou
def mN(l:List Ob)(dp:Nat)(w:bO.dU):Int:=fW (i9 (l6 l dp)) (bO.cI w)
def BD(l:List Ob)(dp:Nat):Nat:=(l6 l dp).up.toNat
def Iv(l:List Ob)(ar:Nat)(ay follow:Bool)(rec:Nat->List bO.dU->Nat->R4):List bO.dU->Nat->R4
 | [],a=>⟨a,BD l a,[],0⟩
 |w::rest,a=>
  if(l6 l a).ag≠2 then R4.no 11
  else if w=[46,46]then(if ay=true/\a=ar then R4.no 14 else Iv l ar ay follow rec rest (BD l a))
  else if mN l a w<0 then(if rest≠[]then R4.no 6 else⟨-1,a,w,0⟩)
  else if(l6 l (mN l a w).toNat).ag=3/\(follow=true\/rest≠[])then rec a rest (mN l a w).toNat
  else if rest=[]then⟨mN l a w,a,w,0⟩
  else Iv l ar ay follow rec rest (mN l a w).toNat
def N9(l:List Ob)(k:Nat):bO.dU:=(l6 l k).target.data.toList
def Ri(l:List Ob)(ay:Bool)(wk:List bO.dU->Nat->R4)(a:Nat)(rest:List bO.dU)(k:Nat):R4:=
 if(bO.cO (N9 l k)).2.2≠0 then R4.no (bO.cO (N9 l k)).2.2
 else if(bO.cO (N9 l k)).2.1=true/\ay=true then R4.no 14
 else wk ((bO.cO (N9 l k)).1++rest) (if(bO.cO (N9 l k)).2.1=true then 0 else a)
def Cx(l:List Ob)(ar:Nat)(ay follow:Bool):Nat->List bO.dU->Nat->R4
 |0=>Iv l ar ay follow λ_ _ _=>R4.no 13
 |n+1=>Iv l ar ay follow (Ri l ay (Cx l ar ay follow n))
def qD(l:List Ob)(ar:Int)(s:bO.dU)(ay follow:Bool):R4:=
 if pa l ar 0=true then
  if(l6 l ar.toNat).ag≠2 then R4.no 11
  else if(bO.cO s).2.2≠0 then R4.no (bO.cO s).2.2
  else if(bO.cO s).2.1=true/\ay=true then R4.no 14
  else Cx l ar.toNat ay follow 6 (bO.cO s).1 (if(bO.cO s).2.1=true then 0 else ar.toNat)
 else R4.no 6
structure n8(l:List Ob):Prop where
 len:l.length<=64
 pos:0<l.length
 en:∀o,o∈l->XR l.length o.ag o.ak
 ne:∀o,o∈l->o.ak.length<=64
 up:∀o,o∈l->0<=o.up/\o.up<l.length
theorem n8.UX{l:List Ob}(h:n8 l)(n:Nat):BD l n<l.length:=by
 rw[BD,l6];cases hn:l[n]? with
 |none=>show(0:Int).toNat<l.length;have:=h.pos;simpa using this
 |some o=>have:=h.up o (Tu hn);show o.up.toNat<l.length;omega
theorem n8.Oa{l:List Ob}(h:n8 l){n:Nat}(hn:n<l.length):l[n].up=(BD l n:Nat):=by rw[BD,um hn];have:=h.up _ (aay hn);omega
theorem n8.dQ{l:List Ob}(h:n8 l)(n:Nat):FV (i9 (l6 l n))/\(∀e,e∈i9 (l6 l n)->0<=e.2/\e.2<(l.length:Int))/\(i9 (l6 l n)).length<=64/\∀hn:n<l.length,l[n].ak=(i9 (l6 l n)).map gl:=by
 rw[l6];cases hn:l[n]? with
 |none=>
  refine⟨List.Pairwise.nil,by simp[i9,obZ],by simp[i9,obZ],λh=>?_⟩
  rw[vR h]at hn;cases hn
 |some o=>
  obtain⟨es,h1,h2,h3,h4⟩:=(h.en o (Tu hn)).ex;have h5:i9 o=es:=by rw[i9,h1,nV]
  show FV (i9 o)/\(∀e,e∈i9 o->_)/\(i9 o).length<=64/\∀hn:n<l.length,l[n].ak=(i9 o).map gl;rw[h5];refine⟨h2,h3,?_,λh=>?_⟩
  .have:=h.ne o (Tu hn);rw[h1,N7]at this;exact this
  .rw[vR h]at hn;cases hn;exact h1
theorem n8.UY{l:List Ob}(h:n8 l)(n:Nat)(w:bO.dU)(hf:¬mN l n w<0):∃k:Nat,mN l n w=k/\k<l.length:=by
 obtain⟨_,h2,_,_⟩:=h.dQ n;rcases i3 (i9 (l6 l n)) (bO.cI w)with⟨e,he,_,h3⟩|⟨h3,_⟩
 .obtain⟨h4,h5⟩:=h2 e he;exact⟨e.2.toNat,by rw[mN,h3];omega,om⟩
 .rw[mN,h3]at hf;omega
theorem Oc{a b:ByteArray}:lG a b<0↔Bf a b:=by
 unfold lG Bf;by_cases h:Tp a b=true
 .rw[if_pos h];exact⟨λ_=>h,λ_=>om⟩
 .rw[if_neg h];refine⟨λh2=>?_,λh2=>absurd h2 h⟩
  split at h2<;>omega
theorem xL{a b:ByteArray}:lG a b=0↔a.toList=b.toList:=by
 unfold lG;by_cases h:Tp a b=true
 .rw[if_pos h];refine⟨λh2=>om,λh2=>?_⟩
  rw[Tp,h2,o9]at h;cases h
 .rw[if_neg h];rw[ado]at h;by_cases h2:V7 a b=true
  .rw[if_pos h2];refine⟨λh3=>om,λh3=>?_⟩
   unfold V7 at h2;rw[h3]at h2;simp at h2
  .rw[if_neg h2];refine⟨λ_=>?_,λ_=>rfl⟩
   unfold V7 at h2;unfold Tp at h;rw[h]at h2;simpa using h2
theorem pw{es:List NE}(hs:FV es)(s:ByteArray):∀(n i j:Nat),j-i<=n->i<=j->j<=es.length->(∀(k:Nat)e,k<i->es[k]? =some e->Bf e.1 s)->(∀(k:Nat)e,j<=k->es[k]? =some e->¬Bf e.1 s)->
  Kf es s n i j<=es.length/\(∀(k:Nat)e,k<Kf es s n i j->es[k]? =some e->Bf e.1 s)/\∀(k:Nat)e,Kf es s n i j<=k->es[k]? =some e->¬Bf e.1 s
 |0,i,j,hn,p5,hj,h1,h2=>by have:i=j:=om;subst this;exact⟨hj,h1,h2⟩
 |n+1,i,j,hn,p5,hj,h1,h2=>by
  rw[Kf];by_cases aD:i<j
  .rw[if_pos aD];have hh:(i+j)/2<es.length:=om;rw[vR hh];simp only[];have hp:=abW.1 hs;by_cases hc:lG es[(i+j)/2].1 s<0
   .rw[if_pos hc];refine pw hs s n _ _ om om hj (λk e hk he=>?_) h2
    have iB:=Oc.1 hc;obtain⟨gA,rfl⟩:=Ki.1 he;rcases aag k ((i+j)/2)with h3|h3
    .exact sH (hp k _ gA hh h3) iB
    .have:k=(i+j)/2:=om;subst this;exact iB
   .rw[if_neg hc];refine pw hs s n _ _ om om om h1 λk e hk he hl=>?_
    have iB:¬Bf es[(i+j)/2].1 s:=λh=>hc (Oc.2 h)
    obtain⟨gA,rfl⟩:=Ki.1 he;rcases aag ((i+j)/2) k with h3|h3
    .exact iB (sH (hp _ k hh gA h3) hl)
    .have:k=(i+j)/2:=om;subst this;exact iB hl
  .rw[if_neg aD];have:i=j:=om;subst this;exact⟨hj,h1,h2⟩
theorem Iw{es:List NE}(hs:FV es)(s:ByteArray):Bg es s (if Bx es s=true then(match es[rf es s]? with|some e=>e.2|none=>0)else -1):=by
 obtain⟨h0,h1,h2⟩:=pw hs s es.length 0 es.length om om om (λk e hk=>absurd hk (aa9 k)) (λk e hk he=>by have:=(Ki.1 he).1;omega)
 have hI:Kf es s es.length 0 es.length=rf es s:=rfl;rw[hI]at h0 h1 h2;unfold Bx;cases he:es[rf es s]? with
 |none=>
  simp only[];rw[if_neg aC];refine .inr ⟨rfl,λe hm heq=>?_⟩
  obtain⟨k,hk⟩:=aab hm;have gA:=(Ki.1 hk).1;have:es.length<=rf es s:=adu.1 he;have:=h1 k e om hk;rw[Bf,heq,o9]at this;cases this
 |some e=>
  simp only[];by_cases hc:lG e.1 s=0
  .rw[if_pos (by rw[hc];rfl)]
   exact .inl ⟨e,Tu he,xL.1 hc,rfl⟩
  .rw[if_neg (by simpa using hc)]
   refine .inr ⟨rfl,λe' hm heq=>?_⟩
   obtain⟨k,hk⟩:=aab hm;obtain⟨gA,Bi⟩:=Ki.1 hk;obtain⟨M4,nT⟩:=Ki.1 he;rcases adj k (rf es s)with h3|h3|h3
   .have:=h1 k e' h3 hk;rw[Bf,heq,o9]at this;cases this
   .subst h3;rw[he]at hk;cases hk;exact hc (xL.2 heq)
   .have hp:=abW.1 hs _ k M4 gA h3;rw[nT,Bi]at hp;have jT:=h2 _ e (Yj _) he;apply jT;rw[Bf,<-heq];exact hp
theorem BE(d:List (List Dt))(hb:d.length<=4194304):body prog c97 [sC 1 d] [] (λr m=>∃r' m',View 0 ⟨[r],m⟩ ⟨[r'],m'⟩/\r'= .rv (.one (.row 0 1 0 none))/\m'=[.row 1 (aa d)]):=by
 have tw:((([]:List (List CC)).length+(d.map λds=>ds.map CC.ah).length)*1)<=140737488355328:=by simp;omega
 have iu:∃r' m',View 0 ⟨[CV.rv (.one (.row 1 1 0 none))],[.aU,.row 1 (b7 ([]:List (List CC)) 0 none++d.map λds=>ds.map CC.ah)]⟩ ⟨[r'],m'⟩/\r'=CV.rv (.one (.row 0 1 0 none))/\m'=[Bk.row 1 (aa d)]:=
  ⟨_,_,View.o 2 [1] [] (.eq rfl .nil) (.pn rfl rfl rfl),rfl,rfl⟩
 refine aJ (λh=>?_) (λh=>?_)
 .have hd:d=[]:=aaq (by simpa using aau h)
  refine⟨?_,tw,iu⟩;subst hd;exact⟨_,_,View.aM 0 1 0 rfl rfl rfl,rfl,rfl⟩
 .exact⟨tw,iu⟩
theorem iz(Y:Nat->Nat)(ds:List (List Dt)):(aa ds).map (λcs=>cs.map (CC.bh Y))=aa ds:=by simp[aa,adA,CC.bh]
theorem Gv(d:List (List Dt))(hb:d.length<=4194304){m:Mem}{K:CV->Mem->Prop}(h:K (.rv (.one (.row m.length 1 0 none))) (m++ [.row 1 (aa d)])):aq prog 97 [sC 1 d] m K:=by
 refine bw [] m.length rfl rfl rfl rfl (args0:=[sC 1 d]) rfl (λi b' hi=>by simp at hi) (K0:=λr m=>r= .rv (.one (.row 0 1 0 none))/\m=[.row 1 (aa d)]) (bL (bc func97 l97 (BE d hb)) λr m1 h=>h) (λr m1 hr=>?_)
 obtain⟨rfl,rfl⟩:=hr;refine⟨aav _,?_⟩;show K (.rv (.one (.row (m.length+(0-0)) 1 0 none))) (gI m [.row 1 ((aa d).map (λcs=>cs.map (CC.bh (sg [] m.length))))])
 rw[iz,cg];exact h
def oG(Q:Nat)(o:Obj):List CC:=[.ah (.val (.int .i64 o.ag)),.row Q 1 0 none,.ah (.sl 2 o.ak),.ah (.val (.string o.target)),.ah (.val (.int .i64 o.bs)),
 .ah (.sl 4 (o.ax.map dn.enc)),.ah (.val (.int .i64 o.be)),.ah (.val (.int .i64 o.am)),.ah (.val (.int .i64 o.up))]
def abS(o:Obj):Nat->Mem
 |0=>[.row 9 [],.aU]
 |_+1=>[.row 9 [oG 1 o],.row 1 (aa o.data)]
theorem Kk(o:Obj)(hf:o.oD):body prog c98 [cC [o]] [] (λr m=>r= .rv (.one (.row 0 9 0 none))/\m=[.row 9 [oG 1 o],.row 1 (aa o.data)]):=by
 obtain⟨ag,data,ak,target,bs,ax,be,am,up⟩:=o;obtain⟨Nm,LP,S7,LQ⟩:=hf;have Nm:data.length<=4194304:=Nm;have LP:ak.length<=4194304:=LP;have S7:ax.length<=4194304:=S7;have LQ:∀q,q∈ax->q.data.length<=4194304:=LQ;refine ba (λk=>k<=1) [0,9,10] (λk=>[(11,an .i64 (k:Nat)),(3,.rv (.one (.row 0 9 0 none)))]) (abS ⟨ag,data,ak,target,bs,ax,be,am,up⟩) (λk=>1-k) 0 (aav _) ?_ (λk hk=>?_)
 .refine View.trans (View.aM 2 4 0 rfl rfl rfl) (View.trans (View.aM 3 9 1 rfl rfl rfl) (View.o1 2 [1,0] [] ?_))
  .exact .put (by simp[bD]) rfl (.eq rfl aC) (.aU (.nil _))
 have hk:k<=1:=hk
 match k,hk with
 |0,_=>
  refine Gv data Nm ?_;refine⟨⟨rfl,trivial⟩,?_⟩;refine tV ak LP ?_;refine⟨trivial,?_⟩;refine⟨trivial,?_⟩;refine⟨trivial,?_⟩;refine ba (λj=>j<=ax.length) [0,3,5,9,10,11,24,25] (λj=>[(26,an .i64 (j:Nat)),(6,.rv (.one (.row 4 4 0 none)))])
    (λj=>[.row 9 [],.aU,.var (oG 3 ⟨ag,data,ak,target,bs,ax,be,am,up⟩),.row 1 (aa data),.row 4 (aa ((ax.take j).map dn.enc))]) (λj=>ax.length-j) 0 (aav _) ?_ (λj hj=>?_)
  .refine View.trans (View.aM 6 4 4 rfl rfl rfl) (View.o1 5 [0,1,2,3,4] [] ?_)
   .exact .pe rfl rfl rfl (.aU (.pe rfl rfl rfl (.pr rfl rfl rfl (.pn rfl rfl rfl))))
  have hj:j<=ax.length:=hj;refine aP (λh=>?_) (λh=>?_)
  .have ez:j<ax.length:=by have h:(j:Int)<((ax.map dn.enc).length:Int):=h;rw[N7]at h;omega
   have y4:=vR ez;have JR:=LQ _ (aay ez);generalize ax[j]=q at y4 JR;obtain⟨qd,qh,qo,qr⟩:=q;have Cv:dA (ax.map dn.enc) (j:Nat)=some [.sl 1 qd,.val (.bool qh),.val (.int .i64 qo),.val (.int .i64 qr)]:=by rw[bG,Tr,y4];rfl
   refine af Cv ?_;refine iE qd JR ?_;refine⟨?_,?_⟩
   .show((aa ((ax.take j).map dn.enc)).length+1)*48<=_;simp[aa];omega
   refine⟨j+1,ez,(show ax.length-(j+1)<ax.length-j by omega),View.o2 8 [0,1,2,3,7] [] ?_⟩
   .refine .pe rfl rfl rfl (.aU (.pe rfl rfl rfl (.pr rfl rfl rfl (.pt rfl rfl (.bM ?_) (.nil _)))));rw[qy y4,abn,dg];rfl
  .have eG:¬(j:Int)<((ax.map dn.enc).length:Int):=h;rw[N7]at eG;have hq:ax.take j=ax:=abT om;refine⟨by show(0+1)*128<=140737488355328;omega,?_⟩
   refine⟨1,Yj 1,(show 1-1<1-0 by omega),View.o2 7 [6,3] [4] ?_⟩
   .refine .pt rfl rfl (mH.JP (R:=[]) (R':=[]) rfl rfl ?_) (.pn rfl rfl rfl);intro j' c c' h1 h2;have e5:oG 1 ⟨ag,data,ak,target,bs,ax,be,am,up⟩=[.ah (.val (.int .i64 ag)),.row 1 1 0 none,.ah (.sl 2 ak),.ah (.val (.string target)),.ah (.val (.int .i64 bs)),.ah (.sl 4 ((ax.take j).map dn.enc)),.ah (.val (.int .i64 be)),.ah (.val (.int .i64 am)),.ah (.val (.int .i64 up))]:=by simp[oG,hq]
    rw[e5]at h2
    match j',h1,h2 with
    |0,h1,h2=>cases h1;cases h2;exact .bh (.ah _)
    |1,h1,h2=>cases h1;cases h2;exact .bh (.row 1 1 0 none)
    |2,h1,h2=>cases h1;cases h2;exact .bh (.ah _)
    |3,h1,h2=>cases h1;cases h2;exact .bh (.ah _)
    |4,h1,h2=>cases h1;cases h2;exact .bh (.ah _)
    |5,h1,h2=>cases h1;cases h2;exact .fT (d6.fg (Z:=λk=>bD [4] k=true) rfl (by rw[<-aV];rfl) 0 none)
    |6,h1,h2=>cases h1;cases h2;exact .bh (.ah _)
    |7,h1,h2=>cases h1;cases h2;exact .bh (.ah _)
    |8,h1,h2=>cases h1;cases h2;exact .bh (.ah _)
    |n+9,h1,h2=>simp at h1
 |1,_=>exact⟨rfl,rfl⟩
theorem Od{Y:Nat->Nat}(Q:Nat)(o:Obj):(oG Q o).map (CC.bh Y)=oG (Y Q) o:=by simp[oG,CC.bh]
theorem Rj(o:Obj)(hf:o.oD){m:Mem}{K:CV->Mem->Prop}(h:K (.rv (.one (.row m.length 9 0 none))) (m++ [.row 9 [oG (m.length+1) o],.row 1 (aa o.data)])):aq prog 98 [cC [o]] m K:=by
 refine bw [] m.length rfl rfl rfl rfl rfl (λi b' hi=>by simp at hi) (bc func98 l98 (Kk o hf)) (λr m1 hr=>?_)
 obtain⟨rfl,rfl⟩:=hr;refine⟨aav _,?_⟩;show K (.rv (.one (.row (m.length+(0-0)) 9 0 none))) (gI m [.row 9 [(oG 1 o).map (CC.bh (sg [] m.length))],.row 1 ((aa o.data).map (λcs=>cs.map (CC.bh (sg [] m.length))))])
 rw[Od,iz,cg];exact h
def c57:LF:= ⟨43,[.tmp 6,.tmp 7],(.seq (.ai [qu 3 (.box 0),qu 6 (.aN qe),qu 7 (.aN (qi 0))]) (.seq (.block 0 (.seq (.ai [qf 10 0 3,ql 11 10,qu 12 (.aL .eql 11 (qi 2)),qm 9 12]) (.cond 9 (.seq (.ai [qu 6 (.aN qe),qu 7 (.aN (qi 12))]) .ret) (.seq (.ai [qf 14 0 3,ql 15 14,qu 16 (.aL .neq 15 (qi 1)),qm 13 16]) (.cond 13 (.seq (.ai [qu 6 (.aN qe),qu 7 (.aN (qi 8))]) .ret) (.seq (.ai [qm 18 1,qu 19 (.aL .lss 18 (qi 0)),qm 20 19,qg 21 (.aN 2) 20 false,qg 22 (.aL .lss 21 (qi 0)) 20 false,qu 23 (.pick 20 (qb true) 22),qm 17 23]) (.cond 17 (.seq (.ai [qu 6 (.aN qe),qu 7 (.aN (qi 3))]) .ret) .skip))))))) (.seq (.ai [qm 24 1,qf 25 1 3,ql 26 25,qu 27 (.len 1 26),qu 28 (.ko false [24,27]),qm 8 28]) (.seq (.ai [qf 29 1 3,ql 30 29,qm 31 8,qm 32 8,qm 33 2,qf 34 1 3,ql 35 34,qu 36 (.len 1 35),qm 37 8,qu 38 (.aL .sub 36 37),qu 39 (.ko false [33,38]),qu 40 (.aL .add 32 39),qu 41 (.oI 1 30 (some 31) (some 40) none),qu 42 (qc 97 [41]),qm 6 42,qu 7 (.aN (qi 0))]) .ret))))⟩
theorem l57:bz prog Tryz.f57=some c57:=by kernel_rfl
def fD(a b:Nat):Nat:=if b<a then b else a
theorem sV(a b:Nat):(if(b:Int)<(a:Int)then(b:Int)else(a:Int))=((fD a b:Nat):Int):=by unfold fD;split<;>split<;>omega
theorem n9(a b:Nat):fD a b<=a/\fD a b<=b:=by unfold fD;split<;>omega
def Kl(d:List (List Dt))(dp n:Nat):List (List Dt):=(d.take (fD dp d.length+fD n (d.length-fD dp d.length))).drop (fD dp d.length)
def j9(ag:Int)(d:List (List Dt))(dp n:Int):List (List Dt)×Int:=
 if ag=2 then([],12)else if ag≠1 then([],8)else if dp<0\/n<0 then([],3)else(Kl d dp.toNat n.toNat,0)
def byR(d:List (List Dt)):RV:= .one (.ah (.sl 1 d))
def c58:LF:= ⟨68,[.cell true 9 6,.tmp 7],(.seq (.ai [qu 3 (.box 0),qu 6 (.alloc [qd 0,.aM,.aM,(.ah (.val (.string ⟨#[]⟩))),qd 0,.aM,qd 0,qd 0,qd 0]),qu 7 (.aN (qi 0))]) (.seq (.block 0 (.seq (.ai [qf 10 0 3,ql 11 10,qu 12 (.aL .eql 11 (qi 2)),qm 9 12]) (.cond 9 (.seq (.ai [qu 13 (.build [qd 0,.aM,.aM,(.ah (.val (.string ⟨#[]⟩))),qd 0,.aM,qd 0,qd 0,qd 0] []),qw (.store 9 6 13),qu 7 (.aN (qi 12))]) .ret) (.seq (.ai [qf 15 0 3,ql 16 15,qu 17 (.aL .neq 16 (qi 1)),qm 14 17]) (.cond 14 (.seq (.ai [qu 18 (.build [qd 0,.aM,.aM,(.ah (.val (.string ⟨#[]⟩))),qd 0,.aM,qd 0,qd 0,qd 0] []),qw (.store 9 6 18),qu 7 (.aN (qi 8))]) .ret) (.seq (.ai [qm 20 1,qu 21 (.aL .lss 20 (qi 0)),qm 19 21]) (.cond 19 (.seq (.ai [qu 22 (.build [qd 0,.aM,.aM,(.ah (.val (.string ⟨#[]⟩))),qd 0,.aM,qd 0,qd 0,qd 0] []),qw (.store 9 6 22),qu 7 (.aN (qi 3))]) .ret) (.seq (.ai [qm 24 1,qu 25 (.aL .gtr 24 (qi 60)),qm 26 25,qg 27 (.aN 2) 26 false,qg 28 (.len 1 27) 26 false,qg 29 (.aN 1) 26 false,qg 30 (.aL .sub (qi 60) 29) 26 false,qg 31 (.aL .gtr 28 30) 26 false,qu 32 (.pick 26 (qb true) 31),qm 23 32]) (.cond 23 (.seq (.ai [qu 33 (.build [qd 0,.aM,.aM,(.ah (.val (.string ⟨#[]⟩))),qd 0,.aM,qd 0,qd 0,qd 0] []),qw (.store 9 6 33),qu 7 (.aN (qi 15))]) .ret) .skip))))))))) (.seq (.ai [qL 34 9 3,qu 35 (.nI 9 [qd 0,.aM,.aM,(.ah (.val (.string ⟨#[]⟩))),qd 0,.aM,qd 0,qd 0,qd 0] 1 [(0,34)]),qu 36 (qc 98 [35]),qu 37 (.cw 9 36 (qi 0)),qL 38 9 37,qu 8 (.alloc [qd 0,.aM,.aM,(.ah (.val (.string ⟨#[]⟩))),qd 0,.aM,qd 0,qd 0,qd 0]),qw (.store 9 8 38)]) (.seq (.block 1 (.loop (.seq (.seq (.ai [qf 39 1 8,ql 40 39,qu 41 (.len 1 40),qm 42 1,qm 43 2,qu 44 (.len 1 43),qu 45 (.aL .add 42 44),qu 46 (.aL .lss 41 45),qm 47 46,qg 48 (.aN 2) 47 true,qg 49 (.len 1 48) 47 true,qg 50 (.aL .gtr 49 (qi 0)) 47 true,qu 51 (.pick 47 50 (qb false))]) (.cond 51 .skip (.exit 1))) (.block 2 (.ai [qf 52 1 8,ql 53 52,qu 54 (.nI 1 [(.ah (.val (.int .u8 (0))))] 1 [(0,(.c (.rv (.one (.ah (.val (.int .u8 (0))))))))]),qu 55 (.oL 1 1 53 54),qf 56 1 8,qw (.store 1 56 55)]))))) (.cX (.seq (.ai [qf 57 1 8,ql 58 57,qm 59 1,qf 60 1 8,ql 61 60,qu 62 (.len 1 61),qu 63 (.ko false [59,62]),qu 64 (.oI 1 58 (some 63) none none),qm 65 2,qu 66 (.copy 1 64 65)]) (.seq (.ai [qL 67 9 8,qw (.store 9 6 67),qu 7 (.aN (qi 0))]) .ret)))))))⟩
theorem l58:bz prog f58=some c58.er:=by kernel_rfl
def zb:List Dt:=[.val (.int .u8 0)]
def UZ(d:List (List Dt))(n:Nat):List (List Dt):=d++List.replicate (n-d.length) zb
def qE(d:List (List Dt))(A:Nat)(b:List (List Dt)):List (List Dt):=if b.length=0 then d else cV (UZ d (A+b.length)) A b
def Oe:Obj:=⟨0,[],[],⟨#[]⟩,0,[],0,0,0⟩
def Km(o:Obj):RV:= .agg (o.enc.map .ah)
def fo(o:Obj)(dp:Int)(b:List (List Dt)):Obj×Int:=
 if o.ag=2 then(Oe,12)else if o.ag≠1 then(Oe,8)else if dp<0 then(Oe,3)else if dp>60\/(b.length:Int)>60-dp then(Oe,15)
 else({o with data:=qE o.data dp.toNat b},0)
def sW:List CC:=[.ah (.val (.int .i64 0)),.aM,.aM,.ah (.val (.string ⟨#[]⟩)),.ah (.val (.int .i64 0)),.aM,.ah (.val (.int .i64 0)),.ah (.val (.int .i64 0)),.ah (.val (.int .i64 0))]
theorem px{m:Mem}:eZ m (.agg sW) (Km Oe):=by
 refine .agg rfl λi c c' h1 h2=>?_
 match i,h1,h2 with
 |0,h1,h2=>cases h1;cases h2;exact .ah _
 |1,h1,h2=>cases h1;cases h2;exact .aM 1
 |2,h1,h2=>cases h1;cases h2;exact .aM 2
 |3,h1,h2=>cases h1;cases h2;exact .ah _
 |4,h1,h2=>cases h1;cases h2;exact .ah _
 |5,h1,h2=>cases h1;cases h2;exact .aM 4
 |6,h1,h2=>cases h1;cases h2;exact .ah _
 |7,h1,h2=>cases h1;cases h2;exact .ah _
 |8,h1,h2=>cases h1;cases h2;exact .ah _
 |n+9,h1,h2=>simp[sW]at h1
theorem DN{m:Mem}{Q:Nat}{o:Obj}{D:List (List Dt)}(h:m[Q]? =some (.row 1 (aa D))):eZ m (.agg (oG Q o)) (Km {o with data:=D}):=by
 refine .agg rfl λi c c' h1 h2=>?_
 match i,h1,h2 with
 |0,h1,h2=>cases h1;cases h2;exact .ah _
 |1,h1,h2=>cases h1;cases h2;exact ff.fg h 0 none
 |2,h1,h2=>cases h1;cases h2;exact .ah _
 |3,h1,h2=>cases h1;cases h2;exact .ah _
 |4,h1,h2=>cases h1;cases h2;exact .ah _
 |5,h1,h2=>cases h1;cases h2;exact .ah _
 |6,h1,h2=>cases h1;cases h2;exact .ah _
 |7,h1,h2=>cases h1;cases h2;exact .ah _
 |8,h1,h2=>cases h1;cases h2;exact .ah _
 |n+9,h1,h2=>simp[oG]at h1
theorem dX(d:List (List Dt)):(aa d).length=d.length:=by simp[aa]
theorem BF(D b:List (List Dt))(A:Nat):cV (aa D) A (aa b)=aa (cV D A b):=by simp[cV,aa,adg,adZ]
theorem Of(x:Nat):iN 0 x=x:=by simp[iN]
def nw:LC->LC
 | .seq _ b=>b
 |x=>x
def unW:LC->LC
 | .cX a=>a
 |x=>x
def C57:LC:=nw (nw (nw (nw c58.code)))
def G57:LC:=unW C57
theorem U0(o:Obj)(D b:List (List Dt))(A:Nat)(h:b.length≠0->A+b.length<=D.length):
  aw prog 0 G57 (oR prog c58.me (λr m=>cN m r (.bx [Km {o with data:=if b.length=0 then D else cV D A b},cG 0])))
   ⟨kT 68 [(1,an .i64 (A:Nat)),(2,sC 1 b),(6,.rv (.one (.ptr 0 0))),(8,.rv (.one (.ptr 2 0)))],[.var sW,.row 1 (aa D),.var (oG 1 o)]⟩:=by
 have hm:=n9 A D.length;have hmi:qS (an .i64 (if((lenOf (aa D).length 0 none:Nat):Int)<(A:Int)then((lenOf (aa D).length 0 none:Nat):Int)else(A:Int)))=some (fD A D.length):=by have e:lenOf (aa D).length 0 none=D.length:=dX D;rw[e,sV];rfl
 refine af hmi ?_;refine cM (by show(Nat.ble (fD A D.length) (aa D).length&&Nat.ble (aa D).length ((aa D).length-0))=true;rw[dX];simp[abe];omega) ?_
 by_cases hb:b.length=0
 .rw[if_pos hb];refine cM (by show Nat.beq (aa b).length 0=true;rw[dX,hb];rfl) ?_
  exact kX (DN rfl)
 .rw[if_neg hb];have hle:=h hb;have hmA:fD A D.length=A:=by unfold fD;rw[if_neg om]
  rw[hmA];refine si (by show Nat.beq (aa b).length 0=false;rw[dX];exact Bool.eq_false_iff.2 λhh=>hb (aau hh)) ?_
  refine cM (by have e1:=Of A;show(Nat.beq 1 1&&(Nat.beq 1 1&&(Nat.ble (iN 0 (aa D).length) (aa D).length&&(Nat.ble (iN 0 A+(aa b).length) (iN 0 (aa D).length)&&fJ (aa b)))))=true;rw[kD,e1,dX,dX,Of D.length];simp[abe];omega) ?_
  refine kX (DN ?_);show some (Bk.row 1 (cV (aa D) (iN 0 A) (aa b)))=_;rw[Of A,BF]
theorem Gw(o:Obj)(hf:o.oD)(dp:Int)(b:List (List Dt))(hb:b.length<=4194304):body prog c58 [o.cv,an .i64 dp,sC 1 b] [] (λr m=>cN m r (.bx [Km (fo o dp b).1,cG (fo o dp b).2])):=by
 refine bu (λh1=>?_) (λh1=>?_)
 .have h1:o.ag=2:=h1;rw[fo,if_pos h1];exact kX px
 have h1:¬o.ag=2:=h1;refine bv (λh2=>?_) (λh2=>?_)
 .have h2:o.ag≠1:=h2;rw[fo,if_neg h1,if_pos h2];exact kX px
 have h2:¬o.ag≠1:=by simpa using h2
 refine aP (λh3=>?_) (λh3=>?_)
 .rw[fo,if_neg h1,if_neg h2,if_pos h3];exact kX px
 have h3:¬dp<0:=h3;refine aP (λh4=>?_) (λh4=>?_)
 .rw[fo,if_neg h1,if_neg h2,if_neg h3,if_pos (.inl h4)];exact kX px
 have h4:¬dp>60:=h4;have hw:IntKind.i64.wrap (60-dp)=60-dp:=by obtain⟨z,hz⟩:∃z:Nat,60-dp=(z:Int):=⟨(60-dp).toNat,om⟩;rw[hz,ot om]
 refine aP (λh5=>?_) (λh5=>?_)
 .have h5:(b.length:Int)>IntKind.i64.wrap (60-dp):=h5;rw[hw]at h5;rw[fo,if_neg h1,if_neg h2,if_neg h3,if_pos (.inr h5)];exact kX px
 have h5:¬(b.length:Int)>IntKind.i64.wrap (60-dp):=h5;rw[hw]at h5;rw[fo,if_neg h1,if_neg h2,if_neg h3,if_neg (λh=>h.elim h4 h5)]
 obtain⟨A,rfl⟩:∃A:Nat,dp=A:=⟨dp.toNat,om⟩;rw[show((A:Nat):Int).toNat=A from rfl];have my:=hf.1;refine pS (qx:=[cC [o]]) (m':=[.var (o.enc.map .ah),.var sW,.aU]) (View.o 3 [0,1,2] [2] (.put (.rv (.one (.fT (d6.fg (Z:=λk=>bD [2] k=true) (ds:=[o.enc]) rfl rfl 0 none)))) .nil)
  (.pe rfl rfl rfl (.pe rfl rfl rfl (.aU (.nil _))))) ?_
 refine Rj o hf ?_;obtain⟨N,hN⟩:∃N:Nat,N=if b.length=0 then 0 else A+b.length-o.data.length:=⟨_,rfl⟩
 have hN0:b.length=0->N=0:=λh0=>by rw[hN,if_pos h0]
 have hN1:b.length≠0->N=A+b.length-o.data.length:=λh0=>by rw[hN,if_neg h0]
 have af5:N<=A+b.length-o.data.length:=by
  by_cases h0:b.length=0
  .rw[hN0 h0];exact aav _
  .rw[hN1 h0];exact Yj _
 clear hN;have U1:∀j,j<=N->(o.data++List.replicate j zb).length=o.data.length+j:=λj _=>aC
 have hwA:IntKind.i64.wrap ((A:Int)+(b.length:Int))=((A+b.length:Nat):Int):=by
  rw[show(A:Int)+(b.length:Int)=((A+b.length:Nat):Int) by omega,ot om]
 refine ba (λj=>j<=N) [1,2] (λj=>[(6,.rv (.one (.ptr 0 0))),(8,.rv (.one (.ptr 2 0)))]) (λj=>[.var sW,.row 1 (aa (o.data++List.replicate j zb)),.var (oG 1 o)]) (λj=>N-j) 0 (aav _) ?_ (λj hj=>?_)
 .refine View.o1 6 [1,4,5] [] ?_
  .exact .pe rfl rfl rfl (.pt rfl rfl (.bM aC) (.pm rfl rfl rfl))
 have hj:j<=N:=hj;have hlen:lenOf (aa (o.data++List.replicate j zb)).length 0 none=o.data.length+j:=by show(aa (o.data++List.replicate j zb)).length=_;rw[dX,U1 j hj]
 have iu:∀(D:List (List Dt)),D=o.data++List.replicate j zb->(b.length≠0->A+b.length<=o.data.length+j)->aw prog 0 G57 (oR prog c58.me (λr m=>cN m r (.bx [Km {o with data:=qE o.data A b},cG 0])))
   ⟨kT 68 [(1,an .i64 (A:Nat)),(2,sC 1 b),(6,.rv (.one (.ptr 0 0))),(8,.rv (.one (.ptr 2 0)))],[.var sW,.row 1 (aa D),.var (oG 1 o)]⟩:=λD hD hh=>by
  have hs:=U0 o D b A (λh0=>by rw[hD,U1 j hj];exact hh h0)
  have e:qE o.data A b=if b.length=0 then D else cV D A b:=by
   unfold qE;by_cases h0:b.length=0
   .rw[if_pos h0,if_pos h0,hD];have:=hN0 h0;have ej:j=0:=om;rw[ej];simp
   .rw[if_neg h0,if_neg h0,hD];have:=hh h0;have ej:j=A+b.length-o.data.length:=om;rw[UZ,ej]
  rw[e];exact hs
 have out:∀e,iC (sg [0,1,2] 3) [.var sW,.row 1 (aa (o.data++List.replicate j zb)),.var (oG 1 o)] (λk=>bD [] k=true) e (kT 68 [(1,an .i64 (A:Nat)),(2,sC 1 b),(6,.rv (.one (.ptr 0 0))),(8,.rv (.one (.ptr 2 0)))])->
   View 0 ⟨e,[.var sW,.row 1 (aa (o.data++List.replicate j zb)),.var (oG 1 o)]⟩ ⟨kT 68 [(1,an .i64 (A:Nat)),(2,sC 1 b),(6,.rv (.one (.ptr 0 0))),(8,.rv (.one (.ptr 2 0)))],[.var sW,.row 1 (aa (o.data++List.replicate j zb)),.var (oG 1 o)]⟩:=λe he=>
  View.o 3 [0,1,2] [] he (.pe rfl rfl rfl (.pr rfl rfl rfl (.pm rfl rfl rfl)))
 refine aP (λh6=>?_) (λh6=>?_)
 .have h6:((lenOf (aa (o.data++List.replicate j zb)).length 0 none:Nat):Int)<IntKind.i64.wrap ((A:Int)+(b.length:Int)):=h6;rw[hlen,hwA]at h6;refine aP (λh7=>?_) (λh7=>?_)
  .have h7:(b.length:Int)>0:=h7;have:=hN1 om;refine⟨by simp only[b7,dX,aar,abm,U1 j hj];omega,?_⟩
   refine⟨j+1,(show j+1<=N by omega),(show N-(j+1)<N-j by omega),View.o1 5 [0,4,2] [] ?_⟩
   .refine .pe rfl rfl rfl (.pt rfl rfl (.bM ?_) (.pm rfl rfl rfl));rw[List.replicate_succ'];simp[b7,aa,zb]
  .have h7:¬(b.length:Int)>0:=h7;refine⟨_,out _ ?_,iu _ rfl (λh0=>om)⟩
   repeat(first|exact .nil|refine .aH ?_|refine .eq rfl ?_)
 .have h6:¬((lenOf (aa (o.data++List.replicate j zb)).length 0 none:Nat):Int)<IntKind.i64.wrap ((A:Int)+(b.length:Int)):=h6;rw[hlen,hwA]at h6;refine⟨_,out _ ?_,iu _ rfl (λh0=>om)⟩
  repeat(first|exact .nil|refine .aH ?_|refine .eq rfl ?_)
theorem DO(o:Obj)(hf:o.oD)(dp:Int)(b:List (List Dt))(hb:b.length<=4194304){m:Mem}{K:CV->Mem->Prop}(h:K (.bx [Km (fo o dp b).1,cG (fo o dp b).2]) m):aq prog 58 [o.cv,an .i64 dp,sC 1 b] m K:=
 bi (cj func58 l58 (Gw o hf dp b hb)) (by simp[Obj.cv,Obj.enc,sC,an,CV.dC,CC.dC,RV.dC]) λr m1 hf=>⟨_,hf,h⟩
def kZ(p Q k:Nat)(o:Obj):List CC:=[.ah (.val (.int .i64 o.ag)),.ah (.sl 1 o.data),(if k=p then .row Q 2 0 none else .ah (.sl 2 o.ak)),.ah (.val (.string o.target)),.ah (.val (.int .i64 o.bs)),
 .ah (.sl 4 (o.ax.map dn.enc)),.ah (.val (.int .i64 o.be)),.ah (.val (.int .i64 o.am)),.ah (.val (.int .i64 o.up))]
def bT(p Q:Nat):Nat->List Obj->List (List CC)
 |_,[]=>[]
 |k,o::r=>kZ p Q k o::bT p Q (k+1) r
theorem sX(p Q:Nat):∀(a:List Obj)(k:Nat)(b:List Obj),bT p Q k (a++b)=bT p Q k a++bT p Q (k+a.length) b
 | [],k,b=>rfl
 |o::r,k,b=>by simp[bT,sX p Q r (k+1) b,abh,Nat.add_comm 1]
theorem gq(p Q:Nat):∀(l:List Obj)(k:Nat),(bT p Q k l).length=l.length
 | [],_=>rfl
 |o::r,k=>by simp[bT,gq p Q r (k+1)]
theorem xM(p Q:Nat):∀(l:List Obj)(k:Nat),(p<k\/k+l.length<=p)->bT p Q k l=aa (l.map Obj.enc)
 | [],_,_=>rfl
 |o::r,k,h=>by simp only[aar]at h;have hk:¬k=p:=om;simp only[bT,kZ,if_neg hk,xM p Q r (k+1) om];rfl
theorem gu(p Q:Nat):∀(l:List Obj)(k i:Nat),(bT p Q k l)[i]? =(l[i]?).map (kZ p Q (k+i))
 | [],k,i=>by simp[bT]
 |o::r,k,0=>by simp[bT]
 |o::r,k,i+1=>by
  simp only[bT,abv,gu p Q r (k+1) i];rw[show k+1+i=k+(i+1) by omega]
theorem Og{Y:Nat->Nat}{p Q k:Nat}(o:Obj):(kZ p Q k o).map (CC.bh Y)=kZ p (Y Q) k o:=by
 by_cases h:k=p<;>simp[kZ,h,CC.bh]
theorem ny{Y:Nat->Nat}(p Q:Nat):∀(l:List Obj)(k:Nat),(bT p Q k l).map (λcs=>cs.map (CC.bh Y))=bT p (Y Q) k l
 | [],_=>rfl
 |o::r,k=>by simp only[bT,aaR,ny p Q r (k+1)];rw[Og]
theorem BG(d:List (List Dt))(hb:d.length<=4194304):body prog c128 [sC 2 d] [] (λr m=>∃r' m',View 0 ⟨[r],m⟩ ⟨[r'],m'⟩/\r'= .rv (.one (.row 0 2 0 none))/\m'=[.row 2 (aa d)]):=by
 have tw:((([]:List (List CC)).length+(d.map λds=>ds.map CC.ah).length)*24)<=140737488355328:=by simp;omega
 have iu:∃r' m',View 0 ⟨[CV.rv (.one (.row 1 2 0 none))],[.aU,.row 2 (b7 ([]:List (List CC)) 0 none++d.map λds=>ds.map CC.ah)]⟩ ⟨[r'],m'⟩/\r'=CV.rv (.one (.row 0 2 0 none))/\m'=[Bk.row 2 (aa d)]:=
  ⟨_,_,View.o 2 [1] [] (.eq rfl .nil) (.pn rfl rfl rfl),rfl,rfl⟩
 refine aJ (λh=>?_) (λh=>?_)
 .have hd:d=[]:=aaq (by simpa using aau h)
  refine⟨?_,tw,iu⟩;subst hd;exact⟨_,_,View.aM 0 2 0 rfl rfl rfl,rfl,rfl⟩
 .exact⟨tw,iu⟩
theorem Gx(d:List (List Dt))(hb:d.length<=4194304){m:Mem}{K:CV->Mem->Prop}(h:K (.rv (.one (.row m.length 2 0 none))) (m++ [.row 2 (aa d)])):aq prog 128 [sC 2 d] m K:=by
 refine bw [] m.length rfl rfl rfl rfl (args0:=[sC 2 d]) rfl (λi b' hi=>by simp at hi) (K0:=λr m=>r= .rv (.one (.row 0 2 0 none))/\m=[.row 2 (aa d)]) (bL (bc func128 l128 (BG d hb)) λr m1 h=>h) (λr m1 hr=>?_)
 obtain⟨rfl,rfl⟩:=hr;refine⟨aav _,?_⟩;show K (.rv (.one (.row (m.length+(0-0)) 2 0 none))) (gI m [.row 2 ((aa d).map (λcs=>cs.map (CC.bh (sg [] m.length))))])
 rw[iz,cg];exact h
def BH(l:List Obj)(p k:Nat):Bk:=match Nat.blt p k with|true=>.row 2 (aa (match l[p]? with|some o=>o.ak|none=>[]))|false=>.aU
theorem wh{Y:Nat->Nat}(l:List Obj)(p k:Nat):(BH l p k).bh Y=BH l p k:=by
 unfold BH;split
 .exact Bk.jG _ _
 .rfl
theorem xN{p Q:Nat}{l:List Obj}{k:Nat}{o:Obj}(h:l[k]? =some o):bT p Q 0 (l.take (k+1))=bT p Q 0 (l.take k)++ [kZ p Q k o]:=by have hk:=(Ki.1 h).1;rw[qy h,sX,aaE,ads om,aa6];rfl
theorem Ko(l:List Obj)(hf:l9 l)(p:Nat):body prog c98 [cC l] [] (λr m=>r= .rv (.one (.row 0 9 0 none))/\m=[.row 9 (bT p 1 0 l),BH l p l.length]):=by
 obtain⟨hl,VQ⟩:=hf;refine ba (λk=>k<=l.length) [0,9,10] (λk=>[(11,an .i64 (k:Nat)),(3,.rv (.one (.row 0 9 0 none)))]) (λk=>[.row 9 (bT p 1 0 (l.take k)),BH l p k]) (λk=>l.length-k) 0 (aav _) ?_ (λk hk=>?_)
 .refine View.trans (View.aM 2 4 0 rfl rfl rfl) (View.trans (View.aM 3 9 1 rfl rfl rfl) (View.o1 2 [1,0] [] ?_))
  .exact .put (by simp[bD]) rfl (.eq rfl aC) (.aU (.nil _))
 .refine aP (λh=>?_) (λh=>?_)
  .have aD:k<l.length:=by have h:(k:Int)<((l.map Obj.enc).length:Int):=h;rw[N7]at h;omega
   have hi:=vR aD;have Nl:=VQ _ (aay aD);have hg:dA (l.map Obj.enc) (k:Nat)=some (l[k].enc):=by rw[bG,Tr,vR aD];rfl
   generalize l[k]=o at hi Nl hg;obtain⟨ag,data,ak,target,bs,ax,be,am,up⟩:=o;obtain⟨Nm,LP,S7,LQ⟩:=Nl;have Nm:data.length<=4194304:=Nm;have LP:ak.length<=4194304:=LP;have S7:ax.length<=4194304:=S7;have LQ:∀q,q∈ax->q.data.length<=4194304:=LQ;have hg:dA (l.map Obj.enc) (k:Nat)=some [.val (.int .i64 ag),.sl 1 data,.sl 2 ak,.val (.string target),.val (.int .i64 bs),.sl 4 (ax.map dn.enc),.val (.int .i64 be),.val (.int .i64 am),.val (.int .i64 up)]:=hg;refine af hg ?_;refine iE data Nm ?_;refine⟨⟨rfl,trivial⟩,?_⟩;by_cases EP:k=p
   .subst EP;refine Gx ak LP ?_;refine⟨trivial,?_⟩;refine⟨trivial,?_⟩;refine⟨trivial,?_⟩;have hR:∀Q,bT k Q 0 (l.take k)=aa ((l.take k).map Obj.enc):=λQ=>xM k Q _ 0 (.inr (by simp;omega))
    have hd:BH l k k= .aU:=by
     have:Nat.blt k k=false:=Bool.eq_false_iff.2 λh=>by rw[abK]at h;omega
     simp only[BH,this]
    rw[hd,hR];refine ba (λj=>j<=ax.length) [0,3,5,9,10,11,24,25] (λj=>[(26,an .i64 (j:Nat)),(6,.rv (.one (.row 4 4 0 none)))])
     (λj=>[.row 9 (aa ((l.take k).map Obj.enc)),.aU,.var [.ah (.val (.int .i64 ag)),.ah (.sl 1 data),.row 3 2 0 none,.ah (.val (.string target)),.ah (.val (.int .i64 bs)),.ah (.sl 4 (ax.map dn.enc)),.ah (.val (.int .i64 be)),.ah (.val (.int .i64 am)),.ah (.val (.int .i64 up))],.row 2 (aa ak),.row 4 (aa ((ax.take j).map dn.enc))]) (λj=>ax.length-j) 0 (aav _) ?_ (λj hj=>?_)
    .refine View.trans (View.aM 6 4 4 rfl rfl rfl) (View.o1 5 [0,1,2,3,4] [] ?_)
     .exact .pr rfl rfl rfl (.aU (.pe rfl rfl rfl (.pr rfl rfl rfl (.pn rfl rfl rfl))))
    .have hj:j<=ax.length:=hj;refine aP (λh=>?_) (λh=>?_)
     .have ez:j<ax.length:=by have h:(j:Int)<((ax.map dn.enc).length:Int):=h;rw[N7]at h;omega
      have y4:=vR ez;have JR:=LQ _ (aay ez);generalize ax[j]=q at y4 JR;obtain⟨qd,qh,qo,qr⟩:=q;have Cv:dA (ax.map dn.enc) (j:Nat)=some [.sl 1 qd,.val (.bool qh),.val (.int .i64 qo),.val (.int .i64 qr)]:=by rw[bG,Tr,y4];rfl
      refine af Cv ?_;refine iE qd JR ?_;refine⟨?_,?_⟩
      .show((aa ((ax.take j).map dn.enc)).length+1)*48<=_;simp[aa];omega
      refine⟨j+1,ez,(show ax.length-(j+1)<ax.length-j by omega),View.o2 8 [0,1,2,3,7] [] ?_⟩
      .refine .pr rfl rfl rfl (.aU (.pe rfl rfl rfl (.pr rfl rfl rfl (.pt rfl rfl (.bM ?_) (.nil _)))));rw[qy y4,abn,dg];rfl
     .have eG:¬(j:Int)<((ax.map dn.enc).length:Int):=h;rw[N7]at eG;have hq:ax.take j=ax:=abT om;refine⟨?_,?_⟩
      .show((aa ((l.take k).map Obj.enc)).length+1)*128<=_;simp[aa];omega
      have UA:BH l k (k+1)= .row 2 (aa ak):=by
       have:Nat.blt k (k+1)=true:=by rw[abK];omega
       simp only[BH,this,hi]
      refine⟨k+1,aD,(show l.length-(k+1)<l.length-k by omega),View.o2 7 [6,3] [4] ?_⟩
      .rw[xN hi,UA,hR];refine .pt rfl rfl (.JP (iz _ _) rfl ?_) (.pn rfl rfl rfl);intro j' c c' h1 h2;have e5:kZ k 1 k ⟨ag,data,ak,target,bs,ax,be,am,up⟩=[.ah (.val (.int .i64 ag)),.ah (.sl 1 data),.row 1 2 0 none,.ah (.val (.string target)),.ah (.val (.int .i64 bs)),.ah (.sl 4 ((ax.take j).map dn.enc)),.ah (.val (.int .i64 be)),.ah (.val (.int .i64 am)),.ah (.val (.int .i64 up))]:=by simp[kZ,hq]
       rw[e5]at h2
       match j',h1,h2 with
       |0,h1,h2=>cases h1;cases h2;exact .bh (.ah _)
       |1,h1,h2=>cases h1;cases h2;exact .bh (.ah _)
       |2,h1,h2=>cases h1;cases h2;exact .bh (.row 1 2 0 none)
       |3,h1,h2=>cases h1;cases h2;exact .bh (.ah _)
       |4,h1,h2=>cases h1;cases h2;exact .bh (.ah _)
       |5,h1,h2=>cases h1;cases h2;exact .fT (d6.fg (Z:=λk=>bD [4] k=true) rfl (by rw[<-aV];rfl) 0 none)
       |6,h1,h2=>cases h1;cases h2;exact .bh (.ah _)
       |7,h1,h2=>cases h1;cases h2;exact .bh (.ah _)
       |8,h1,h2=>cases h1;cases h2;exact .bh (.ah _)
       |n+9,h1,h2=>simp at h1
   .refine tV ak LP ?_;refine⟨trivial,?_⟩;refine⟨trivial,?_⟩;refine⟨trivial,?_⟩;refine ba (λj=>j<=ax.length) [0,3,5,9,10,11,24,25] (λj=>[(26,an .i64 (j:Nat)),(6,.rv (.one (.row 3 4 0 none)))])
     (λj=>[.row 9 (bT p 1 0 (l.take k)),BH l p k,.var ((⟨ag,data,ak,target,bs,ax,be,am,up⟩:Obj).enc.map .ah),.row 4 (aa ((ax.take j).map dn.enc))]) (λj=>ax.length-j) 0 (aav _) ?_ (λj hj=>?_)
    .refine View.trans (View.aM 6 4 3 rfl rfl rfl) (View.o1 4 [0,1,2,3] [] ?_)
     .exact .pt rfl rfl (.eq (congrArg (Bk.row 9) (ny p 1 _ _)) aC) (.gk (dI rfl) rfl (wh l p k) (.pe rfl rfl rfl (.pn rfl rfl rfl)))
    .have hj:j<=ax.length:=hj;refine aP (λh=>?_) (λh=>?_)
     .have ez:j<ax.length:=by have h:(j:Int)<((ax.map dn.enc).length:Int):=h;rw[N7]at h;omega
      have y4:=vR ez;have JR:=LQ _ (aay ez);generalize ax[j]=q at y4 JR;obtain⟨qd,qh,qo,qr⟩:=q;have Cv:dA (ax.map dn.enc) (j:Nat)=some [.sl 1 qd,.val (.bool qh),.val (.int .i64 qo),.val (.int .i64 qr)]:=by rw[bG,Tr,y4];rfl
      refine af Cv ?_;refine iE qd JR ?_;refine⟨?_,?_⟩
      .show((aa ((ax.take j).map dn.enc)).length+1)*48<=_;simp[aa];omega
      refine⟨j+1,ez,(show ax.length-(j+1)<ax.length-j by omega),View.o2 7 [0,1,2,6] [] ?_⟩
      .refine .pt rfl rfl (.eq (congrArg (Bk.row 9) (ny p 1 _ _)) aC) (.gk (dI rfl) rfl (wh l p k) (.pe rfl rfl rfl (.pt rfl rfl (.bM ?_) (.nil _))));rw[qy y4,abn,dg];rfl
     .have eG:¬(j:Int)<((ax.map dn.enc).length:Int):=h;rw[N7]at eG;have hq:ax.take j=ax:=abT om;refine⟨?_,?_⟩
      .show((bT p 1 0 (l.take k)).length+1)*128<=_;rw[gq];simp;omega
      have UA:BH l p (k+1)=BH l p k:=by
       have:Nat.blt p (k+1)=Nat.blt p k:=by rw[adM,abK,abK];omega
       simp only[BH,this]
      refine⟨k+1,aD,(show l.length-(k+1)<l.length-k by omega),View.o2 6 [5,1] [3] ?_⟩
      .rw[xN hi,UA];refine .pt rfl rfl (.JP (ny p 1 _ _) rfl ?_) (.gk (dI rfl) rfl (wh l p k) (.nil _));intro j' c c' h1 h2;have e5:kZ p 1 k ⟨ag,data,ak,target,bs,ax,be,am,up⟩=[.ah (.val (.int .i64 ag)),.ah (.sl 1 data),.ah (.sl 2 ak),.ah (.val (.string target)),.ah (.val (.int .i64 bs)),.ah (.sl 4 ((ax.take j).map dn.enc)),.ah (.val (.int .i64 be)),.ah (.val (.int .i64 am)),.ah (.val (.int .i64 up))]:=by simp[kZ,EP,hq]
       rw[e5]at h2
       match j',h1,h2 with
       |0,h1,h2=>cases h1;cases h2;exact .bh (.ah _)
       |1,h1,h2=>cases h1;cases h2;exact .bh (.ah _)
       |2,h1,h2=>cases h1;cases h2;exact .bh (.ah _)
       |3,h1,h2=>cases h1;cases h2;exact .bh (.ah _)
       |4,h1,h2=>cases h1;cases h2;exact .bh (.ah _)
       |5,h1,h2=>cases h1;cases h2;exact .fT (d6.fg (Z:=λk=>bD [3] k=true) rfl (by rw[<-aV];rfl) 0 none)
       |6,h1,h2=>cases h1;cases h2;exact .bh (.ah _)
       |7,h1,h2=>cases h1;cases h2;exact .bh (.ah _)
       |8,h1,h2=>cases h1;cases h2;exact .bh (.ah _)
       |n+9,h1,h2=>simp at h1
  .have eG:¬(k:Int)<((l.map Obj.enc).length:Int):=h;rw[N7]at eG;have gA:k=l.length:=by have:k<=l.length:=hk;omega
   subst gA;rw[aaZ];exact⟨rfl,rfl⟩
theorem BI(l:List Obj)(hf:l9 l)(p:Nat){m:Mem}{K:CV->Mem->Prop}(h:K (.rv (.one (.row m.length 9 0 none))) (m++ [.row 9 (bT p (m.length+1) 0 l),BH l p l.length])):aq prog 98 [cC l] m K:=by
 refine bw [] m.length rfl rfl rfl rfl rfl (λi b' hi=>by simp at hi) (bc func98 l98 (Ko l hf p)) (λr m1 hr=>?_)
 obtain⟨h1,h2⟩:=hr;subst h1;subst h2;refine⟨aav _,?_⟩;show K (.rv (.one (.row (m.length+(0-0)) 9 0 none))) (gI m [.row 9 ((bT p 1 0 l).map (λcs=>cs.map (CC.bh (sg [] m.length)))),(BH l p l.length).bh (sg [] m.length)])
 rw[ny,wh,cg];exact h
def c108:LF:= ⟨46,[.tmp 6],(.seq (.ai [qu 6 (.aN (qi 0))]) (.seq (.seq (.ai [qm 9 1,qu 10 (.aL .lss 9 (qi 0)),qm 11 10,qg 12 (.aN 1) 11 false,qg 13 (.aN 0) 11 false,qg 14 (.len 1 13) 11 false,qg 15 (.aL .geq 12 14) 11 false,qu 16 (.pick 11 (qb true) 15),qm 17 16,qg 18 (.aN 0) 17 false,qg 19 (.aN 1) 17 false,qg 20 (.cw 9 18 19) 17 false,qg 21 (.bY 0 20) 17 false,qg 22 (.load false 1 21) 17 false,qg 23 (.aL .neq 22 (qi 2)) 17 false,qu 24 (.pick 17 (qb true) 23)]) (.cond 24 (.seq (.ai [qu 6 (.aN (qi (-1)))]) .ret) .skip)) (.seq (.ai [qm 26 0,qm 27 1,qu 28 (.cw 9 26 27),qf 29 2 28,ql 30 29,qm 31 2,qu 32 (qc 134 [30,31,(.c (.rv (.one (.fn 135 []))))]),qm 25 32,qu 33 (.ext 25 0),qu 34 (.ext 25 1),qm 7 33,qm 8 34]) (.seq (.seq (.ai [qm 35 8,qu 36 (.un .not 35)]) (.cond 36 (.seq (.ai [qu 6 (.aN (qi (-1)))]) .ret) .skip)) (.seq (.ai [qm 37 0,qm 38 1,qu 39 (.cw 9 37 38),qf 40 2 39,ql 41 40,qm 42 7,qu 43 (.cw 2 41 42),qf 44 1 43,ql 45 44,qm 6 45]) .ret)))))⟩
def c139:LF:= ⟨9,[.tmp 4],(.seq (.ai [qu 2 (.box 0),qu 4 (.aN (qi 0))]) (.seq (.ai [qf 5 0 2,ql 6 5,qm 7 1,qu 8 (qc 136 [6,7]),qm 4 8]) .ret))⟩
theorem l139:bz prog f139=some c139:=by kernel_rfl
theorem l108:bz prog f108=some c108:=by kernel_rfl
theorem DP(e:ByteArray×Int)(s:ByteArray):body prog c139 [xH e,fe s] [] (λr m=>r=an .i64 (lG e.1 s)):=
 N5 e.1 s rfl
theorem U2(e:ByteArray×Int)(s:ByteArray){m:Mem}{K:CV->Mem->Prop}(h:K (an .i64 (lG e.1 s)) m):aq prog 139 [xH e,fe s] m K:=
 bC func139 l139 rfl (aap rfl) (DP e s) rfl rfl h
def xO(l:List Obj)(es:List (ByteArray×Int))(cL:Nat)(s:ByteArray):Int:=if Bx es s=true then(match es[rf es s]? with|some e=>e.2|none=>0)else -1
theorem Gy(l:List Obj)(cL:Nat)(hd:cL<l.length)(hk:l[cL].ag=2)(es:List (ByteArray×Int))(he:l[cL].ak=es.map db)(hl:es.length<=2147483648)(s:ByteArray):body prog c108 [cC l,an .i64 (cL:Nat),fe s] [] (λr m=>r=an .i64 (xO l es cL s)):=by
 have hg:dA (l.map Obj.enc) (cL:Nat)=some l[cL].enc:=by rw[bG,Tr,vR hd];rfl
 generalize l[cL]=o at hg hk he;obtain⟨ag,data,ak,target,bs,ax,be,am,up⟩:=o;have hk:ag=2:=hk;have he:ak=es.map db:=he;subst hk he;have hg:dA (l.map Obj.enc) (cL:Nat)=some [.val (.int .i64 2),.sl 1 data,.sl 2 (es.map db),.val (.string target),.val (.int .i64 bs),.sl 4 (ax.map dn.enc),.val (.int .i64 be),.val (.int .i64 am),.val (.int .i64 up)]:=hg;refine aP (λh1=>?_) (λh1=>?_)
 .exfalso;have h1:(cL:Int)>=((l.map Obj.enc).length:Int):=h1;rw[N7]at h1;omega
 refine af hg ?_;refine af hg ?_;refine N6 es hl s 135 (λe m K h=>Tq e s h) ?_
 refine aJ (λh2=>?_) (λh2=>?_)
 .have h2:Bx es s=false:=by simpa using h2
  show an _ _=an _ _;rw[xO,if_neg (by rw[h2];simp)]
 .have h2:Bx es s=true:=by simpa using h2
  refine af hg ?_;have aD:rf es s<es.length:=by
   unfold Bx at h2;split at h2
   .rename_i e he;exact(Ki.1 he).1
   .cases h2
  refine af (pu aD) ?_;show an _ _=an _ _;rw[xO,if_pos h2,vR aD]
theorem DQ(l:List Obj)(cL:Nat)(hd:cL<l.length)(hk:l[cL].ag=2)(es:List (ByteArray×Int))(he:l[cL].ak=es.map db)(hl:es.length<=2147483648)(s:ByteArray){m:Mem}{K:CV->Mem->Prop}(h:K (an .i64 (xO l es cL s)) m):aq prog 108 [cC l,an .i64 (cL:Nat),fe s] m K:=
 bC func108 l108 rfl (aap rfl) (Gy l cL hd hk es he hl s) (by simp[cC,an,fe,CV.dC,CC.dC,RV.dC]) rfl h
theorem Gz(l:List Ob)(ok:n8 l)(cL:Nat)(hd:cL<l.length)(hk:l[cL].ag=2)(w:bO.dU):body prog c108 [Bh l,an .i64 (cL:Nat),bO.vT w] [] (λr m=>r=an .i64 (mN l cL w)):=by
 obtain⟨BJ,af6,hlen,vF⟩:=ok.dQ cL;have vF:=vF hd;have hf:mN l cL w=(if Bx (i9 (l6 l cL)) (bO.cI w)=true then(match (i9 (l6 l cL))[rf (i9 (l6 l cL)) (bO.cI w)]? with|some e=>e.2|none=>0)else -1):=vo BJ (i3 _ _) (Iw BJ _)
 rw[hf];have hg:=nt hd;generalize i9 (l6 l cL)=es at*
 generalize l[cL]=o at hg hk vF;obtain⟨ag,data,ak,target,bs,ax,be,am,up⟩:=o;have hk:ag=2:=hk;have he:ak=es.map db:=vF;subst hk he;refine aP (λh1=>?_) (λh1=>?_)
 .exfalso;have h1:(cL:Int)>=((l.map Ob.enc).length:Int):=h1;rw[N7]at h1;omega
 refine af hg ?_;refine af hg ?_;refine N6 es om (bO.cI w) 135 (λe m K h=>Tq e (bO.cI w) h) ?_
 refine aJ (λh2=>?_) (λh2=>?_)
 .have h2:Bx es (bO.cI w)=false:=by simpa using h2
  show an _ _=an _ _;rw[if_neg (by rw[h2];simp)]
 .have h2:Bx es (bO.cI w)=true:=by simpa using h2
  refine af hg ?_;have aD:rf es (bO.cI w)<es.length:=by
   unfold Bx at h2;split at h2
   .rename_i e he;exact(Ki.1 he).1
   .cases h2
  refine af (pu aD) ?_;show an _ _=an _ _;rw[if_pos h2,vR aD]
theorem Oh(l:List Ob)(ok:n8 l)(cL:Nat)(hd:cL<l.length)(hk:l[cL].ag=2)(w:bO.dU){m:Mem}{K:CV->Mem->Prop}(h:K (an .i64 (mN l cL w)) m):aq prog 108 [Bh l,an .i64 (cL:Nat),bO.vT w] m K:=
 bC func108 l108 rfl (aap rfl) (Gz l ok cL hd hk w) rfl rfl h
def V8(l:List Ob)(ar:Int):Nat->Int->Bool
 |0,_=>false
 |n+1,d=>if pa l d 2=false then false else if d=ar then true else if d=0 then false else V8 l ar n (l6 l d.toNat).up
theorem xP{l:List Ob}{ar:Int}(V:List Nat)(h:∀x,x∈V->(x:Int)≠ar/\∃y,y∈V/\(l6 l x).up=(y:Nat)):∀(n x:Nat),x∈V->V8 l ar n (x:Nat)=false
 |0,_,_=>rfl
 |n+1,x,hx=>by
  obtain⟨h1,y,hy,h2⟩:=h x hx;rw[V8];by_cases hI:pa l x 2=false
  .rw[if_pos hI]
  rw[if_neg hI,if_neg h1];by_cases h0:(x:Int)=0
  .rw[if_pos h0]
  rw[if_neg h0,ZW,h2];exact xP V h n y hy
theorem xQ:∀{N:Nat}{V:List Nat},V.Nodup->(∀x,x∈V->x<N)->V.length<=N
 |0,V,_,h=>by
  cases V with
  |nil=>exact Yj _
  |cons x r=>exact absurd (h x aC) (aa9 x)
 |N+1,V,hd,h=>by
  by_cases hm:N∈V
  .have h1:=List.length_erase_of_mem hm;have h2:=xQ (N:=N) (hd.erase N) λx hx=>by rw[hd.mem_erase_iff]at hx;have:=h x hx.2;have:=hx.1;omega
   have:=List.length_pos_of_mem hm;omega
  .have:=xQ (N:=N) hd λx hx=>by
    have h1:=h x hx;have:x≠N:=λe=>hm (e▸hx)
    omega
   omega
structure U3 where
 d:Int
 V:List Nat
structure Rk(l:List Ob)(ar cL:Int)(a:U3):Prop where
 nd:a.V.Nodup
 rg:∀x,x∈a.V->x<l.length
 cl:∀x,x∈a.V->(x:Int)≠ar/\((l6 l x).up=a.d\/∃y,y∈a.V/\(l6 l x).up=(y:Nat))
 eq:V8 l ar (l.length+1-a.V.length) a.d=V8 l ar (l.length+1) cL
theorem Rk.le{l:List Ob}{ar cL:Int}{a:U3}(h:Rk l ar cL a):a.V.length<=l.length:=xQ h.nd h.rg
theorem Rk.vE{l:List Ob}{ar cL:Int}{a:U3}(h:Rk l ar cL a){n:Nat}(hn:a.d=n)(hm:n∈a.V):V8 l ar (l.length+1) cL=false:=by
 rw[<-h.eq,hn];refine xP a.V (λx hx=>?_) _ n hm
 obtain⟨h1,h2⟩:=h.cl x hx;refine⟨h1,?_⟩;rcases h2 with h2|h2
 .exact⟨n,hm,h2.trans hn⟩
 .exact h2
def c132:LF:= ⟨32,[.tmp 2],(.seq (.ai [qu 2 (.aN (qb false))]) (.seq (.seq (.bV [qm 3 0,qu 4 (.aR 3),qf 5 4 4,ql 6 5,qm 7 0,qu 8 (.aR 7),qf 9 1 8,ql 10 9,qu 11 (.aL .eql 6 10),qm 12 11,qg 13 (.aN 0) 12 true,qg 14 (.aR 13) 12 true,qg 15 (.bY 2 14) 12 true,qg 16 (.load false 1 15) 12 true,qu 17 (.pick 12 16 (qb false))] [eE 15 0 .nil]) (.cond 17 (.seq (.ai [qu 2 (.aN (qb false))]) .ret) .skip)) (.seq (.bV [qm 18 0,qm 19 0,qu 20 (.aR 19),qf 21 0 20,ql 22 21,qm 23 0,qu 24 (.aR 23),qf 25 4 24,ql 26 25,qu 27 (.cw 9 22 26),qf 28 8 27,ql 29 28,qu 30 (.aR 18),qf 31 4 30,qw (.store 1 31 29)] [(eE 14 0 (.cons 14 (some []) .nil))]) (.seq (.ai [qu 2 (.aN (qb true))]) .ret))))⟩
def c133:LF:= ⟨48,[.tmp 4],(.seq (.ai [qu 4 (.aN (qi 0))]) (.seq (.seq (.ai [qm 8 0,qu 9 (.aR 8),qf 10 3 9,ql 11 10,qu 12 (.aL .eql 11 (qi 6))]) (.cond 12 (.seq (.ai [qu 4 (.aN (qi 13))]) .ret) .skip)) (.seq (.ai [qm 13 0,qu 14 (.aR 13),qf 15 3 14,ql 16 15,qu 17 (.aL .add 16 (qi 1)),qu 18 (.aR 13),qf 19 3 18,qw (.store 1 19 17)]) (.seq (.ai [qm 21 1,qu 22 (qc 66 [21]),qm 20 22,qu 23 (.ext 20 0),qu 24 (.ext 20 1),qu 25 (.ext 20 2),qm 5 23,qm 6 24,qm 7 25]) (.seq (.seq (.ai [qm 26 7,qu 27 (.aL .neq 26 (qi 0))]) (.cond 27 (.seq (.ai [qm 28 7,qm 4 28]) .ret) .skip)) (.seq (.seq (.ai [qm 29 6]) (.cond 29 (.seq (.seq (.ai [qm 30 0,qu 31 (.aR 30),qf 32 2 31,ql 33 32]) (.cond 33 (.seq (.ai [qu 4 (.aN (qi 14))]) .ret) .skip)) (.ai [qm 34 0,qu 35 (.aR 34),qf 36 4 35,qw (.store 1 36 (qi 0))])) .skip)) (.seq (.bV [qm 37 0,qu 38 (.nI 1 [(.ah (.val (.string ⟨#[]⟩)))] 0 []),qm 39 5,qu 40 (.oL 1 16 38 39),qm 41 0,qu 42 (.aR 41),qf 43 5 42,ql 44 43,qu 45 (.oL 1 16 40 44),qu 46 (.aR 37),qf 47 5 46,qw (.store 1 47 45)] [(.cons 0 none (.cons 2 none (eE 4 4 (.cons 1 (some [7]) (.cons 3 (some [7]) (.cons 8 (some []) (.cons 9 none (.cons 10 none (.cons 11 (some []) .nil)))))))))]) (.seq (.ai [qu 4 (.aN (qi 0))]) .ret))))))))⟩
theorem l132:bz prog f132=some c132:=by kernel_rfl
theorem l133:bz prog f133=some c133:=by kernel_rfl
def uo(l:List Ob)(ar:Nat)(ay:Bool)(h a:Nat)(t:List bO.dU):Bk:= .var [.ah (Q0 l),.ah (.val (.int .i64 (ar:Nat))),.ah (.val (.bool ay)),.ah (.val (.int .i64 (h:Nat))),.ah (.val (.int .i64 (a:Nat))),.ah (bO.ZS t)]
theorem xR(l:List Ob)(ar:Nat)(ay:Bool)(h a:Nat)(t:List bO.dU):uo l ar ay h a t≠.aU:=by intro x;cases x
theorem Oi{f:Nat}{args:List CV}(ha:∀Y,args.map (CV.bh Y)=args){l:List Ob}{ar:Nat}{ay:Bool}{h a:Nat}{t:List bO.dU}{Q:CV->Nat->Nat->List bO.dU->Prop}(hr:∀r h a t,Q r h a t->∀Y,r.bh Y=r)(hc:aq prog f (.rv (.one (.ptr 0 0))::args) [uo l ar ay h a t] (λr m=>∃h' a' t',m=[uo l ar ay h' a' t']/\Q r h' a' t')){m:Mem}(id:Nat)(hb:cF m id=some (uo l ar ay h a t)){K:CV->Mem->Prop}(hK:∀r h' a' t',Q r h' a' t'->K r (aX m id (uo l ar ay h' a' t'))):aq prog f (.rv (.one (.ptr id 0))::args) m K:=by
 have hid:id<m.length:=by rw[aV]at hb;exact(Ki.1 hb).1
 refine bw [id] m.length rfl rfl rfl (by simp[eR,hid]) (args0:= .rv (.one (.ptr 0 0))::args) (by rw[aaR,ha];rfl) (λi b' hi=>?_) hc (λr1 m1 sr=>?_)
 .cases i with
  |zero=>
   simp at hi;subst hi;refine .inr ⟨λh=>h,_,?_,.eq rfl (xR _ _ _ _ _ _)⟩
   rw[aV]at hb;exact hb
  |succ i=>simp at hi
 .obtain⟨h',a',t',rfl,hq⟩:=sr;refine⟨Yj _,?_⟩;rw[hr _ _ _ _ hq];show K r1 (c9 m [id] [uo l ar ay h' a' t']);rw[Dn];exact hK _ _ _ _ hq
theorem Kp{r:CV}{l:List Ob}{ar:Nat}{ay:Bool}{h a:Nat}{t:List bO.dU}{X:Mem}(hr:∀Y,r.bh Y=r):View 1 ⟨[r],uo l ar ay h a t::X⟩ ⟨[r],[uo l ar ay h a t]⟩:=
 View.of (X.length+1) [0] [] rfl rfl rfl rfl rfl (by simp[eR,Nat.blt]) (.eq (hr _) .nil) (.pt rfl rfl (.eq rfl (xR _ _ _ _ _ _)) (.nil _))
def upR(l:List Ob)(ar:Nat)(ay:Bool)(h a:Nat)(t:List bO.dU)(r:CV)(h' a':Nat)(t':List bO.dU):Prop:=
 h'=h/\t'=t/\((ay=true/\a=ar)/\r=aF false/\a'=a\/¬(ay=true/\a=ar)/\r=aF true/\a'=BD l a)
theorem Rl(l:List Ob)(ok:n8 l)(ar:Nat)(ay:Bool)(h a:Nat)(ha:a<l.length)(t:List bO.dU):body prog c132 [.rv (.one (.ptr 0 0))] [uo l ar ay h a t] (λr m=>∃h' a' t',m=[uo l ar ay h' a' t']/\upR l ar ay h a t r h' a' t'):=by
 have hg:=nt ha;have hu:=ok.Oa ha;refine bu (λh1=>?_) (λh1=>?_)
 .cases ay with
  |true=>exact⟨_,_,_,rfl,rfl,rfl,.inl ⟨⟨rfl,om⟩,rfl,rfl⟩⟩
  |false=>
   refine af hg ?_;refine⟨trivial,?_⟩;rw[hu];exact⟨_,_,_,rfl,rfl,rfl,.inr ⟨aC,rfl,rfl⟩⟩
 .refine af hg ?_;refine⟨trivial,?_⟩;rw[hu];exact⟨_,_,_,rfl,rfl,rfl,.inr ⟨λh=>h1 (by rw[h.2]),rfl,rfl⟩⟩
theorem Yb(l:List Ob)(ok:n8 l)(ar:Nat)(ay:Bool)(h a:Nat)(ha:a<l.length)(t:List bO.dU){m:Mem}(id:Nat)(hb:cF m id=some (uo l ar ay h a t)){K:CV->Mem->Prop}(Ut:(ay=true/\a=ar)->K (aF false) (aX m id (uo l ar ay h a t)))(hK2:¬(ay=true/\a=ar)->K (aF true) (aX m id (uo l ar ay h (BD l a) t))):aq prog 132 [.rv (.one (.ptr id 0))] m K:=by
 refine Oi (args:=[]) (λ_=>rfl) (Q:=upR l ar ay h a t) (λr h a t hq Y=>?_) (bc func132 l132 (Rl l ok ar ay h a ha t)) id hb (λr h' a' t' hq=>?_)
 .rcases hq.2.2 with⟨_,rfl,_⟩|⟨_,rfl,_⟩<;>rfl
 .obtain⟨rfl,rfl,hq⟩:=hq;rcases hq with⟨h1,rfl,rfl⟩|⟨h1,rfl,rfl⟩
  .exact Ut h1
  .exact hK2 h1
theorem ri(t:bO.dU):(bO.cO t).1.length<=61:=by
 unfold bO.cO;split
 .simp
 .split
  .simp
  .split
   .show(bO.BC t).length<=61;have h1:=acY bO.sS (bO.ia 47 t);have h2:=bO.xJ 47 t;unfold bO.BC;omega
   .simp
inductive Qg(p:List bO.dU×Bool×Int)(ay:Bool)(h a:Nat)(t:List bO.dU):CV->Nat->Nat->List bO.dU->Prop
 |loop (h' a':Nat) (t':List bO.dU) (h6:h=6):Qg p ay h a t (an .i64 13) h' a' t'
 |fp (h' a':Nat) (t':List bO.dU) (h6:h≠6) (he:p.2.2≠0):Qg p ay h a t (an .i64 p.2.2) h' a' t'
 |out (h' a':Nat) (t':List bO.dU) (h6:h≠6) (he:p.2.2=0) (hr:p.2.1=true) (hf:ay=true):Qg p ay h a t (an .i64 14) h' a' t'
 |ok (h6:h≠6) (he:p.2.2=0) (hr:¬(p.2.1=true/\ay=true)):Qg p ay h a t (an .i64 0) (h+1) (if p.2.1=true then 0 else a) (p.1++t)
theorem Qg.data{p:List bO.dU×Bool×Int}{ay:Bool}{h a:Nat}{t:List bO.dU}{r:CV}{h' a':Nat}{t':List bO.dU}(x:Qg p ay h a t r h' a' t')(Y:Nat->Nat):r.bh Y=r:=by cases x<;>rfl
def TV1(Q:CV->Mem->Prop)(r:CV)(m:Mem):Prop:=∃r' m',View 1 ⟨[r],m⟩ ⟨[r'],m'⟩/\Q r' m'
theorem Rm(a b:List bO.dU):aa (a.map bO.tD)++aa (b.map bO.tD)=aa ((a++b).map bO.tD):=by rw[abn,bO.dg]
theorem Yc{m:Mem}{Z:Nat->Prop}{id:Nat}{p:Option Nat}{X:List (List CC)}{ds:List (List Dt)}(hz:Z id)(hm:m[id]? =some (.row 1 X))(hX:X=aa ds):d6 m Z p (.row id 1 0 none) (.sl 1 ds):=by
 subst hX;refine d6.row id 1 0 none (aa ds) ds hz hm (by simp[aa]) (λi cs es h1 h2=>?_) (λi cs es j c d h1 h2 h3 h4=>?_)
 .simp only[aa,Tr,h2,aaG,aaA]at h1;subst h1;simp
 .simp only[aa,Tr,h2,aaG,aaA]at h1;subst h1;rw[Tr,h4]at h3;cases h3;exact .ah _
theorem Yd{l:List Ob}{ar:Nat}{ay:Bool}{h a:Nat}{t parts:List bO.dU}{m:Mem}{Y:Nat->Nat}(hm:m[3]? =some (.row 1 ((([]:List (List CC))++aa (parts.map bO.tD))++aa (t.map bO.tD)))):
  mH Y m (λk=>bD [3] k=true) 0 (.var [.ah (Q0 l),.ah (.val (.int .i64 (ar:Nat))),.ah (.val (.bool ay)),.ah (.val (.int .i64 (h:Nat))),.ah (.val (.int .i64 (a:Nat))),.row 3 1 0 none]) (uo l ar ay h a (parts++t)):=
 fv.var (.cons (.bh (.ah _)) (.cons (.bh (.ah _)) (.cons (.bh (.ah _)) (.cons (.bh (.ah _)) (.cons (.bh (.ah _)) (.cons (.fT (Yc rfl hm (by rw[aec];exact Rm parts t))) .nil))))))
theorem Kq(l:List Ob)(ar:Nat)(ay:Bool)(h a:Nat)(hh:h<=6)(t:List bO.dU)(ht:t.length<=1000)(s:bO.dU):
  body prog c133 [.rv (.one (.ptr 0 0)),bO.vT s] [uo l ar ay h a t] (TV1 λr m=>∃h' a' t',m=[uo l ar ay h' a' t']/\Qg (bO.cO s) ay h a t r h' a' t'):=by
 refine bu (λh1=>?_) (λh1=>?_)
 .exact⟨_,_,Kp (X:=[]) (λ_=>rfl),_,_,_,rfl,.loop _ _ _ om⟩
 have h6:h≠6:=λe=>h1 (by rw[e];rfl)
 refine bO.xK s ?_;have hp:=ri s;generalize bO.cO s=p at hp|-;obtain⟨parts,aj,er⟩:=p;have hp:parts.length<=61:=hp;have e1:IntKind.i64.wrap ((h:Int)+1)=((h+1:Nat):Int):=by
  rw[show(h:Int)+1=((h+1:Nat):Int) by omega,ot om]
 rw[e1];refine bv (λh2=>?_) (λh2=>?_)
 .exact⟨_,_,Kp (h:=h+1) (X:=[]) (λ_=>rfl),_,_,_,rfl,.fp _ _ _ h6 h2⟩
 have h2:er=0:=by simpa using h2
 subst h2;cases aj with
 |true=>
  cases ay with
  |true=>exact⟨_,_,Kp (h:=h+1) (X:=[]) (λ_=>rfl),_,_,_,rfl,.out _ _ _ h6 rfl rfl rfl⟩
  |false=>
   refine⟨⟨rfl,trivial⟩,?_⟩;refine⟨?_,?_⟩
   .show(0+(aa (parts.map bO.tD)).length)*16<=_;rw[bO.bj,N7];omega
   refine⟨⟨rfl,trivial⟩,?_⟩;refine⟨?_,?_⟩
   .show((([]:List (List CC))++aa (parts.map bO.tD)).length+(aa (t.map bO.tD)).length)*16<=_;rw[aa5,bO.bj,bO.bj,N7,N7];show(0+parts.length+t.length)*16<=_;omega
   refine⟨trivial,?_⟩;refine⟨trivial,?_⟩;exact⟨_,_,View.o 4 [0] [3] (.eq rfl .nil) (.pt rfl rfl (Yd (t:=t) (parts:=parts) rfl) (.nil _)),_,_,_,rfl,.ok h6 rfl aC⟩
 |false=>
  refine⟨⟨rfl,trivial⟩,?_⟩;refine⟨?_,?_⟩
  .show(0+(aa (parts.map bO.tD)).length)*16<=_;rw[bO.bj,N7];omega
  refine⟨⟨rfl,trivial⟩,?_⟩;refine⟨?_,?_⟩
  .show((([]:List (List CC))++aa (parts.map bO.tD)).length+(aa (t.map bO.tD)).length)*16<=_;rw[aa5,bO.bj,bO.bj,N7,N7];show(0+parts.length+t.length)*16<=_;omega
  refine⟨trivial,?_⟩;refine⟨trivial,?_⟩;exact⟨_,_,View.o 4 [0] [3] (.eq rfl .nil) (.pt rfl rfl (Yd (t:=t) (parts:=parts) rfl) (.nil _)),_,_,_,rfl,.ok h6 rfl aC⟩
theorem Ix(l:List Ob)(ar:Nat)(ay:Bool)(h a:Nat)(hh:h<=6)(t:List bO.dU)(ht:t.length<=1000)(s:bO.dU){m:Mem}(id:Nat)(hb:cF m id=some (uo l ar ay h a t)){K:CV->Mem->Prop}(hK:∀r h' a' t',Qg (bO.cO s) ay h a t r h' a' t'->K r (aX m id (uo l ar ay h' a' t'))):aq prog 133 [.rv (.one (.ptr id 0)),bO.vT s] m K:=
 Oi (args:=[bO.vT s]) (λ_=>rfl) (Q:=Qg (bO.cO s) ay h a t) (λr h a t hq Y=>hq.data Y)
  (bL (bc func133 l133 (Kq l ar ay h a hh t ht s)) λr m1⟨r',m',hv,hq⟩=>⟨r',m',hv,hq⟩) id hb hK
def c107:LF:= ⟨118,[.cell true 3 4,.tmp 5,.tmp 6],(.seq (.ai [qu 4 (.alloc [qd 0,qd 0,(.ah (.val (.string ⟨#[]⟩)))]),qu 5 (.aN (qb false)),qu 6 (.aN (qi 0))]) (.seq (.ai [qm 10 0,qu 11 (.aR 10),qf 12 5 11,ql 13 12,qu 14 (.cw 1 13 (qi 0)),ql 15 14,qm 7 15]) (.seq (.ai [qm 16 0,qm 17 0,qu 18 (.aR 17),qf 19 5 18,ql 20 19,qu 21 (.oI 1 20 (some (qi 1)) none none),qu 22 (.aR 16),qf 23 5 22,qw (.store 1 23 21)]) (.seq (.seq (.bV [qm 24 0,qu 25 (.aR 24),qf 26 0 25,ql 27 26,qm 28 0,qu 29 (.aR 28),qf 30 4 29,ql 31 30,qu 32 (.cw 9 27 31),qf 33 0 32,ql 34 33,qu 35 (.aL .neq 34 (qi 2))] [eE 12 0 .nil]) (.cond 35 (.seq (.ai [qu 36 (.build [qd 0,qd 0,(.ah (.val (.string ⟨#[]⟩)))] []),qw (.store 3 4 36),qu 5 (.aN (qb false)),qu 6 (.aN (qi 11))]) .ret) .skip)) (.seq (.seq (.ai [qm 37 7,qu 38 (.aL .eql 37 (.c (.rv (.one (.ah (.val (.string ⟨#[46,46]⟩)))))))]) (.cond 38 (.seq (.seq (.ai [qm 39 0,qu 40 (qc 132 [39]),qu 41 (.un .not 40)]) (.cond 41 (.seq (.ai [qu 42 (.build [qd 0,qd 0,(.ah (.val (.string ⟨#[]⟩)))] []),qw (.store 3 4 42),qu 5 (.aN (qb false)),qu 6 (.aN (qi 14))]) .ret) .skip)) (.seq (.ai [qu 43 (.build [qd 0,qd 0,(.ah (.val (.string ⟨#[]⟩)))] []),qw (.store 3 4 43),qu 5 (.aN (qb false)),qu 6 (.aN (qi 0))]) .ret)) .skip)) (.seq (.bV [qm 44 0,qu 45 (.aR 44),qf 46 0 45,ql 47 46,qm 48 0,qu 49 (.aR 48),qf 50 4 49,ql 51 50,qm 52 7,qu 53 (qc 108 [47,51,52]),qm 8 53] [(eE 9 0 (.cons 9 (some []) (.cons 10 none .nil)))]) (.seq (.ai [qm 54 0,qu 55 (.aR 54),qf 56 5 55,ql 57 56,qu 58 (.len 1 57),qu 59 (.aL .eql 58 (qi 0)),qm 9 59]) (.seq (.block 0 (.seq (.ai [qm 61 8,qu 62 (.aL .lss 61 (qi 0)),qm 63 62,qg 64 (.aN 9) 63 true,qu 65 (.pick 63 64 (qb false)),qm 60 65]) (.cond 60 (.seq (.ai [qm 66 0,qu 67 (.aR 66),qf 68 4 67,ql 69 68,qm 70 7,qu 71 (.build [qd 0,qd 0,(.ah (.val (.string ⟨#[]⟩)))] [(0,1,(qi (-1))),(1,1,69),(2,1,70)]),qw (.store 3 4 71),qu 5 (.aN (qb true)),qu 6 (.aN (qi 0))]) .ret) (.seq (.ai [qm 73 8,qu 74 (.aL .lss 73 (qi 0)),qm 72 74]) (.cond 72 (.seq (.ai [qu 75 (.build [qd 0,qd 0,(.ah (.val (.string ⟨#[]⟩)))] []),qw (.store 3 4 75),qu 5 (.aN (qb false)),qu 6 (.aN (qi 6))]) .ret) (.seq (.ai [qm 77 0,qu 78 (.aR 77),qf 79 0 78,ql 80 79,qm 81 8,qu 82 (.cw 9 80 81),qf 83 0 82,ql 84 83,qu 85 (.aL .eql 84 (qi 3)),qm 86 85,qg 87 (.aN 9) 86 true,qg 88 (.un .not 87) 86 true,qg 89 (.aN 88) 86 true,qg 90 (.aN 1) 89 false,qg 91 (.pick 89 (qb true) 90) 86 true,qu 92 (.pick 86 91 (qb false)),qm 76 92]) (.cond 76 (.seq (.ai [qu 93 (.build [qd 0,qd 0,(.ah (.val (.string ⟨#[]⟩)))] []),qm 94 0,qm 95 0,qu 96 (.aR 95),qf 97 0 96,ql 98 97,qm 99 8,qu 100 (.cw 9 98 99),qf 101 3 100,ql 102 101,qu 103 (qc 133 [94,102]),qw (.store 3 4 93),qu 5 (.aN (qb false)),qm 6 103]) .ret) (.seq (.ai [qm 105 9,qm 104 105]) (.cond 104 (.seq (.ai [qm 106 8,qm 107 0,qu 108 (.aR 107),qf 109 4 108,ql 110 109,qm 111 7,qu 112 (.build [qd 0,qd 0,(.ah (.val (.string ⟨#[]⟩)))] [(0,1,106),(1,1,110),(2,1,111)]),qw (.store 3 4 112),qu 5 (.aN (qb true)),qu 6 (.aN (qi 0))]) .ret) .skip))))))))) (.seq (.ai [qm 113 0,qm 114 8,qu 115 (.aR 113),qf 116 4 115,qw (.store 1 116 114)]) (.seq (.ai [qu 117 (.build [qd 0,qd 0,(.ah (.val (.string ⟨#[]⟩)))] []),qw (.store 3 4 117),qu 5 (.aN (qb false)),qu 6 (.aN (qi 0))]) .ret))))))))))⟩
theorem l107:bz prog f107=some c107:=by kernel_rfl
def Oj(l:List Ob)(ar:Nat)(ay follow:Bool):Nat->Nat->List bO.dU->Nat->R4
 |0=>λ_ _ _=>R4.no 13
 |n+1=>Ri l ay (Cx l ar ay follow n)
theorem U4(l:List Ob)(ar:Nat)(ay follow:Bool)(n:Nat):Cx l ar ay follow n=Iv l ar ay follow (Oj l ar ay follow n):=by
 cases n<;>rfl
def V9(r:R4):List Dt:=[.val (.int .i64 r.bp),.val (.int .i64 r.cL),.val (.string (bO.cI r.name))]
def stV(r:R4)(ok:Bool):CV:= .bx [.agg ((V9 r).map .ah),.one (.ah (.val (.bool ok))),.one (.ah (.val (.int .i64 r.fp)))]
inductive Ts(l:List Ob)(ar:Nat)(ay follow:Bool)(h a:Nat)(s:bO.dU)(t:List bO.dU):CV->Nat->Nat->List bO.dU->Prop
 |done (r:R4) (ok:Bool) (h' a':Nat) (t':List bO.dU) (hd:ok=true\/r.fp≠0) (he:Cx l ar ay follow (6-h) (s::t) a=r):Ts l ar ay follow h a s t (stV r ok) h' a' t'
 |go (h' a':Nat) (t':List bO.dU) (he:Cx l ar ay follow (6-h) (s::t) a=Cx l ar ay follow (6-h') t' a') (ha:a'<l.length) (hm:h'=h/\t'=t\/h'=h+1/\h<6/\t'.length<=61+t.length):Ts l ar ay follow h a s t (stV (R4.no 0) false) h' a' t'
theorem Ts.data{l:List Ob}{ar:Nat}{ay follow:Bool}{h a:Nat}{s:bO.dU}{t:List bO.dU}{r:CV}{h' a':Nat}{t':List bO.dU}(x:Ts l ar ay follow h a s t r h' a' t')(Y:Nat->Nat):r.bh Y=r:=by cases x<;>rfl
theorem Ks(t:List bO.dU):((t.map bO.tD).length:Int)=t.length:=by rw[N7]
theorem uq(l:List Ob)(ok:n8 l)(ar:Nat)(ay follow:Bool)(h a:Nat)(hh:h<=6)(ha:a<l.length)(s:bO.dU)(t:List bO.dU)(ht:t.length<=1000):
  body prog c107 [.rv (.one (.ptr 0 0)),aF follow] [uo l ar ay h a (s::t)] (TV1 λr m=>∃h' a' t',m=[uo l ar ay h' a' t']/\Ts l ar ay follow h a s t r h' a' t'):=by
 have hg:=nt ha;have hw:=U4 l ar ay follow (6-h);have hS:∀r,Iv l ar ay follow (Oj l ar ay follow (6-h)) (s::t) a=r->Cx l ar ay follow (6-h) (s::t) a=r:=λr e=>by rw[hw];exact e
 refine cM (by rw[aae,abe,abe,N7,aar];exact⟨Nat.succ_le_succ (aav _),Yj _⟩) ?_
 rw[show List.drop 1 (List.take (List.map bO.tD (s::t)).length (List.map bO.tD (s::t)))=t.map bO.tD by rw[aaZ];rfl]
 refine af hg ?_;refine bv (λh1=>?_) (λh1=>?_)
 .exact⟨_,_,Kp (λ_=>rfl),_,_,_,rfl,.done (R4.no 11) false _ _ _ (.inr (by simp[R4.no])) (hS _ (by rw[Iv,if_pos (by rw[um ha];exact h1)]))⟩
 have h1:l[a].ag=2:=by simpa using h1
 have oZ:¬(l6 l a).ag≠2:=by rw[um ha,h1];simp
 refine bO.lH (b:=[46,46]) (λh2=>?_) (λh2=>?_)
 .subst h2;refine Yb l ok ar ay h a ha t 0 rfl (λh3=>?_) (λh3=>?_)
  .exact⟨_,_,Kp (λ_=>rfl),_,_,_,rfl,.done (R4.no 14) false _ _ _ (.inr (by simp[R4.no])) (hS _ (by rw[Iv,if_neg oZ,if_pos rfl,if_pos h3]))⟩
  .exact⟨_,_,Kp (λ_=>rfl),_,_,_,rfl,.go h (BD l a) t (hS _ (by rw[Iv,if_neg oZ,if_pos rfl,if_neg h3,hw])) (ok.UX a) (.inl ⟨rfl,rfl⟩)⟩
 refine Oh l ok a ha h1 s ?_;refine⟨trivial,?_⟩;have hf:=ok.UY a s;have X7:mN l a s<0->mN l a s= -1:=λh=>by
  rcases i3 (i9 (l6 l a)) (bO.cI s)with⟨e,he,_,h3⟩|⟨h3,_⟩
  .have:=(ok.dQ a).2.1 e he;rw[mN,h3]at h;omega
  .exact h3
 have hW:∀r,(if mN l a s<0 then(if t≠[]then R4.no 6 else⟨-1,a,s,0⟩)else if(l6 l (mN l a s).toNat).ag=3/\(follow=true\/t≠[])then Oj l ar ay follow (6-h) a t (mN l a s).toNat
  else if t=[]then⟨mN l a s,a,s,0⟩else Iv l ar ay follow (Oj l ar ay follow (6-h)) t (mN l a s).toNat)=r->Cx l ar ay follow (6-h) (s::t) a=r:=λr e=>hS r (by rw[Iv,if_neg oZ,if_neg h2];exact e)
 refine aP (λh3=>?_) (λh3=>?_)
 .refine bu (λh4=>?_) (λh4=>?_)
  .rw[Ks]at h4;have h4:t=[]:=aaq om;exact⟨_,_,Kp (λ_=>rfl),_,_,_,rfl,.done ⟨-1,a,s,0⟩ true _ _ _ (.inl rfl) (hW _ (by rw[if_pos h3,if_neg (by simp[h4])]))⟩
  .rw[Ks]at h4;have h4:t≠[]:=λe=>h4 (by rw[e];rfl)
   refine cM (decide_eq_true h3) ?_;exact⟨_,_,Kp (λ_=>rfl),_,_,_,rfl,.done (R4.no 6) false _ _ _ (.inr (by simp[R4.no])) (hW _ (by rw[if_pos h3,if_pos h4]))⟩
 obtain⟨k,Jt,hk⟩:=hf h3;rw[if_neg h3]at hW;refine si (decide_eq_false h3) ?_;rw[Jt,ZW,um hk]at hW;have U5:=nt hk;have htg:l[k].target=bO.cI (N9 l k):=by obtain⟨tg,e⟩:=bO.BA l[k].target;rw[N9,um hk,e];rfl
 rw[htg]at U5;rw[Jt];have Ye:¬(l[k].ag=3/\(follow=true\/t≠[]))->∀r,(if t=[]then⟨(k:Int),a,s,0⟩else Iv l ar ay follow (Oj l ar ay follow (6-h)) t k)=r->Cx l ar ay follow (6-h) (s::t) a=r:=λhn r e=>hW r (by rw[if_neg hn];exact e)
 refine af U5 ?_;refine bu (λh6=>?_) (λh6=>?_)
 .have h6:l[k].ag=3:=h6;have Yf:(follow=true\/t≠[])->∀r h' a' t',Qg (bO.cO (N9 l k)) ay h a t r h' a' t'->∃e,r=an .i64 e/\Ts l ar ay follow h a s t (stV (R4.no e) false) h' a' t':=by
   intro WI;rw[if_pos ⟨h6,WI⟩]at hW;intro r h' a' t' hq;cases hq with
   |loop _ _ _ e6=>exact⟨13,rfl,.done (R4.no 13) false _ _ _ (.inr (by simp[R4.no])) (hW _ (by rw[e6];rfl))⟩
   |fp _ _ _ e6 he=>exact⟨_,rfl,.done (R4.no _) false _ _ _ (.inr he) (hW _ (by rw[show 6-h=(5-h)+1 by omega];show Ri _ _ _ _ _ _=_;rw[Ri,if_pos he]))⟩
   |out _ _ _ e6 he hr hf'=>exact⟨14,rfl,.done (R4.no 14) false _ _ _ (.inr (by simp[R4.no])) (hW _ (by rw[show 6-h=(5-h)+1 by omega];show Ri _ _ _ _ _ _=_;rw[Ri,if_neg (by simp[he]),if_pos ⟨hr,hf'⟩]))⟩
   |ok e6 he hr=>exact⟨0,rfl,.go _ _ _ (hW _ (by rw[show 6-h=(5-h)+1 by omega];show Ri _ _ _ _ _ _=_;rw[Ri,if_neg (by simp[he]),if_neg hr,show 6-(h+1)=5-h by omega])) (by split;exact ok.pos;exact ha) (.inr ⟨rfl,om,by rw[aa5];have:=ri (N9 l k);omega⟩)⟩
  refine aJ (λh5=>?_) (λh5=>?_)
  .have h5:t≠[]:=λe=>by subst e;cases h5
   refine af U5 ?_;refine Ix l ar ay h a hh t ht (N9 l k) 0 rfl λr h' a' t' hq=>?_
   obtain⟨e,rfl,Qf⟩:=Yf (.inr h5) _ _ _ _ hq;exact⟨_,_,Kp (λ_=>rfl),_,_,_,rfl,Qf⟩
  .have h5:t=[]:=by
    cases t with
    |nil=>rfl
    |cons x r=>cases h5
   cases follow with
   |true=>
    refine af U5 ?_;refine Ix l ar ay h a hh t ht (N9 l k) 0 rfl λr h' a' t' hq=>?_
    obtain⟨e,rfl,Qf⟩:=Yf (.inl rfl) _ _ _ _ hq;exact⟨_,_,Kp (λ_=>rfl),_,_,_,rfl,Qf⟩
   |false=>
    have iu:=Ye (by rw[h5];simp)
    rw[if_pos h5]at iu;subst h5;exact⟨_,_,Kp (λ_=>rfl),_,_,_,rfl,.done ⟨(k:Nat),a,s,0⟩ true _ _ _ (.inl rfl) (iu _ rfl)⟩
 .have h6:l[k].ag≠3:=h6;have iu:=Ye (λh=>h6 h.1)
  refine bu (λh7=>?_) (λh7=>?_)
  .rw[Ks]at h7;have h7:t=[]:=aaq om;rw[if_pos h7]at iu;exact⟨_,_,Kp (λ_=>rfl),_,_,_,rfl,.done ⟨(k:Nat),a,s,0⟩ true _ _ _ (.inl rfl) (iu _ rfl)⟩
  .rw[Ks]at h7;have h7:t≠[]:=λe=>h7 (by rw[e];rfl)
   rw[if_neg h7,<-hw]at iu;exact⟨_,_,Kp (λ_=>rfl),_,_,_,rfl,.go h k t (iu _ rfl) hk (.inl ⟨rfl,rfl⟩)⟩
theorem BK(l:List Ob)(ok:n8 l)(ar:Nat)(ay follow:Bool)(h a:Nat)(hh:h<=6)(ha:a<l.length)(s:bO.dU)(t:List bO.dU)(ht:t.length<=1000){m:Mem}(id:Nat)(hb:cF m id=some (uo l ar ay h a (s::t))){K:CV->Mem->Prop}(hK:∀r h' a' t',Ts l ar ay follow h a s t r h' a' t'->K r (aX m id (uo l ar ay h' a' t'))):aq prog 107 [.rv (.one (.ptr id 0)),aF follow] m K:=
 Oi (args:=[aF follow]) (λ_=>rfl) (Q:=Ts l ar ay follow h a s t) (λr h a t hq Y=>hq.data Y)
  (bL (bc func107 l107 (uq l ok ar ay follow h a hh ha s t ht)) λr m1⟨r',m',hv,hq⟩=>⟨r',m',hv,hq⟩) id hb hK
def c67:LF:= ⟨102,[.cell true 3 10,.tmp 11],(.seq (.ai [qu 10 (.alloc [qd 0,qd 0,(.ah (.val (.string ⟨#[]⟩)))]),qu 11 (.aN (qi 0))]) (.seq (.seq (.ai [qm 19 1,qu 20 (.aL .lss 19 (qi 0)),qm 21 20,qg 22 (.aN 1) 21 false,qg 23 (.aN 0) 21 false,qg 24 (.len 1 23) 21 false,qg 25 (.aL .geq 22 24) 21 false,qu 26 (.pick 21 (qb true) 25),qm 27 26,qg 28 (.aN 0) 27 false,qg 29 (.aN 1) 27 false,qg 30 (.cw 9 28 29) 27 false,qg 31 (.bY 0 30) 27 false,qg 32 (.load false 1 31) 27 false,qg 33 (.aL .eql 32 (qi 0)) 27 false,qu 34 (.pick 27 (qb true) 33)]) (.cond 34 (.seq (.ai [qu 35 (.build [qd 0,qd 0,(.ah (.val (.string ⟨#[]⟩)))] []),qw (.store 3 10 35),qu 11 (.aN (qi 6))]) .ret) .skip)) (.seq (.seq (.ai [qm 36 0,qm 37 1,qu 38 (.cw 9 36 37),qf 39 0 38,ql 40 39,qu 41 (.aL .neq 40 (qi 2))]) (.cond 41 (.seq (.ai [qu 42 (.build [qd 0,qd 0,(.ah (.val (.string ⟨#[]⟩)))] []),qw (.store 3 10 42),qu 11 (.aN (qi 11))]) .ret) .skip)) (.seq (.ai [qm 44 2,qu 45 (qc 66 [44]),qm 43 45,qu 46 (.ext 43 0),qu 47 (.ext 43 1),qu 48 (.ext 43 2),qm 12 46,qm 13 47,qm 14 48]) (.seq (.seq (.ai [qm 49 14,qu 50 (.aL .neq 49 (qi 0))]) (.cond 50 (.seq (.ai [qu 51 (.build [qd 0,qd 0,(.ah (.val (.string ⟨#[]⟩)))] []),qm 52 14,qw (.store 3 10 51),qm 11 52]) .ret) .skip)) (.seq (.ai [qm 53 0,qm 54 1,qm 55 3,qm 56 1,qm 57 12,qu 58 (.build [.aM,qd 0,(.ah (.val (.bool false))),qd 0,qd 0,.aM] [(0,1,53),(1,1,54),(2,1,55),(4,1,56),(5,1,57)]),qu 59 (.box 58),qm 15 59]) (.seq (.seq (.ai [qm 60 13]) (.cond 60 (.seq (.seq (.ai [qm 61 3]) (.cond 61 (.seq (.ai [qu 62 (.build [qd 0,qd 0,(.ah (.val (.string ⟨#[]⟩)))] []),qw (.store 3 10 62),qu 11 (.aN (qi 14))]) .ret) .skip)) (.ai [qm 63 15,qu 64 (.aR 63),qf 65 4 64,qw (.store 1 65 (qi 0))])) .skip)) (.cX (.seq (.block 0 (.loop (.seq (.seq (.ai [qm 66 15,qu 67 (.aR 66),qf 68 5 67,ql 69 68,qu 70 (.len 1 69),qu 71 (.aL .gtr 70 (qi 0))]) (.cond 71 .skip (.exit 0))) (.block 1 (.seq (.ai [qm 73 15,qm 74 4,qu 75 (qc 107 [73,74]),qm 72 75,qu 76 (.ext 72 0),qu 77 (.ext 72 1),qu 78 (.ext 72 2),qu 16 (.alloc [qd 0,qd 0,(.ah (.val (.string ⟨#[]⟩)))]),qw (.store 3 16 76),qm 17 77,qm 18 78]) (.seq (.ai [qm 79 17,qm 80 79,qg 81 (.aN 18) 80 false,qg 82 (.aL .neq 81 (qi 0)) 80 false,qu 83 (.pick 80 (qb true) 82)]) (.cond 83 (.seq (.ai [qL 84 3 16,qm 85 18,qw (.store 3 10 84),qm 11 85]) .ret) .skip))))))) (.seq (.bV [qm 86 15,qu 87 (.aR 86),qf 88 4 87,ql 89 88,qm 90 15,qu 91 (.aR 90),qf 92 0 91,ql 93 92,qm 94 15,qu 95 (.aR 94),qf 96 4 95,ql 97 96,qu 98 (.cw 9 93 97),qf 99 8 98,ql 100 99,qu 101 (.build [qd 0,qd 0,(.ah (.val (.string ⟨#[]⟩)))] [(0,1,89),(1,1,100)]),qw (.store 3 10 101),qu 11 (.aN (qi 0))] [(eE 16 0 (.cons 16 (some []) (.cons 17 none .nil)))]) .ret))))))))))⟩
theorem l67:bz prog f67=some c67.er:=by kernel_rfl
def Wa(r:R4):CV:= .bx [.agg ((V9 r).map .ah),.one (.ah (.val (.int .i64 r.fp)))]
theorem Yg(r:R4):(Wa r).Dd=true:=rfl
structure StP where
 h:Nat
 a:Nat
 t:List bO.dU
theorem Rn(l:List Ob)(ar:Nat)(ay follow:Bool)(n a:Nat):Cx l ar ay follow n [] a=⟨a,BD l a,[],0⟩:=by
 cases n<;>rfl
def G9:LC:=rc (bP (bP (bP (bP (bP (bP (bP c67.code)))))))
def Yh:Bk:= .var ((V9 (R4.no 0)).map .ah)
theorem DR(l:List Ob)(ok:n8 l)(b:Nat)(ay follow:Bool)(a0:Nat)(Wb:a0<l.length)(parts:List bO.dU)(hp:parts.length<=61):
  aw prog 0 G9 (oR prog c67.me (λr m=>r=Wa (Cx l b ay follow 6 parts a0))) ⟨kT 102 [(0,Bh l),(4,aF follow),(10,.rv (.one (.ptr 0 0))),(15,.rv (.one (.ptr 1 0)))],[Yh,uo l b ay 0 a0 parts]⟩:=by
 refine ba (λa:StP=>a.h<=6/\a.a<l.length/\a.t.length<=61*(a.h+1)/\Cx l b ay follow (6-a.h) a.t a.a=Cx l b ay follow 6 parts a0) [0,4,10,15] (λ_=>[]) (λa=>[Yh,uo l b ay a.h a.a a.t]) (λa=>(6-a.h)*1000+a.t.length) ⟨0,a0,parts⟩ ⟨aav _,Wb,by simpa using hp,rfl⟩ ?_ (λa ha=>?_)
 .refine View.o1 2 [0,1] [] (.pt rfl rfl (.eq rfl (by intro x;cases x)) (.pt rfl rfl (.eq rfl (xR _ _ _ _ _ _)) (.nil _)))
 obtain⟨h,a,t⟩:=a;obtain⟨hh,ha,ht,he⟩:=ha;have hh:h<=6:=hh;have ha:a<l.length:=ha;have ht:t.length<=61*(h+1):=ht;have he:Cx l b ay follow (6-h) t a=Cx l b ay follow 6 parts a0:=he;refine aP (λh1=>?_) (λh1=>?_)
 .have h1:((t.map bO.tD).length:Int)>0:=h1;rw[Ks]at h1;obtain⟨s,t',rfl⟩:∃s t',t=s::t':=by
   cases t with
   |nil=>simp at h1
   |cons s t'=>exact⟨s,t',rfl⟩
  have ht:t'.length+1<=61*(h+1):=by simpa using ht
  refine BK l ok b ay follow h a hh ha s t' om 1 rfl λr h' a' Yi hq=>?_
  cases hq with
  |done r okk h' a' Yi hd hr=>
   rw[<-he,hr];cases okk with
   |true=>exact rfl
   |false=>
    have hd:r.fp≠0:=by simpa using hd
    refine bv (λh2=>?_) (λh2=>?_)
    .exact rfl
    .exact absurd h2 hd
  |go h' a' Yi hr Tt hm=>
   refine⟨⟨h',a',Yi⟩,⟨?_,Tt,?_,hr.symm.trans he⟩,?_,View.o 3 [0,1] [] ?_ (.pt rfl rfl (.eq rfl (by intro x;cases x)) (.pt rfl rfl (.eq rfl (xR _ _ _ _ _ _)) (.nil _)))⟩
   .show h'<=6;omega
   .show Yi.length<=61*(h'+1);rcases hm with⟨rfl,rfl⟩|⟨rfl,h6,hl⟩
    .omega
    .omega
   .show(6-h')*1000+Yi.length<(6-h)*1000+(s::t').length;rw[aar];rcases hm with⟨rfl,rfl⟩|⟨rfl,h6,hl⟩
    .omega
    .omega
   .repeat(first|exact .nil|refine .aH ?_|refine .eq rfl ?_)
 .have h1:¬((t.map bO.tD).length:Int)>0:=h1;rw[Ks]at h1;have h1:t=[]:=aaq om;subst h1;rw[Rn]at he;refine af (nt ha) ?_;refine⟨trivial,?_⟩;rw[<-he,ok.Oa ha];exact rfl
theorem Kt(l:List Ob)(ok:n8 l)(ar:Int)(s:bO.dU)(ay follow:Bool):body prog c67 [Bh l,an .i64 ar,bO.vT s,aF ay,aF follow] [] (λr m=>r=Wa (qD l ar s ay follow)):=by
 have kz:pa l ar 0=false->qD l ar s ay follow=R4.no 6:=λh=>by rw[qD,h];rfl
 refine aP (λh1=>?_) (λh1=>?_)
 .rw[kz (by rw[pa,decide_eq_false om];rfl)];rfl
 obtain⟨b,rfl⟩:∃b:Nat,ar=b:=⟨ar.toNat,om⟩;refine aP (λh2=>?_) (λh2=>?_)
 .have h2:(b:Int)>=((l.map Ob.enc).length:Int):=h2;rw[N7]at h2;rw[kz (by rw[pa,decide_eq_false (p:=(b:Int)<l.length) om];simp)];rfl
 have h2:¬(b:Int)>=((l.map Ob.enc).length:Int):=h2;rw[N7]at h2;have hb:b<l.length:=om;have hg:=nt hb;refine af hg ?_;refine bu (λh3=>?_) (λh3=>?_)
 .have h3:l[b].ag=0:=h3;rw[kz (by unfold pa;rw[ZW,vR hb];simp[h3])];rfl
 have h3:l[b].ag≠0:=h3;have hI:pa l b 0=true:=by unfold pa;rw[ZW,vR hb];simp[h3,hb]
 have hL:∀r,(if l[b].ag≠2 then R4.no 11 else if(bO.cO s).2.2≠0 then R4.no (bO.cO s).2.2 else if(bO.cO s).2.1=true/\ay=true then R4.no 14
  else Cx l b ay follow 6 (bO.cO s).1 (if(bO.cO s).2.1=true then 0 else b))=r->qD l b s ay follow=r:=λr e=>by
  rw[qD,if_pos hI,ZW,um hb];exact e
 refine af hg ?_;refine bv (λh4=>?_) (λh4=>?_)
 .rw[hL _ (if_pos h4)];rfl
 have h4:l[b].ag=2:=by simpa using h4
 rw[if_neg (by rw[h4];simp)]at hL
 refine bO.xK s ?_;have hp:=ri s;generalize bO.cO s=p at hp hL|-;obtain⟨parts,aj,er⟩:=p;have hp:parts.length<=61:=hp;refine bv (λh5=>?_) (λh5=>?_)
 .rw[hL _ (if_pos h5)];rfl
 have h5:er=0:=by simpa using h5
 rw[if_neg (by simp[h5])]at hL
 have view:∀a0:Nat,∀e,iC (sg [0,1] 2) [Yh,uo l b ay 0 a0 parts] (λk=>bD [] k=true) e (kT 102 [(0,Bh l),(4,aF follow),(10,.rv (.one (.ptr 0 0))),(15,.rv (.one (.ptr 1 0)))])->
   View 0 ⟨e,[Yh,uo l b ay 0 a0 parts]⟩ ⟨kT 102 [(0,Bh l),(4,aF follow),(10,.rv (.one (.ptr 0 0))),(15,.rv (.one (.ptr 1 0)))],[Yh,uo l b ay 0 a0 parts]⟩:=λa0 e he=>
  View.o 2 [0,1] [] he (.pt rfl rfl (.eq rfl (by intro x;cases x)) (.pt rfl rfl (.eq rfl (xR _ _ _ _ _ _)) (.nil _)))
 cases aj with
 |true=>
  cases ay with
  |true=>
   rw[hL _ (if_pos ⟨rfl,rfl⟩)];rfl
  |false=>
   rw[hL _ (by rw[if_neg aC,if_pos rfl])]
   refine⟨_,view 0 _ ?_,DR l ok b false follow 0 ok.pos parts hp⟩;repeat(first|exact .nil|refine .aH ?_|refine .eq rfl ?_)
 |false=>
  rw[hL _ (by rw[if_neg aC,if_neg aC])]
  refine⟨_,view b _ ?_,DR l ok b ay follow b hb parts hp⟩;repeat(first|exact .nil|refine .aH ?_|refine .eq rfl ?_)
theorem Ro(l:List Ob)(ok:n8 l)(ar:Int)(s:bO.dU)(ay follow:Bool){m:Mem}{K:CV->Mem->Prop}(h:K (Wa (qD l ar s ay follow)) m):aq prog 67 [Bh l,an .i64 ar,bO.vT s,aF ay,aF follow] m K:=by
 refine bi (K0:=λr _=>r=Wa (qD l ar s ay follow)) (cj func67 l67 (Kt l ok ar s ay follow)) (by simp[Bh,an,aF,bO.vT,fe,CV.dC,CC.dC]) λr m1 hr=>?_
 subst hr;exact⟨_,cN.self (Yg _),h⟩
theorem U6{es:List NE}(hs:FV es){s:ByteArray}(hf:Bx es s=false)(n:Int):iZ (s,n) es=es.take (rf es s)++(s,n)::es.drop (rf es s):=by
 obtain⟨h0,h1,h2⟩:=pw hs s es.length 0 es.length om om om (λk e hk=>absurd hk (aa9 k)) (λk e hk he=>by have:=(Ki.1 he).1;omega)
 have hI:Kf es s es.length 0 es.length=rf es s:=rfl;rw[hI]at h0 h1 h2;have e1:∀e,e∈es.take (rf es s)->FW e.1 s=false:=λe he=>by obtain⟨k,hk⟩:=aab he;have gA:=(Ki.1 hk).1;rw[aaE]at gA;rw[aaS,if_pos om]at hk;have h3:=h1 k e om hk;unfold FW;unfold Bf at h3;rw[h3];rfl
 have:=Dp (x:=(s,n)) (a:=es.take (rf es s)) (b:=es.drop (rf es s)) e1;rw[adk]at this;rw[this];congr 1;cases hd:es.drop (rf es s)with
 |nil=>rfl
 |cons e r=>
  have ku:es[rf es s]? =some e:=by
   have:(es.drop (rf es s))[0]? =some e:=by rw[hd];rfl
   rw[abi]at this;simpa using this
  refine QZ ?_;have h3:=h2 (rf es s) e (Yj _) ku;unfold Bx at hf;rw[ku]at hf;have dy:¬lG e.1 s=0:=by simpa using hf
  have dy:e.1.toList≠s.toList:=λh=>dy (xL.2 h)
  show FW e.1 s=true;unfold FW;unfold Bf at h3;have h3:Op.bytesLess e.1.toList s.toList=false:=by simpa using h3
  rw[h3];simp[dy]
theorem Ac{es:List NE}(hs:FV es)(s:ByteArray):(if Bx es s=true then(match es[rf es s]? with|some e=>e.2|none=>0)else -1)=fW es s:=vo hs (Iw hs s) (i3 es s)
def c65:LF:= ⟨20,[.tmp 2],(.seq (.ai [qu 1 (.box 0),qu 2 (.aN qe)]) (.seq (.ai [qu 3 (.aN qe)]) (.seq (.seq (.ai [qf 6 2 1,ql 7 6,qu 8 (.len 1 7),qu 9 (.aN (qi 0))]) (.block 0 (.loop (.seq (.ai [qu 10 (.aL .lss 9 8)]) (.seq (.cond 10 .skip (.exit 0)) (.seq (.block 1 (.seq (.ai [qu 11 (.cw 2 7 9),qL 12 2 11,qu 5 (.alloc [(.ah (.val (.string ⟨#[]⟩))),qd 0]),qw (.store 2 5 12)]) (.ai [qm 13 3,qf 14 0 5,ql 15 14,qu 16 (.nI 1 [(.ah (.val (.string ⟨#[]⟩)))] 1 [(0,15)]),qu 17 (.oL 1 16 13 16),qm 3 17]))) (.ai [qu 18 (.aL .add 9 (qi 1)),qm 9 18]))))))) (.seq (.ai [qm 19 3,qm 2 19]) .ret))))⟩
def c112:LF:= ⟨128,[.tmp 8,.tmp 9],(.seq (.ai [qu 8 (.aN qe),qu 9 (.aN (qi 0))]) (.seq (.block 0 (.seq (.ai [qm 14 1,qu 15 (.aL .lss 14 (qi 0)),qm 16 15,qg 17 (.aN 1) 16 false,qg 18 (.aN 0) 16 false,qg 19 (.len 1 18) 16 false,qg 20 (.aL .geq 17 19) 16 false,qu 21 (.pick 16 (qb true) 20),qm 22 21,qg 23 (.aN 0) 22 false,qg 24 (.aN 1) 22 false,qg 25 (.cw 9 23 24) 22 false,qg 26 (.bY 0 25) 22 false,qg 27 (.load false 1 26) 22 false,qg 28 (.aL .eql 27 (qi 0)) 22 false,qu 29 (.pick 22 (qb true) 28),qm 30 29,qg 31 (.aN 3) 30 false,qg 32 (.aL .lss 31 (qi 0)) 30 false,qu 33 (.pick 30 (qb true) 32),qm 34 33,qg 35 (.aN 3) 34 false,qg 36 (.aN 0) 34 false,qg 37 (.len 1 36) 34 false,qg 38 (.aL .geq 35 37) 34 false,qu 39 (.pick 34 (qb true) 38),qm 40 39,qg 41 (.aN 0) 40 false,qg 42 (.aN 3) 40 false,qg 43 (.cw 9 41 42) 40 false,qg 44 (.bY 0 43) 40 false,qg 45 (.load false 1 44) 40 false,qg 46 (.aL .eql 45 (qi 0)) 40 false,qu 47 (.pick 40 (qb true) 46),qm 13 47]) (.cond 13 (.seq (.ai [qu 8 (.aN qe),qu 9 (.aN (qi 6))]) .ret) (.seq (.ai [qm 49 0,qm 50 1,qu 51 (.cw 9 49 50),qf 52 0 51,ql 53 52,qu 54 (.aL .neq 53 (qi 2)),qm 48 54]) (.cond 48 (.seq (.ai [qu 8 (.aN qe),qu 9 (.aN (qi 11))]) .ret) (.seq (.ai [qm 56 0,qm 57 1,qu 58 (.cw 9 56 57),qf 59 7 58,ql 60 59,qu 61 (.aL .eql 60 (qi 0)),qm 55 61]) (.cond 55 (.seq (.ai [qu 8 (.aN qe),qu 9 (.aN (qi 6))]) .ret) (.seq (.ai [qm 63 2,qu 64 (qc 106 [63]),qu 65 (.un .not 64),qm 66 65,qg 67 (.aN 0) 66 false,qg 68 (.aN 1) 66 false,qg 69 (.aN 2) 66 false,qg 70 (qc 108 [67,68,69]) 66 false,qg 71 (.aL .geq 70 (qi 0)) 66 false,qu 72 (.pick 66 (qb true) 71),qm 62 72]) (.cond 62 (.seq (.ai [qu 8 (.aN qe),qu 9 (.aN (qi 7))]) .ret) (.seq (.ai [qm 74 0,qm 75 1,qu 76 (.cw 9 74 75),qf 77 2 76,ql 78 77,qu 79 (.len 1 78),qu 80 (.aL .geq 79 (qi 8)),qm 73 80]) (.cond 73 (.seq (.ai [qu 8 (.aN qe),qu 9 (.aN (qi 15))]) .ret) .skip))))))))))) (.seq (.ai [qm 81 0,qu 82 (qc 98 [81]),qm 10 82]) (.seq (.ai [qm 84 10,qm 85 1,qu 86 (.cw 9 84 85),qf 87 2 86,ql 88 87,qm 89 2,qu 90 (qc 134 [88,89,(.c (.rv (.one (.fn 139 []))))]),qm 83 90,qu 91 (.ext 83 0),qu 92 (.ext 83 1),qm 11 91,qm 12 92]) (.seq (.ai [qm 93 10,qm 94 1,qm 95 10,qm 96 1,qu 97 (.cw 9 95 96),qf 98 2 97,ql 99 98,qm 100 11,qm 101 2,qm 102 3,qu 103 (.build [(.ah (.val (.string ⟨#[]⟩))),qd 0] [(0,1,101),(1,1,102)]),qu 104 (.nI 2 [(.ah (.val (.string ⟨#[]⟩))),qd 0] 1 [(0,103)]),qu 105 (qc 140 [99,100,104]),qu 106 (.cw 9 93 94),qf 107 2 106,qw (.store 1 107 105)]) (.seq (.ai [qm 108 10,qm 109 3,qu 110 (.cw 9 108 109),qf 111 7 110,ql 112 111,qu 113 (.aL .add 112 (qi 1)),qu 114 (.cw 9 108 109),qf 115 7 114,qw (.store 1 115 113)]) (.seq (.seq (.ai [qm 116 10,qm 117 3,qu 118 (.cw 9 116 117),qf 119 0 118,ql 120 119,qu 121 (.aL .eql 120 (qi 2))]) (.cond 121 (.ai [qm 122 10,qm 123 3,qm 124 1,qu 125 (.cw 9 122 123),qf 126 8 125,qw (.store 1 126 124)]) .skip)) (.cX (.seq (.ai [qm 127 10,qm 8 127,qu 9 (.aN (qi 0))]) .ret)))))))))⟩
def c140:LF:= ⟨95,[.tmp 6],(.seq (.ai [qu 6 (.aN qe)]) (.seq (.ai [qm 10 0,qm 11 1,qu 12 (.oI 2 10 (some 11) none none)]) (.seq (.ai [qm 13 2,qu 14 (.len 1 13),qm 7 14]) (.seq (.seq (.ai [qm 15 7,qu 16 (.aL .eql 15 (qi 0))]) (.cond 16 (.seq (.ai [qm 17 0,qm 6 17]) .ret) .skip)) (.seq (.ai [qm 18 0,qu 19 (.len 1 18),qm 8 19]) (.seq (.seq (.ai [qm 20 1,qm 21 8,qu 22 (.aL .eql 20 21)]) (.cond 22 (.seq (.ai [qm 23 0,qm 24 2,qu 25 (.oL 2 24 23 24),qm 6 25]) .ret) .skip)) (.seq (.seq (.ai [qm 26 8,qm 27 7,qu 28 (.aL .add 26 27),qm 29 0,qu 30 (.ko true []),qu 31 (.aL .gtr 28 30)]) (.cond 31 (.seq (.ai [qm 32 0,qm 33 1,qu 34 (.oI 2 32 none (some 33) none),qm 35 8,qm 36 7,qu 37 (.aL .add 35 36),qm 38 1,qu 39 (.aL .sub 37 38),qu 40 (.ko true []),qm 9 40]) (.seq (.ai [qm 41 9,qm 42 1,qu 43 (.oI 2 41 (some 42) none none),qm 44 2,qu 45 (.copy 2 43 44)]) (.seq (.bV [qm 46 9,qm 47 1,qm 48 7,qu 49 (.aL .add 47 48),qu 50 (.oI 2 46 (some 49) none none),qm 51 0,qm 52 1,qu 53 (.oI 2 51 (some 52) none none),qu 54 (.copy 2 50 53)] [(eE 8 0 (.cons 8 (some []) .nil))]) (.seq (.ai [qm 55 9,qm 6 55]) .ret)))) .skip)) (.seq (.ai [qm 56 0,qm 57 8,qm 58 7,qu 59 (.aL .add 57 58),qu 60 (.oI 2 56 none (some 59) none),qm 0 60]) (.seq (.seq (.ai [qm 61 2,qm 62 0,qm 63 1,qm 64 7,qu 65 (.aL .add 63 64),qu 66 (.oI 2 62 (some 65) none none),qu 67 (qc 151 [61,66]),qu 68 (.un .not 67)]) (.cond 68 (.seq (.bV [qm 69 0,qm 70 1,qm 71 7,qu 72 (.aL .add 70 71),qu 73 (.oI 2 69 (some 72) none none),qm 74 0,qm 75 1,qu 76 (.oI 2 74 (some 75) none none),qu 77 (.copy 2 73 76)] [(eE 8 0 (.cons 8 (some []) .nil))]) (.seq (.ai [qm 78 0,qm 79 1,qu 80 (.oI 2 78 (some 79) none none),qm 81 2,qu 82 (.copy 2 80 81)]) (.seq (.ai [qm 83 0,qm 6 83]) .ret))) .skip)) (.seq (.ai [qm 84 0,qm 85 8,qu 86 (.oI 2 84 (some 85) none none),qm 87 2,qu 88 (.copy 2 86 87)]) (.seq (.ai [qm 89 0,qm 90 1,qu 91 (.oI 2 89 (some 90) none none),qm 92 7,qu 93 (qc 152 [91,92])]) (.seq (.ai [qm 94 0,qm 6 94]) .ret))))))))))))⟩
theorem l65:bz prog f65=some c65:=by kernel_rfl
theorem l140:bz prog f140=some c140:=by kernel_rfl
theorem l112:bz prog f112=some c112.er:=by kernel_rfl
def ZT(e:ByteArray×Int):List Dt:=[.val (.string e.1)]
theorem GA(o:Obj)(es:List (ByteArray×Int))(he:o.ak=es.map db)(hl:es.length<=4194304):body prog c65 [o.cv] [] (λr m=>cN m r (sC 1 (es.map ZT))):=by
 obtain⟨ag,data,ak,target,bs,ax,be,am,up⟩:=o;have he:ak=es.map db:=he;subst he;refine ba (λk=>k<=es.length) [7,8] (λk=>[(9,an .i64 (k:Nat)),(3,.rv (.one (.row 0 1 0 none)))]) (λk=>[.row 1 (aa ((es.take k).map ZT))]) (λk=>es.length-k) 0 (aav _) ?_ (λk hk=>?_)
 .refine View.trans (View.aM 3 1 1 rfl rfl rfl) (View.o1 2 [1] [] ?_)
  .exact .au
 have hk:k<=es.length:=hk;refine aP (λh=>?_) (λh=>?_)
 .have aD:k<es.length:=by have h:(k:Int)<((es.map db).length:Int):=h;rw[N7]at h;omega
  refine af (pu aD) ?_;refine⟨by simp[b7,aa];omega,?_⟩
  refine⟨k+1,aD,(show es.length-(k+1)<es.length-k by omega),View.o2 4 [3] [] ?_⟩
  .refine .pt rfl rfl (.bM ?_) (.nil _);rw[qy (vR aD),abn,dg];rfl
 .have Bi:k=es.length:=by have h:¬(k:Int)<((es.map db).length:Int):=h;rw[N7]at h;omega
  subst Bi;rw[aaZ];exact .rv (.one (ff.fg rfl 0 none))
theorem Ok(o:Obj)(es:List (ByteArray×Int))(he:o.ak=es.map db)(hl:es.length<=4194304){m:Mem}{K:CV->Mem->Prop}(h:K (sC 1 (es.map ZT)) m):aq prog 65 [o.cv] m K:=
 bi (bc func65 l65 (GA o es he hl)) (by simp[Obj.cv,Obj.enc,CV.dC,CC.dC,RV.dC]) λr m1 hf=>⟨_,hf,h⟩
theorem Ol(S:List (List Dt))(e:List Dt)(hl:S.length<=4194304):body prog c140 [.rv (.one (.row 0 2 0 none)),an .i64 (S.length:Nat),.rv (.one (.row 1 2 0 none))] [.row 2 (aa S),.row 2 (aa [e])]
  (λr m=>r= .rv (.one (.row 2 2 0 none))/\m=[.aU,.aU,.row 2 (aa (S++ [e]))]):=by
 have hlen:lenOf (aa S).length 0 none=S.length:=dX S;refine cM (by show(Nat.ble S.length (lenOf (aa S).length 0 none)&&Nat.ble (lenOf (aa S).length 0 none) ((aa S).length-0))=true;rw[hlen,dX];simp[abe]) ?_
 refine bu (λh=>?_) (λh=>?_)
 .refine⟨by simp[b7,aa];omega,rfl,?_⟩
  show [Bk.aU,.aU,.row 2 (b7 (aa S) 0 none++b7 (aa [e]) 0 none)]=_;simp[b7,aa]
 .exfalso;apply h;show((S.length:Nat):Int)=((lenOf (aa S).length 0 none:Nat):Int);rw[hlen]
theorem U7(S:List (List Dt))(e:List Dt)(hl:S.length<=4194304){m:Mem}{K:CV->Mem->Prop}(a b:Nat)(EW:fL [a,b]=true)(aD:eR m.length [a,b]=true)(ha:cF m a=some (.row 2 (aa S)))(hb:cF m b=some (.row 2 (aa [e])))(h:K (.rv (.one (.row m.length 2 0 none))) (c9 m [a,b] [.aU,.aU,.row 2 (aa (S++ [e]))])):aq prog 140 [.rv (.one (.row a 2 0 none)),an .i64 (S.length:Nat),.rv (.one (.row b 2 0 none))] m K:=by
 refine bw [a,b] m.length rfl rfl EW aD (args0:=[.rv (.one (.row 0 2 0 none)),an .i64 (S.length:Nat),.rv (.one (.row 1 2 0 none))]) rfl (m0:=[.row 2 (aa S),.row 2 (aa [e])]) (λi b' hi=>?_) (bc func140 l140 (Ol S e hl)) (λr1 m1 hr=>?_)
 .match i,hi with
  |0,hi=>cases hi;exact .inr ⟨λh=>h,_,by rw[aV]at ha;exact ha,.bM rfl⟩
  |1,hi=>cases hi;exact .inr ⟨λh=>h,_,by rw[aV]at hb;exact hb,.bM rfl⟩
  |n+2,hi=>simp at hi
 .obtain⟨rfl,rfl⟩:=hr;refine⟨aC,?_⟩;show K (.rv (.one (.row (m.length+(2-2)) 2 0 none))) (c9 m [a,b] [.aU,.aU,.row 2 ((aa (S++ [e])).map (λcs=>cs.map (CC.bh (sg [a,b] m.length))))])
  rw[iz];exact h
def abX:LC:=unW (nw (nw (nw (nw (nw (nw (nw c112.code)))))))
end Go.Proofs.YtodckkkbiidffaaGreatDoor
namespace Go.Proofs.YtodckkkbiidffaaGreatDoor
open Proofs.Tryz
open Go.AM Go.ChangeShapes Go.WideShapes Go.ChangeAt Go.RowKit
open Go.Shelf Go.Lib
theorem k6{P:Program}(w:World)(dT sT ty elem:TypeId)(b o dLen dCap:Nat)(a:Addr)(sLen sCap:Nat)(cs:List Value)(hu:P.underlying dT=some (.slice elem))(hs:(P.info? elem).map (·.size)=some 2)(hn:Nat.min sLen dLen*2=cs.length)(hsrc:∀j v,cs[j]? =some v->w.cell? (a.add j)=some v)(hc:∀j,j<cs.length->(w.cell? ⟨b,o+j,none⟩).isSome=true)(hf:∀j,j<cs.length->w.frozen? ⟨b,o+j,none⟩=false)(h1:∀v∈cs,v.oneCell'=true):
  (Builtin.copy_ #[dT,sT] ty #[.slice (some ⟨b,o,none⟩) dLen dCap,.slice (some a) sLen sCap]).run P w= .ok (goInt (Nat.min sLen dLen)) (w.setCells b o cs):=by
 have hl:=run_loadCells_list (P:=P) w a cs hsrc;have hst:=run_storeCells_cells (P:=P) b o cs 0 w (by simpa using hc) (by simpa using hf) h1
 cases hq:P.info? elem with
 |none=>simp[hq]at hs
 |some i=>
  have hi:i.size=2:=by simpa[hq]using hs
  simp[Builtin.copy_,run_underlying hu,Builtin.lenOf,Builtin.firstCells,sizeOf,typeInfo,hq,hi,hn,hl,hst]
open Go.Shelf Go.Lib in
theorem BL(b off n c i vb voff vc:Nat)(cs vs:List Value)(w:World)(hi:i<n)(hroom:n+1<=c)(hc63:c<=9223372036854775807)(hvb:vb≠b)(hcl:cs.length=n*2)(hvl:vs.length=2)(hcs:∀j v,cs[j]? =some v->w.cell? ⟨b,off+j,none⟩=some v)(hsp:∀j,j<(n+1)*2->(w.cell? ⟨b,off+j,none⟩).isSome=true)(hfz:∀j,j<(n+1)*2->w.frozen? ⟨b,off+j,none⟩=false)(hvs:∀j v,vs[j]? =some v->w.cell? ⟨vb,voff+j,none⟩=some v)(h1c:∀v∈cs,v.oneCell'=true)(h1v:∀v∈vs,v.oneCell'=true)(tA tB:TypeId)(kA kB:Nat)(hsa:w.shape? vb=some (tA,kA))(hsb:w.shape? b=some (tB,kB))(hkB:kB≠0)(hfa:w.frozen? ⟨vb,voff,none⟩=false)(hfe:w.frozen? ⟨vb,kA,none⟩=false):
  Calls prog 140 #[.slice (some ⟨b,off,none⟩) n c,.int .i64 i,.slice (some ⟨vb,voff,none⟩) 1 vc] w λe w'=>
   e= .returned (.slice (some ⟨b,off,none⟩) (n+1) c)/\w'=(w.drew.setCells b (off+(i+1)*2) (cs.drop (i*2))).setCells b (off+i*2) vs:=by
 have hz2:¬((i:Int)=(n:Int)):=om;have hov:∀lb cb,(callFunc 151 #[.slice (some ⟨vb,voff,none⟩) 1 vc,.slice (some ⟨b,off+(i+1)*2,none⟩) lb cb]).run prog w= .ok (.value (.bool false)) w:=λlb cb=>by
  rw[run_callFunc_extern func151 (by kernel_rfl) (by kernel_rfl) (by kernel_rfl) (e:=Extern.SlicesOverlaps.overlaps #[84,84] #[4]) (by kernel_rfl),
   Lib.run_overlaps_apart w 84 4 206 underlying84 2 (λw=>by kernel_rfl) ⟨vb,voff,none⟩ ⟨b,off+(i+1)*2,none⟩ 1 vc lb cb hvb tA tB kA kB hsa hsb hkB hfa hfe]
  rfl
 have hsz:(prog.info? 206).map (·.size)=some 2:=by kernel_rfl
 have hdl:(cs.drop (i*2)).length=(n-i)*2:=by rw[abu,hcl,aed]
 have hw1:IntKind.i64.wrap ((i:Int)+1)=(i:Int)+1:=by rw[IntKind.wrap_i64];omega
 have hw2:IntKind.i64.wrap ((n:Int)+1)=(n:Int)+1:=by rw[IntKind.wrap_i64];omega
 have hb1:(0:Int)<=(i:Int)+1:=om;have hin:i<=n:=om;have htn:((i:Int)+1).toNat=i+1:=om;have htn2:((n:Int)+1).toNat=n+1:=om;have hb2:¬(c=i+1):=om;have hb3:(i:Int)<=(n:Int)+1:=om;have hb4:¬(c=i):=om;have hcp1:∀ty dc sc,(Builtin.copy_ #[84,84] ty #[.slice (some ⟨b,off+(i+1)*2,none⟩) (n-i) dc,.slice (some ⟨b,off+i*2,none⟩) (n+1-i) sc]).run prog w.drew= .ok (goInt ((n-i:Nat):Int)) (w.drew.setCells b (off+(i+1)*2) (cs.drop (i*2))):=λty dc sc=>by
  have hm:Nat.min (n+1-i) (n-i)=n-i:=by simp only[aeh];split<;>omega
  have:=k6 (P:=prog) w.drew 84 84 ty 206 b (off+(i+1)*2) (n-i) dc ⟨b,off+i*2,none⟩ (n+1-i) sc (cs.drop (i*2)) underlying84 hsz (by rw[hm,hdl])
   (λj v hj=>by rw[Addr.add_lit,abh];exact hcs (i*2+j) v (by rwa [abi]at hj))
   (λj hj=>by rw[abh];exact hsp _ (by rw[hdl]at hj;omega)) (λj hj=>by rw[abh];exact hfz _ (by rw[hdl]at hj;omega)) (λv hv=>h1c v (acI hv))
  rwa [hm]at this
 obtain⟨W1,hW1⟩:∃W1,W1=w.drew.setCells b (off+(i+1)*2) (cs.drop (i*2)):=⟨_,rfl⟩;have hsp1:∀k,k<(n+1)*2->(W1.cell? ⟨b,off+k,none⟩).isSome=true:=λk hk=>by rw[hW1];exact isSome_setCells b _ _ _ (λj hj=>by rw[abh];exact hsp _ (by rw[hdl]at hj;omega)) _ (hsp k hk)
 have hcp2:∀(W:World),(∀x,W.cell? x=W1.cell? x)->(∀x,W.frozen? x=W1.frozen? x)->∀ty dc,(Builtin.copy_ #[84,84] ty #[.slice (some ⟨b,off+i*2,none⟩) (n+1-i) dc,.slice (some ⟨vb,voff,none⟩) 1 vc]).run prog W= .ok (goInt 1) (W.setCells b (off+i*2) vs):=λW hWc hWf ty dc=>by
  have hm:Nat.min 1 (n+1-i)=1:=by simp only[aeh];split<;>omega
  have:=k6 (P:=prog) W 84 84 ty 206 b (off+i*2) (n+1-i) dc ⟨vb,voff,none⟩ 1 vc vs underlying84 hsz (by rw[hm,hvl])
   (λj v hj=>by
    rw[Addr.add_lit,hWc,hW1,World.cell?_setCells_out b _ _ _ _ (λh _=>absurd h hvb)]
    exact hvs j v hj)
   (λj hj=>by rw[hWc,abh];exact hsp1 _ om) (λj hj=>by rw[hWf,hW1,World.frozen?_setCells,abh];exact hfz _ om) h1v
  rwa [hm]at this
 subst hW1
 go_enter func140,ntmps140
 go_wp2_with (simp only[hov])
 have mixed:prog.follows .mixedOrders=true:=by kernel_rfl
 go_region_law_o (refine step_copy_runI rfl _ _ 84 84 rfl _ _ (by simp[Act.eval,Act.put]) (by simp[Act.eval,Act.put]) (hcp1 _ _ _) ?_)
 go_wp2_with (at_builtin;refine wpList_copy_runI _ rfl _ _ 84 84 rfl _ _ rfl rfl (hcp2 _ (λ_=>rfl) (λ_=>rfl) _ _) ?_)
 go_ret
 exact⟨rfl,rfl⟩
def vS:Value:= .agg #[.string ⟨#[]⟩,.int .i64 0]
open Go.Shelf Go.Lib in
theorem DT(b off n c i vb voff vc:Nat)(cs vs:List Value)(w:World)(hi:i<n)(hnc:n<=c)(hroom:c<n+1)(hbig:(n+1)*24<=140737488355328)(hcl:cs.length=n*2)(hvl:vs.length=2)(hcs:∀j v,cs[j]? =some v->w.cell? ⟨b,off+j,none⟩=some v)(hvs:∀j v,vs[j]? =some v->w.cell? ⟨vb,voff+j,none⟩=some v)(h1c:∀v∈cs,v.oneCell'=true)(h1v:∀v∈vs,v.oneCell'=true):
  Calls prog 140 #[.slice (some ⟨b,off,none⟩) n c,.int .i64 i,.slice (some ⟨vb,voff,none⟩) 1 vc] w λe w'=>
   e= .returned (.slice (some ⟨w.heap.size,0,none⟩) (n+1) (grownCap w (n+1) c 206))/\
   w'=(((w.alloc (.cells ((cs.take (i*2)).toArray++Builtin.zeroCells vS.cells (n+1-i)++Builtin.zeroCells vS.cells (grownCap w (n+1) c 206-(n+1))) 206)).drew.setCells w.heap.size (i*2) vs).drew).setCells w.heap.size ((i+1)*2) (cs.drop (i*2)):=by
 obtain⟨i0,hi0,hz0,hzs,hzb⟩:∃i0,prog.info? 206=some i0/\i0.zero=some vS/\i0.size=2/\i0.bytes=24:=by
  have h9:(prog.info? 206).map (λi=>(i.zero,i.size,i.bytes))=some (some vS,2,24):=by kernel_rfl
  cases hi0:prog.info? 206 with
  |none=>rw[hi0]at h9;cases h9
  |some i0=>
   rw[hi0]at h9;simp only[aaG,aaA,adp]at h9;exact⟨i0,rfl,h9.1,h9.2.1,h9.2.2⟩
 have hz2:¬((i:Int)=(n:Int)):=om;have hz3:(c:Int)<(n:Int)+1:=om;have hsz:(prog.info? 206).map (·.size)=some 2:=by rw[hi0];simp[hzs]
 have hbw:b<w.heap.size:=block_lt_of_cell (hcs 0 _ (vR om));have hvw:vb<w.heap.size:=block_lt_of_cell (hvs 0 _ (vR om));have hwn:IntKind.i64.wrap ((n:Int)+1)=(n:Int)+1:=by rw[IntKind.wrap_i64];omega
 have hwm:IntKind.i64.wrap ((n:Int)+1-(i:Int))=(n:Int)+1-(i:Int):=by rw[IntKind.wrap_i64];omega
 have hkk:(n:Int)+1-(i:Int)=((n+1-i:Nat):Int):=om;have hik:i+(n+1-i)=n+1:=om;have hold:(Builtin.firstCells i0.size i (.slice (some ⟨b,off,none⟩) i c)).run prog w.drew= .ok (cs.take (i*2)).toArray w.drew:=by
  rw[hzs];exact run_firstCells_some w.drew 2 i ⟨b,off,none⟩ i c (cs.take (i*2)) (by rw[aaE];omega) (λj v hj=>by
   rw[Addr.add_lit];rw[aaS]at hj;split at hj
   .exact hcs j v hj
   .cases hj)
 have hrz:∀ty,(Builtin.append_ #[84,3] ty #[.slice (some ⟨b,off,none⟩) i c,.int .i64 ((n:Int)+1-(i:Int))]).run prog w=
   .ok (.slice (some ⟨w.heap.size,0,none⟩) (n+1) (grownCap w (n+1) c 206)) (w.drew.alloc (.cells ((cs.take (i*2)).toArray++Builtin.zeroCells vS.cells (n+1-i)++Builtin.zeroCells vS.cells (grownCap w (n+1) c 206-(n+1))) 206)):=λty=>by
  have h:=Lib.run_append_grow_zeros (P:=prog) w 84 3 ty 206 i0 _ .i64 .i64 underlying84 underlying3 hi0 hz0 (some ⟨b,off,none⟩) i c (cs.take (i*2)) hold (n+1-i) om om om om (by rw[hzb];omega) (by rw[hzb,hik];exact growslice_fits hroom hbig)
  rw[hik]at h;rw[hkk];exact h
 obtain⟨G,hG⟩:∃G,G=grownCap w (n+1) c 206:=⟨_,rfl⟩;obtain⟨ROW,hROW⟩:∃ROW:Array Value,ROW=(cs.take (i*2)).toArray++Builtin.zeroCells vS.cells (n+1-i)++Builtin.zeroCells vS.cells (G-(n+1)):=⟨_,rfl⟩;rw[<-hG]at hrz|-;rw[<-hROW]at hrz|-;have hRl:(n+1)*2<=ROW.size:=by rw[hROW];simp[Builtin.zeroCells,Value.cells,vS];omega
 obtain⟨W1,hW1⟩:∃W1,W1=w.drew.alloc (.cells ROW 206):=⟨_,rfl⟩;rw[<-hW1]at hrz;have hN:∀j,j<(n+1)*2->(W1.cell? ⟨w.heap.size,j,none⟩).isSome=true:=λj hj=>by rw[hW1,World.cell?_alloc_at (w:=w.drew) ROW _ w.heap.size j rfl,abI om];rfl
 have hNf:∀j,W1.frozen? ⟨w.heap.size,j,none⟩=false:=λj=>by rw[hW1];exact World.frozen?_alloc_at (w:=w.drew) ROW _ w.heap.size j rfl
 have hOb:∀j v,w.cell? ⟨b,j,none⟩=some v->W1.cell? ⟨b,j,none⟩=some v:=λj v h=>by rw[hW1,World.cell?_alloc_past (w:=w.drew) _ b j hbw];exact h
 have hOv:∀j v,w.cell? ⟨vb,j,none⟩=some v->W1.cell? ⟨vb,j,none⟩=some v:=λj v h=>by rw[hW1,World.cell?_alloc_past (w:=w.drew) _ vb j hvw];exact h
 have hcpA:∀(W:World),(∀x,W.cell? x=W1.cell? x)->(∀x,W.frozen? x=W1.frozen? x)->∀ty dc,(Builtin.copy_ #[84,84] ty #[.slice (some ⟨w.heap.size,i*2,none⟩) (n+1-i) dc,.slice (some ⟨vb,voff,none⟩) 1 vc]).run prog W= .ok (goInt 1) (W.setCells w.heap.size (i*2) vs):=λW hWc hWf ty dc=>by
  have hm:Nat.min 1 (n+1-i)=1:=by simp only[aeh];split<;>omega
  have:=k6 (P:=prog) W 84 84 ty 206 w.heap.size (i*2) (n+1-i) dc ⟨vb,voff,none⟩ 1 vc vs underlying84 hsz (by rw[hm,hvl])
   (λj v hj=>by rw[Addr.add_lit,hWc];exact hOv _ v (hvs j v hj))
   (λj hj=>by rw[hWc];exact hN _ om) (λj hj=>by rw[hWf];exact hNf _) h1v
  rwa [hm]at this
 have hGn:n+1<=G:=by rw[hG];exact grownCap_ge w _ _ _
 have hG63:G<=9223372036854775807:=by
  have:=grownCap_le_maxLen w (n+1) c 206 (by unfold maxLen;omega)
  rw[<-hG]at this;unfold maxLen at this;omega
 have hGi:¬(G=i):=om;have hGim:¬(G=i+1):=om;have hci:¬(c=i):=om;have hbN:b≠w.heap.size:=om;have hdl:(cs.drop (i*2)).length=(n-i)*2:=by rw[abu,hcl,aed]
 have hcpB:∀(W:World),(∀x,W.cell? x=(W1.setCells w.heap.size (i*2) vs).cell? x)->(∀x,W.frozen? x=(W1.setCells w.heap.size (i*2) vs).frozen? x)->∀ty dc sc,(Builtin.copy_ #[84,84] ty #[.slice (some ⟨w.heap.size,(i+1)*2,none⟩) (n-i) dc,.slice (some ⟨b,off+i*2,none⟩) (n-i) sc]).run prog W= .ok (goInt ((n-i:Nat):Int)) (W.setCells w.heap.size ((i+1)*2) (cs.drop (i*2))):=λW hWc hWf ty dc sc=>by
  have hm:Nat.min (n-i) (n-i)=n-i:=by simp[aeh]
  have:=k6 (P:=prog) W 84 84 ty 206 w.heap.size ((i+1)*2) (n-i) dc ⟨b,off+i*2,none⟩ (n-i) sc (cs.drop (i*2)) underlying84 hsz (by rw[hm,hdl])
   (λj v hj=>by
    rw[Addr.add_lit,hWc,World.cell?_setCells_out _ _ _ _ _ (λh _=>absurd h hbN),abh]
    exact hOb _ v (hcs (i*2+j) v (by rwa [abi]at hj)))
   (λj hj=>by rw[hWc];exact isSome_setCells _ _ _ _ (λt ht=>hN _ om) _ (hN _ om))
   (λj hj=>by rw[hWf,World.frozen?_setCells];exact hNf _) (λv hv=>h1c v (acI hv))
  rwa [hm]at this
 subst hW1;have hE1:∀x,((w.alloc (.cells ROW 206)).drew).cell? x=(w.drew.alloc (.cells ROW 206)).cell? x:=λx=>rfl
 have hE2:∀x,((w.alloc (.cells ROW 206)).drew).frozen? x=(w.drew.alloc (.cells ROW 206)).frozen? x:=λx=>rfl
 have hF1:∀x,(((w.alloc (.cells ROW 206)).drew.setCells w.heap.size (i*2) vs).drew).cell? x=((w.drew.alloc (.cells ROW 206)).setCells w.heap.size (i*2) vs).cell? x:=λx=>rfl
 have hF2:∀x,(((w.alloc (.cells ROW 206)).drew.setCells w.heap.size (i*2) vs).drew).frozen? x=((w.drew.alloc (.cells ROW 206)).setCells w.heap.size (i*2) vs).frozen? x:=λx=>rfl
 have hw1:IntKind.i64.wrap ((i:Int)+1)=(i:Int)+1:=by rw[IntKind.wrap_i64];omega
 have hb1:(0:Int)<=(i:Int)+1:=om;have hin:i<=n:=om;have htn:((i:Int)+1).toNat=i+1:=om;have hb3:(i:Int)<=(n:Int):=om;have hnn:n+1-(i+1)=n-i:=om;clear hkk hik hold hROW hG hRl;have mixed:prog.follows .mixedOrders=true:=by kernel_rfl
 go_enter func140,ntmps140
 go_wp2_with (first
  |(at_builtin;refine Lib.wpList_append_run _ rfl _ _ _ _ rfl _ _ rfl rfl _ _ (hrz _) ?_)
  |(at_builtin;refine wpList_copy_runI _ rfl _ _ 84 84 rfl _ _ rfl rfl (hcpA _ hE1 hE2 _ _) ?_)
  |(at_builtin;refine wpList_copy_runI _ rfl _ _ 84 84 rfl _ _ rfl rfl (hcpB _ (λ_=>rfl) (λ_=>rfl) _ _ _) ?_))
 go_region_law_o (refine step_copy_runI rfl _ _ 84 84 rfl (.slice (some ⟨w.heap.size,(i+1)*2,none⟩) (n-i) (G-(i+1))) (.slice (some ⟨b,off+i*2,none⟩) (n-i) (c-i)) (by simp[Act.eval,Act.put]) (by simp[Act.eval,Act.put]) (hcpB _ hF1 hF2 3 (G-(i+1)) (c-i)) ?_)
 go_wp2
 go_ret
 exact⟨rfl,rfl⟩
end Go.Proofs.YtodckkkbiidffaaGreatDoor
namespace Go.Proofs.YtodckkkbiidffaaGreatDoor
open Proofs.Tryz
open Go.AM Go.ChangeShapes Go.WideShapes Go.ChangeAt Go.RowKit
theorem ja{mk:Prop}{b:Nat}:∀(vs:List Value)(o:Nat)(w:World)(cur:Array Value),mE mk w b cur->o+vs.length<=cur.size->
  ∃gZ,mE mk (w.setCells b o vs) b gZ/\eV w (w.setCells b o vs) b/\gZ.size=cur.size/\∀k,gZ[k]? =if o<=k/\k<o+vs.length then vs[k-o]? else cur[k]?
 | [],o,w,cur,hc,_=>⟨cur,hc,⟨λ_ _=>rfl,rfl,rfl,rfl,rfl⟩,rfl,λk=>by rw[if_neg aC]⟩
 |v::r,o,w,cur,hc,hle=>by
  have Cq:mE mk (w.setCell ⟨b,o,none⟩ v) b (cur.setIfInBounds o v):=by
   obtain⟨ty,fr,hb,hf⟩:=hc;refine⟨ty,fr,?_,by simpa using hf⟩
   simp[World.setCell,abf,hb]
  have AI:eV w (w.setCell ⟨b,o,none⟩ v) b:=⟨λb hb=>by simp[World.setCell,abf,Ne.symm hb],aC,rfl,rfl,rfl⟩
  simp only[aar]at hle;obtain⟨gZ,h1,ht,h2,h3⟩:=ja (mk:=mk) r (o+1) _ _ Cq (by simp;omega)
  refine⟨gZ,h1,⟨λb hb=>(ht.heap b hb).trans (AI.heap b hb),ht.size.trans AI.size,ht.os,ht.tape,ht.output⟩,by rw[h2];simp,λk=>?_⟩
  rw[h3 k];simp only[aar];by_cases hk:k=o
  .subst hk;rw[if_neg om,if_pos om,ab3 om];simp
  .by_cases oZ:o+1<=k/\k<o+1+r.length
   .rw[if_pos oZ,if_pos om];obtain⟨j,rfl⟩:∃j,k=o+1+j:=⟨k-(o+1),om⟩;rw[show o+1+j-(o+1)=j by omega,show o+1+j-o=j+1 by omega,abv]
   .rw[if_neg oZ,if_neg om,acM om]
theorem GC{S:List (List Dt)}{i:Nat}{cs:List CC}(h:(aa S)[i]? =some cs):∃ds,S[i]? =some ds/\cs=ds.map .ah:=by simp only[aa,Tr]at h;obtain⟨ds,h1,h2⟩:=aaB.1 h;exact⟨ds,h1,h2.symm⟩
theorem Iy{S:List (List Dt)}{e:List Dt}{i:Nat}(hi:i<S.length)(k:Nat)(ds:List Dt)(h:(S.take i++e::S.drop i)[k]? =some ds):(k<i/\S[k]? =some ds)\/(k=i/\ds=e)\/(i<k/\S[k-1]? =some ds):=by
 have hl:(S.take i).length=i:=by rw[aaE];omega
 rcases adj k i with h1|h1|h1
 .rw[aad om,aaS,if_pos h1]at h;exact .inl ⟨h1,h⟩
 .subst h1;rw[Y5 om,hl,ac6]at h;exact .inr (.inl ⟨rfl,by simpa using h.symm⟩)
 .rw[Y5 om,hl,show k-i=(k-1-i)+1 by omega,abv,abi,show i+(k-1-i)=k-1 by omega]at h
  exact .inr (.inr ⟨h1,h⟩)
theorem Ku(S:List (List Dt))(e:List Dt)(i:Nat)(hi:i<S.length)(hl:S.length<=4194304):aq prog 140 [.rv (.one (.row 0 2 0 none)),an .i64 (i:Nat),.rv (.one (.row 1 2 0 none))] [.row 2 (aa S),.row 2 (aa [e])]
  (λr m=>r= .rv (.one (.row 2 2 0 none))/\m=[.aU,.aU,.row 2 (aa (S.take i++e::S.drop i))]):=by
 refine⟨⟨f140,func140,rfl,by decide⟩,λρ w vs hM yW hd=>?_⟩
 obtain⟨v0,h0,d0⟩:=hd 0 _ rfl;obtain⟨v1,h1,d1⟩:=hd 1 _ rfl;obtain⟨v2,h2,d2⟩:=hd 2 _ rfl;have EN:vs=[v0,v1,v2]:=by
  match vs,yW with
  | [a,b,c],_=>simp at h0 h1 h2;rw[h0,h1,h2]
 have Fq:v1= .int .i64 (i:Nat):=(bH d1).1;obtain⟨_,_,_,agt,Va,a0,V0,Wb⟩:=(show bm ρ w none (.row 0 2 0 none) v0 from d0);obtain⟨_,_,_,Xz,Qr,a1,vJ,ZX⟩:=(show bm ρ w none (.row 1 2 0 none) v2 from d2);obtain⟨ab8,_,_,My,ab9⟩:=hM.bk 0 _ rfl;obtain⟨aca,_,_,Xs,acb⟩:=hM.bk 1 _ rfl;have Ym:(ρ.aI (.aj 0)).len=S.length:=by rw[<-ab8];simp[aa]
 have Yn:(ρ.aI (.aj 1)).len=1:=by rw[<-aca];simp[aa]
 have Om:0<(ρ.aI (.aj 0)).cap:=om;have HN:0<(ρ.aI (.aj 1)).cap:=om;obtain⟨On,Ad,Df,Rp⟩:=ab9 Om;obtain⟨Oo,Oq,XB,Rq⟩:=acb HN;have Wb:=Wb Om;have ZX:=ZX HN;have Ot:Live ρ [.row 2 (aa S),.row 2 (aa [e])] (.aj 0):=⟨_,rfl,aC,λ_=>Om⟩
 have Yo:Live ρ [.row 2 (aa S),.row 2 (aa [e])] (.aj 1):=⟨_,rfl,aC,λ_=>HN⟩
 have ZU:(ρ.aI (.aj 1)).b≠(ρ.aI (.aj 0)).b:=λhe=>by have:=hM.inj _ _ Yo Ot he;cases this
 simp only[adm,acW,adI,ac8]at V0 vJ Wb ZX;have Yp:ρ.n=2:=hM.n;have ZY:=hM;generalize P9:ρ.aI (.aj 0)=L0 at*
 generalize hL1:ρ.aI (.aj 1)=L1 at*
 obtain⟨b,ar,len,cap⟩:=L0;obtain⟨vb,Ae,agu,Vb⟩:=L1;simp only at*
 subst Ym Yn;have Vc:=Ad.lt;have Wc:∀(k:Nat)(ds:List Dt),S[k]? =some ds->ds.length=2:=λk ds hk=>by
  have:=My (ds.map .ah) (Tu (i:=k) (by simp[aa,hk]))
  simpa using this
 have kK:e.length=2:=by
  have:=Xs (e.map .ah) (by simp[aa])
  simpa using this
 obtain⟨cs,Yq⟩:∃cs,cs=(On.toList.drop ar).take (S.length*2):=⟨_,rfl⟩;have iB:cs.length=S.length*2:=by have:=abY (xs:=On);rw[Yq,aaE,abu];omega
 have V1:∀j,j<S.length*2->cs[j]? =On[ar+j]? :=λj hj=>by rw[Yq,aaS,if_pos hj,abi,abz]
 obtain⟨vv,Yr⟩:∃vv,vv=(Oo.toList.drop Ae).take 2:=⟨_,rfl⟩;have BM:vv.length=2:=by have:=abY (xs:=Oo);rw[Yr,aaE,abu];omega
 have hvg:∀j,j<2->vv[j]? =Oo[Ae+j]? :=λj hj=>by rw[Yr,aaS,if_pos hj,abi,abz]
 have Ou:∀(k:Nat)(ds:List Dt)(j:Nat)(d:Dt),S[k]? =some ds->ds[j]? =some d->∃u,cs[k*2+j]? =some u/\dj ρ.S w d u:=λk ds j d hk hj=>by
  have gA:=(Ki.1 hk).1;have kM:=(Ki.1 hj).1;rw[Wc k ds hk]at kM;obtain⟨u,hu,cz⟩:=Rp k (ds.map .ah) j (.ah d) (by simp[aa,hk]) (by simp[hj])
  exact⟨u,by rw[V1 _ om,<-abh];exact hu,cz⟩
 have Tv:∀(j:Nat)(d:Dt),e[j]? =some d->∃u,vv[j]? =some u/\dj ρ.S w d u:=λj d hj=>by
  have kM:=(Ki.1 hj).1;rw[kK]at kM;obtain⟨u,hu,cz⟩:=Rq 0 (e.map .ah) j (.ah d) (by simp[aa]) (by simp[hj])
  exact⟨u,by rw[hvg _ kM];simpa using hu,cz⟩
 have Tw:∀v∈cs,v.oneCell'=true:=λv hv=>by
  obtain⟨j,hj⟩:=aab hv;have kM:=(Ki.1 hj).1;have hk:j/2<S.length:=om;have yF:=Wc (j/2) S[j/2] (vR hk);obtain⟨u,hu,cz⟩:=Ou (j/2) S[j/2] (j%2) (S[j/2][j%2]'(by omega)) (vR hk) (vR _)
  rw[show j/2*2+j%2=j by omega,hj]at hu
  cases hu;exact cz.one
 have Tx:∀v∈vv,v.oneCell'=true:=λv hv=>by
  obtain⟨j,hj⟩:=aab hv;have kM:=(Ki.1 hj).1;obtain⟨u,hu,cz⟩:=Tv j (e[j]'(by omega)) (vR _)
  rw[hj]at hu;cases hu;exact cz.one
 have A5:∀(j:Nat)(v:Value),cs[j]? =some v->w.cell? ⟨b,ar+j,none⟩=some v:=λj v hj=>by
  rw[Ad.cell,<-V1 j (by rw[<-iB];exact(Ki.1 hj).1)];exact hj
 have A6:∀(j:Nat)(v:Value),vv[j]? =some v->w.cell? ⟨vb,Ae+j,none⟩=some v:=λj v hj=>by
  rw[Oq.cell,<-hvg j (by rw[<-BM];exact(Ki.1 hj).1)];exact hj
 have eY:vs.toArray= #[.slice (some ⟨b,ar,none⟩) S.length cap,.int .i64 (i:Nat),.slice (some ⟨vb,Ae,none⟩) 1 Vb]:=by rw[EN,V0,Fq,vJ,Wb,ZX]
 rw[eY];have DU:∀(w':World)(l:AM.wj)(gZ:Array Value),iM ρ w (ρ.move l λ_ _=>.sub 0 0 0) w'->(∀k,k<i*2->gZ[l.ar+k]? =cs[k]?)->(∀k,k<2->gZ[l.ar+(i*2+k)]? =vv[k]?)->(∀k,k<(S.length-i)*2->gZ[l.ar+((i+1)*2+k)]? =cs[i*2+k]?)->
   ∀(k:Nat)EY(j:Nat)c,(aa (S.take i++e::S.drop i))[k]? =some EY->EY[j]? =some c->∃u,gZ[l.ar+k*2+j]? =some u/\bm (ρ.move l λ_ _=>.sub 0 0 0) w' (some (ρ.n,k,j)) c u:=by
  intro w' l gZ g q1 q2 q3 k EY j c hk hj;obtain⟨ds,zy,rfl⟩:=GC hk;rw[Tr]at hj;obtain⟨d,vD,rfl⟩:=aaB.1 hj;have kM:=(Ki.1 vD).1;rcases Iy hi k ds zy with⟨EU,hS⟩|⟨rfl,rfl⟩|⟨EU,hS⟩
  .rw[Wc k ds hS]at kM;obtain⟨u,hu,cz⟩:=Ou k ds j d hS vD;exact⟨u,by rw[abh,q1 _ om];exact hu,cz.mono g.S g.heap⟩
  .rw[kK]at kM;obtain⟨u,hu,cz⟩:=Tv j d vD;exact⟨u,by rw[abh,q2 _ kM];exact hu,cz.mono g.S g.heap⟩
  .rw[Wc _ ds hS]at kM;obtain⟨u,hu,cz⟩:=Ou (k-1) ds j d hS vD;have gA:=(Ki.1 hS).1;refine⟨u,?_,cz.mono g.S g.heap⟩;rw[abh,show k*2+j=(i+1)*2+((k-1-i)*2+j) by omega,q3 _ om,show i*2+((k-1-i)*2+j)=(k-1)*2+j by omega]
   exact hu
 have H9:(aa (S.take i++e::S.drop i)).length=S.length+1:=by simp[aa];omega
 have EO:∀cs,cs∈aa (S.take i++e::S.drop i)->cs.length=2:=λEY hm=>by
  obtain⟨k,hk⟩:=aab hm;obtain⟨ds,zy,rfl⟩:=GC hk;rw[N7];rcases Iy hi k ds zy with⟨_,hS⟩|⟨_,rfl⟩|⟨_,hS⟩
  .exact Wc _ _ hS
  .exact kK
  .exact Wc _ _ hS
 have jq:∀(k:Nat)EY(j:Nat)s el,(aa (S.take i++e::S.drop i))[k]? =some EY->EY[j]? =some (.ei s el)->False:=λk EY j s el hk hj=>by obtain⟨ds,_,rfl⟩:=GC hk;rw[Tr]at hj;obtain⟨d,_,h⟩:=aaB.1 hj;cases h
 have pT:([.aU,.aU]:Mem).length=([.row 2 (aa S),.row 2 (aa [e])]:Mem).length:=rfl;have js:∀(id:Nat)bk,([.aU,.aU]:Mem)[id]? =some bk->bk= .aU\/(([.row 2 (aa S),.row 2 (aa [e])]:Mem)[id]? =some bk/\¬(id=0\/id=1)):=λid bk h=>by
  match id,h with
  |0,h=>cases h;exact .inl rfl
  |1,h=>cases h;exact .inl rfl
  |id+2,h=>simp at h
 have DV:∀k,(cs.drop (i*2))[k]? =cs[i*2+k]? :=λk=>by rw[abi]
 have my:(cs.drop (i*2)).length=(S.length-i)*2:=by rw[abu,iB,aed]
 by_cases oo:S.length+1<=cap
 ·
  obtain⟨ty0,fr0,hh0,agx,agy,agz⟩:=id Ad;obtain⟨ty1,fr1,VU,agC,agD,Ys⟩:=id Oq;have Ys:fr1.2<=Oo.size:=by
   rcases Ys with h|h
   .cases h
   .exact h
  have A4:∀j,j<(S.length+1)*2->(w.cell? ⟨b,ar+j,none⟩).isSome=true:=λj hj=>by rw[Ad.cell,abI om];rfl
  have zd:=BL b ar S.length cap i vb Ae Vb cs vv w hi oo (by unfold maxLen at Va;omega) ZU iB BM A5 A4 (λj hj=>Ad.qJ om) A6 Tw Tx ty1 ty0 Oo.size On.size
   (by simp[World.shape?,VU]) (by simp[World.shape?,hh0]) om (Oq.qJ om) (by simp only[World.frozen?,VU];simp;omega)
  refine zd.mono ?_;rintro e' w' ⟨rfl,rfl⟩;obtain⟨c1,Cq,AI,LH,kL⟩:=ja (cs.drop (i*2)) (ar+(i+1)*2) w.drew On (Ad.dH rfl) (by rw[my];omega)
  obtain⟨c2,wO,wK,ER,oZ⟩:=ja vv (ar+i*2) _ c1 Cq (by rw[BM];omega)
  have hT:eV w ((w.drew.setCells b (ar+(i+1)*2) (cs.drop (i*2))).setCells b (ar+i*2) vv) b:=
   ⟨λx hx=>((wK.heap x hx).trans (AI.heap x hx)).trans rfl,(wK.size.trans AI.size).trans rfl,(wK.os.trans AI.os).trans rfl,(wK.tape.trans AI.tape).trans rfl,(wK.output.trans AI.output).trans rfl⟩
  obtain⟨jl,hX⟩:=hM.move (w':=(w.drew.setCells b (ar+(i+1)*2) (cs.drop (i*2))).setCells b (ar+i*2) vv) (m1:=[.aU,.aU]) (D:=λid=>id=0\/id=1) (esz:=2) (E:=aa (S.take i++e::S.drop i)) (l:=⟨b,ar,S.length+1,cap⟩) (src:=λ_ _=>.sub 0 0 0)
   pT js (by rw[hT.size];exact Yj _) hT.os hT.tape hT.output (λx hx dy=>hT.heap x (λhe=>dy 0 (.inl rfl) Ot (by rw[P9];exact he.symm)))
   (λ_=>⟨by rw[hT.size];exact Vc,.inr ⟨0,.inl rfl,Ot,by rw[P9]⟩⟩) H9 oo Va EO
   (λg _=>⟨c2,wO,by rw[ER,LH];exact Df,DU _ ⟨b,ar,S.length+1,cap⟩ c2 g (λk hk=>by
    show c2[ar+k]? =_;rw[oZ,if_neg (by rw[BM];omega),kL,if_neg om,V1 _ om]) (λk hk=>by
    show c2[ar+(i*2+k)]? =_;rw[oZ,if_pos (by rw[BM];omega),show ar+(i*2+k)-(ar+i*2)=k by omega]) (λk hk=>by
    show c2[ar+((i+1)*2+k)]? =_;rw[oZ,if_neg (by rw[BM];omega),kL,if_pos (by rw[my];omega),show ar+((i+1)*2+k)-(ar+(i+1)*2)=k by omega,DV])⟩)
   (λk EY j s el hk hj=>(jq k EY j s el hk hj).elim) (λ_ _ _ _ _⟨EY,s,el,hk,hj⟩ _=>(jq _ EY _ s el hk hj).elim)
  refine⟨_,_,_,_,rfl,⟨rfl,rfl⟩,jl,?_,hX⟩;refine⟨by simp[bJ.move,Yp],?_⟩
  have m6:(ρ.move ⟨b,ar,S.length+1,cap⟩ λ_ _=>.sub 0 0 0).aI (.aj 2)=⟨b,ar,S.length+1,cap⟩:=by simp[bJ.move,Yp]
  rw[m6];exact⟨aav _,Yj _,oo,Va,_,rfl,λ_=>aC⟩
 ·
  have zd:=DT b ar S.length cap i vb Ae Vb cs vv w hi om om om iB BM A5 A6 Tw Tx;refine zd.mono ?_;rintro e' w' ⟨rfl,rfl⟩;have hGn:S.length+1<=grownCap w (S.length+1) cap 206:=grownCap_ge w _ _ _;have hGm:grownCap w (S.length+1) cap 206<=maxLen:=grownCap_le_maxLen w (S.length+1) cap 206 (by unfold maxLen;omega)
  generalize grownCap w (S.length+1) cap 206=G at*
  obtain⟨ROW,GB⟩:∃ROW:Array Value,ROW=(cs.take (i*2)).toArray++Builtin.zeroCells vS.cells (S.length+1-i)++Builtin.zeroCells vS.cells (G-(S.length+1)):=⟨_,rfl⟩;rw[<-GB];have hRs:ROW.size=G*2:=by rw[GB];simp[Builtin.zeroCells,Value.cells,vS,aaE,iB];omega
  have hRg:∀k,k<i*2->ROW[k]? =cs[k]? :=λk hk=>by
   rw[GB,Array.append_assoc,acZ (by simp[iB];omega)]
   simp[aaS,hk]
  have hA:eP w (w.alloc (.cells ROW 206)).drew:=(eP.alloc w _).trans (eP.drew _);obtain⟨c1,Cq,AI,LH,kL⟩:=ja (mk:=(2:Nat)=1) vv (i*2) (w.alloc (.cells ROW 206)).drew ROW ((mE.new w ROW 206).dH rfl) (by rw[BM];omega)
  obtain⟨c2,wO,wK,ER,oZ⟩:=ja (mk:=(2:Nat)=1) (cs.drop (i*2)) ((i+1)*2) ((w.alloc (.cells ROW 206)).drew.setCells w.heap.size (i*2) vv).drew c1 (Cq.dH rfl) (by rw[my];omega)
  have dq:w.heap.size<((((w.alloc (.cells ROW 206)).drew.setCells w.heap.size (i*2) vv).drew).setCells w.heap.size ((i+1)*2) (cs.drop (i*2))).heap.size:=by rw[wK.size];show w.heap.size<((w.alloc (.cells ROW 206)).drew.setCells w.heap.size (i*2) vv).heap.size;rw[AI.size];show w.heap.size<(w.alloc (.cells ROW 206)).heap.size;simp
  obtain⟨jl,hX⟩:=hM.move (w':=(((w.alloc (.cells ROW 206)).drew.setCells w.heap.size (i*2) vv).drew).setCells w.heap.size ((i+1)*2) (cs.drop (i*2))) (m1:=[.aU,.aU]) (D:=λid=>id=0\/id=1) (esz:=2) (E:=aa (S.take i++e::S.drop i)) (l:=⟨w.heap.size,0,S.length+1,G⟩) (src:=λ_ _=>.sub 0 0 0)
   pT js (Nat.le_of_lt dq) ((wK.os.trans AI.os).trans rfl) ((wK.tape.trans AI.tape).trans rfl) ((wK.output.trans AI.output).trans rfl)
   (λx hx _=>((wK.heap x om).trans (AI.heap x om)).trans (hA.heap x hx))
   (λ_=>⟨dq,.inl (Yj _)⟩) H9 hGn hGm EO
   (λg _=>⟨c2,wO,by rw[ER,LH,hRs];show 0+G*2<=G*2;omega,DU _ ⟨w.heap.size,0,S.length+1,G⟩ c2 g (λk hk=>by
    show c2[0+k]? =_;rw[aa6,oZ,if_neg om,kL,if_neg om,hRg _ hk]) (λk hk=>by
    show c2[0+(i*2+k)]? =_;rw[aa6,oZ,if_neg om,kL,if_pos (by rw[BM];omega),show i*2+k-i*2=k by omega]) (λk hk=>by
    show c2[0+((i+1)*2+k)]? =_;rw[aa6,oZ,if_pos (by rw[my];omega),show(i+1)*2+k-(i+1)*2=k by omega,DV])⟩)
   (λk EY j s el hk hj=>(jq k EY j s el hk hj).elim) (λ_ _ _ _ _⟨EY,s,el,hk,hj⟩ _=>(jq _ EY _ s el hk hj).elim)
  refine⟨_,_,_,_,rfl,⟨rfl,rfl⟩,jl,?_,hX⟩;refine⟨by simp[bJ.move,Yp],?_⟩
  have m6:(ρ.move ⟨w.heap.size,0,S.length+1,G⟩ λ_ _=>.sub 0 0 0).aI (.aj 2)=⟨w.heap.size,0,S.length+1,G⟩:=by simp[bJ.move,Yp]
  rw[m6];exact⟨aav _,Yj _,hGn,hGm,_,rfl,λ_=>aC⟩
def Obj.ob(o:Obj):Ob:=⟨o.ag,o.data,o.ak,o.target,o.bs,.sl 4 (o.ax.map dn.enc),o.be,o.am,o.up⟩
theorem Vd(l:List Obj):dt l=Q0 (l.map Obj.ob):=by show Dt.sl 9 (l.map Obj.enc)=Dt.sl 9 ((l.map Obj.ob).map Ob.enc);rw[abJ];rfl
def ke(l:List Obj)(n p:Nat)(name:ByteArray):List Obj:=match l[n]? with
 |none=>l
 |some o=>match (l.set n {o with ak:=(iZ (name,(p:Int)) (o.ak.map ou)).map gl})[p]? with
  |none=>l
  |some q=>(l.set n {o with ak:=(iZ (name,(p:Int)) (o.ak.map ou)).map gl}).set p {q with am:=IntKind.i64.wrap (q.am+1),up:=if q.ag=2 then(n:Int)else q.up}
def Af(b:Bool)(o:Obj)(y:List Obj)(name:ByteArray):List Obj×Int:=
 if o.ag≠2 then([],11)else if o.am=0 then([],6)else if b=false then([],7)else if fW (o.ak.map ou) name>=0 then([],7)else if o.ak.length>=8 then([],15)else(y,0)
def qa(l:List Obj)(k ag:Int):Bool:=pa (l.map Obj.ob) k ag
def cQ(b:Bool)(l:List Obj)(cL:Int)(name:ByteArray)(bp:Int):List Obj×Int:=
 if qa l cL 0=true then(if qa l bp 0=true then(match l[cL.toNat]? with
  |none=>([],6)
  |some o=>Af b o (ke l cL.toNat bp.toNat name) name)else([],6))else([],6)
theorem xS{l:List Obj}{k:Int}(h:k<0):qa l k 0=false:=by
 unfold qa pa;rw[decide_eq_false (by omega:¬k>=0)];rfl
theorem xT{l:List Obj}{k:Int}(h:k>=(l.length:Int)):qa l k 0=false:=by
 unfold qa pa;rw[N7,decide_eq_false (by omega:¬k<(l.length:Int))];simp
theorem xU{l:List Obj}{n:Nat}(hn:n<l.length)(h:l[n].ag=0):qa l n 0=false:=by unfold qa pa;rw[ZW,Tr,vR hn];have:l[n].ob.ag=0:=h;simp[this]
theorem xV{l:List Obj}{n:Nat}(hn:n<l.length)(h:l[n].ag≠0):qa l n 0=true:=by unfold qa pa;rw[ZW,Tr,vR hn,N7];have:l[n].ob.ag≠0:=h;simp[this,hn]
theorem jc{l:List Obj}{k:Nat}(h:k<l.length):dA (l.map Obj.enc) (k:Nat)=some [.val (.int .i64 l[k].ag),.sl 1 l[k].data,.sl 2 l[k].ak,.val (.string l[k].target),.val (.int .i64 l[k].bs),.sl 4 (l[k].ax.map dn.enc),.val (.int .i64 l[k].be),.val (.int .i64 l[k].am),.val (.int .i64 l[k].up)]:=by rw[bG,Tr,vR h];rfl
theorem Yt{Y:Nat->Nat}{m:Mem}{Z:Nat->Prop}{a a' b b':RV}(h1:yH Y m Z a a')(h2:yH Y m Z b b'):rJ Y m Z (.bx [a,b]) (.bx [a',b']):=by
 refine .bx rfl λi r r' h3 h4=>?_
 match i with
 |0=>cases h3;cases h4;exact h1
 |1=>cases h3;cases h4;exact h2
 |n+2=>simp at h3
theorem Yu{Y:Nat->Nat}{m:Mem}{Z:Nat->Prop}{a a' b b' c c':RV}(h1:yH Y m Z a a')(h2:yH Y m Z b b')(h0:yH Y m Z c c'):rJ Y m Z (.bx [a,b,c]) (.bx [a',b',c']):=by
 refine .bx rfl λi r r' h3 h4=>?_
 match i with
 |0=>cases h3;cases h4;exact h1
 |1=>cases h3;cases h4;exact h2
 |2=>cases h3;cases h4;exact h0
 |n+3=>simp at h3
theorem pY{p Q:Nat}{l:List Obj}{k:Nat}{o:Obj}(hk:k<l.length):aX (bT p Q 0 l) k (kZ p Q k o)=bT p Q 0 (l.set k o):=by
 rw[bb];apply abC;intro i;rw[gu,aa6];by_cases h:k=i
 .subst h;rw[TK (by rw[gq];exact hk),TK hk]
  rfl
 .rw[U9 h,U9 h,gu,aa6]
theorem GD{p Q Q':Nat}{l:List Obj}{o:Obj}(hp:l[p]? =some o):aX (bT p Q 0 l) p (kZ p Q' p o)=bT p Q' 0 l:=by
 have jY:=(Ki.1 hp).1;rw[bb];apply abC;intro i;rw[gu,aa6];by_cases h:p=i
 .subst h;rw[TK (by rw[gq];exact jY),hp]
  rfl
 .rw[U9 h,gu,aa6];cases l[i]? with
  |none=>rfl
  |some x=>
   have h2:¬i=p:=λe=>h e.symm
   simp only[aaG,kZ,if_neg h2]
theorem Iz{m:Mem}{Z:Nat->Prop}{pp:Option Nat}{id p Q:Nat}{l:List Obj}{o:Obj}{E:List (List Dt)}(hz:Z id)(hm:m[id]? =some (.row 9 (bT p Q 0 l)))(hzq:Z Q)(hq:m[Q]? =some (.row 2 (aa E)))(hp:l[p]? =some o):
  d6 m Z pp (.row id 9 0 none) (dt (l.set p {o with ak:=E})):=by
 have jY:=(Ki.1 hp).1;have key:∀(i:Nat)cs es,(bT p Q 0 l)[i]? =some cs->((l.set p {o with ak:=E}).map Obj.enc)[i]? =some es->kN m Z (some id) cs es:=by
  intro i cs es h1 h2;rw[gu,aa6]at h1;rw[Tr]at h2;by_cases h:p=i
  .subst h;rw[TK jY]at h2;rw[hp]at h1;cases h1;cases h2;simp only[kZ,if_pos,Obj.enc];exact .cons (.ah _) (.cons (.ah _) (.cons (d6.fg hzq hq 0 none) (.cons (.ah _) (.cons (.ah _) (.cons (.ah _) (.cons (.ah _) (.cons (.ah _) (.cons (.ah _) .nil))))))))
  .rw[U9 h]at h2;cases hx:l[i]? with
   |none=>rw[hx]at h1;cases h1
   |some x=>
    rw[hx]at h1 h2;cases h1;cases h2;have h3:¬i=p:=λe=>h e.symm
    simp only[kZ,if_neg h3,Obj.enc];exact .cons (.ah _) (.cons (.ah _) (.cons (.ah _) (.cons (.ah _) (.cons (.ah _) (.cons (.ah _) (.cons (.ah _) (.cons (.ah _) (.cons (.ah _) .nil))))))))
 exact d6.row id 9 0 none _ _ hz hm (by rw[gq,N7,aaI]) (λi cs es h1 h2=>(key i cs es h1 h2).len) (λi cs es j c d h1 h2 h3 h4=>(key i cs es h1 h2).get j c d h3 h4)
theorem Kv(S:List (List Dt))(e:List Dt)(i:Nat)(hi:i<=S.length)(hl:S.length<=4194304){m:Mem}{K:CV->Mem->Prop}(a b:Nat)(EW:fL [a,b]=true)(aD:eR m.length [a,b]=true)(ha:cF m a=some (.row 2 (aa S)))(hb:cF m b=some (.row 2 (aa [e])))(h:K (.rv (.one (.row m.length 2 0 none))) (c9 m [a,b] [.aU,.aU,.row 2 (aa (S.take i++e::S.drop i))])):aq prog 140 [.rv (.one (.row a 2 0 none)),an .i64 (i:Nat),.rv (.one (.row b 2 0 none))] m K:=by
 by_cases oS:i<S.length
 .refine bw [a,b] m.length rfl rfl EW aD (args0:=[.rv (.one (.row 0 2 0 none)),an .i64 (i:Nat),.rv (.one (.row 1 2 0 none))]) rfl (m0:=[.row 2 (aa S),.row 2 (aa [e])]) (λi b' hi=>?_) (Ku S e i oS hl) (λr1 m1 hr=>?_)
  .match i,hi with
   |0,hi=>cases hi;exact .inr ⟨λh=>h,_,by rw[aV]at ha;exact ha,.bM rfl⟩
   |1,hi=>cases hi;exact .inr ⟨λh=>h,_,by rw[aV]at hb;exact hb,.bM rfl⟩
   |n+2,hi=>simp at hi
  .obtain⟨rfl,rfl⟩:=hr;refine⟨aC,?_⟩;show K (.rv (.one (.row (m.length+(2-2)) 2 0 none))) (c9 m [a,b] [.aU,.aU,.row 2 ((aa (S.take i++e::S.drop i)).map (λcs=>cs.map (CC.bh (sg [a,b] m.length))))])
   rw[iz];exact h
 .have:i=S.length:=om;subst this;refine U7 S e hl a b EW aD ha hb ?_;rw[aaZ,List.drop_length]at h;exact h
end Go.Proofs.YtodckkkbiidffaaGreatDoor
