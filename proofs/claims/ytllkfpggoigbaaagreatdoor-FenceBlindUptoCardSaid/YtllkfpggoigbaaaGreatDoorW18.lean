/- Part 18 of 23. -/
import Derived.Test.YtllkfpggoigbaaaGreatDoorW11
import Derived.Test.YtllkfpggoigbaaaGreatDoorW12
import Derived.Test.YtllkfpggoigbaaaGreatDoorW17
set_option linter.unusedVariables false
set_option linter.unusedSimpArgs false
set_option maxRecDepth 100000
set_option maxHeartbeats 0
namespace Go.Proofs.YtllkfpggoigbaaaGreatDoor
open Proofs.Tryz
open Go.AM Go.ChangeShapes Go.WideShapes Go.ChangeAt Go.RowKit
def c12:LF:=Cq prog f12 [[2],[2,1],[2,1,3]] [[(eL 4 0 (.cons 4 (some [2]) (.cons 5 (some []) .nil)))],[(eL 4 0 (.cons 5 none (.cons 4 (some [5]) (.cons 6 (some [5]) (.cons 7 (some []) .nil)))))]]
def c37:LF:=Cq prog f37 [] []
namespace Kn
def tj(a:Int):Int:=nc a 2147483647
def nK(c:Cl):BL:=⟨tj c.ah,tj c.fd,tj c.iQ,tj c.n,tj c.bQ,tj c.bb⟩
def gT(k:Kr)(p:Nat)(c:Cl):Kr×An:=
 if c.ah=2\/c.ah=3 then gY k p c
 else if c.ah=4\/c.ah=5\/c.ah=6 then gS k p c
 else if c.ah=7\/c.ah=8\/c.ah=9 then nH k p c
 else if c.ah=10\/c.ah=11 then kV k p c
 else if c.ah=12\/c.ah=13\/c.ah=14 then jX k p c
 else if c.ah=15 then im k p
 else if c.ah=16 then ik k p c
 else if c.ah=17 then il k p c
 else eZ k p c
def NZ(k:Kr)(x:Kr×An):Kr×An:=if x.2.iq≠0 then(k,An.no x.2.iq)else(dZ x.1,x.2)
def nL(prog:List eI)(k:Kr)(c:Cl):Kr×An:=
 if eG k.ps c.aQ=false then(k,An.no 6)
 else if c.ah<1\/c.ah>22 then(k,An.no 1)
 else if iJ k.ps c.aQ.toNat=true/\((zH prog (nK c)).1≠1\/c.ah=2)then(k,An.no 9)
 else NZ k (gT k c.aQ.toNat c)
structure QT(k:Kr)(p:Nat)(c:Cl):Prop where
 w:KW k p
 op:∀aB aD,H9 k p c (eA k aB c.cE aD true)
 pr:X9 k p (dL k.l)
 q:∀o,o∈k.l->o.ah=5->∃n:Nat,o.aQ=n/\n<k.ps.length
 gU:(gT k p c).2.iq=0->dY (gT k p c).1.l (gT k p c).1.ops (gT k p c).1.ps
theorem l37:bA prog f37=some c37:=by kernel_rfl
theorem MZ(c:Cl){m:Mem}{K:CV->Mem->Prop}(h:K (nK c).cv m):aq prog 37 [c.cv] m K:=
 bH func37 l37 rfl (aat rfl) (show body prog c37 [c.cv] [] (λr m=>r=(nK c).cv)from rfl) rfl rfl h
theorem l12:bA prog f12=some c12.er:=by kernel_rfl
def agV:LC:=bs (bs c12.code)
def aca:LC:=mK agV
def agW:LC:=bs aca
def acb:LC:=mK agW
def acd:LC:=bs (bs (bs acb))
def ace:LC:=mK acd
def doR(x:Kr×An):CV:= .bI [kn x.1,x.2.rv]
def QD(x:Kr×An):Ex->St->Prop:=oi prog c12.mr (λr m=>cM m r (doR x))
def z3B:Bk:= .var [.bv,.bv,.bv]
theorem BN{m:Mem}{k:Kr}{e n x:Int}:cM m (.bI [kn k,.agg [.ai (.val (.int .i64 e)),.ai (.val (.int .i64 n)),.ai (.val (.int .i64 x)),.bv]]) (doR (k,⟨e,n,x,[]⟩)):=by
 refine .bI rfl λi r r' h1 h2=>?_
 match i,h1,h2 with
 |0,h1,h2=>cases h1;cases h2;exact dK.self rfl
 |1,h1,h2=>
  cases h1;cases h2;refine .agg rfl λi c c' h1 h2=>?_
  match i,h1,h2 with
  |0,h1,h2=>cases h1;cases h2;exact .self rfl
  |1,h1,h2=>cases h1;cases h2;exact .self rfl
  |2,h1,h2=>cases h1;cases h2;exact .self rfl
  |3,h1,h2=>cases h1;cases h2;exact .bv 1
  |n+4,h1,h2=>simp at h1
 |n+2,h1,h2=>simp at h1
theorem T3(k:Kr)(p:Nat)(c:Cl)(x:Kr×An)(hx:x.2.iq=0->dY x.1.l x.1.ops x.1.ps):
  aw prog 0 ace (QD (NZ k x))
   ⟨jD 116 [(4,.rv (.one (.ptr 0 0))),(6,.rv (.one (.ptr 1 0))),(7,.rv (.one (.ptr 2 0))),(10,.rv (.one (.ptr 3 0))),(11,.rv (.one (.ptr 4 0)))],[kB k,z3B,jW,xB x.1 p,.var (x.2.enc.map .ai)]⟩:=by
 obtain⟨k',⟨iq,n,mm,data⟩⟩:=x;refine bO (λhe=>?_) (λhe=>?_)
 .have he:iq≠0:=he;rw[NZ,if_pos he];refine⟨⟨rfl,trivial⟩,trivial,?_⟩;exact BN
 .have he:iq=0:=he;subst he;rw[NZ,if_neg aG];refine Mg k' (hx rfl) ?_;refine⟨⟨rfl,trivial⟩,⟨rfl,trivial⟩,trivial,?_⟩;exact cM.self rfl
theorem Yi(k:Kr)(p:Nat)(dj:p<k.ps.length)(c:Cl)(hc:c.aQ=p)(hk:¬(c.ah<1\/c.ah>22))(hi:QT k p c)(hd:c.data.length<=4194304):
  aw prog 0 acb (QD (NZ k (gT k p c)))
   ⟨jD 116 [(4,.rv (.one (.ptr 0 0))),(5,.rv (.one (.ptr 1 0))),(6,.rv (.one (.ptr 2 0))),(7,.rv (.one (.ptr 3 0)))],[kB k,cB c,z3B,jW]⟩:=by
 have hs:=λ(x:Kr×An)(h:gT k p c=x)=>T3 k p c x (by rw[<-h];exact hi.gU)
 obtain⟨aQ,ah,fd,iQ,n,bQ,bb,cE,data⟩:=c;have hc:aQ=(p:Nat):=hc;subst hc;have hr:ah=1\/ah=2\/ah=3\/ah=4\/ah=5\/ah=6\/ah=7\/ah=8\/ah=9\/ah=10\/ah=11\/ah=12\/ah=13\/ah=14\/ah=15\/ah=16\/ah=17\/ah=18\/ah=19\/ah=20\/ah=21\/ah=22:=by have hk:¬(ah<1\/ah>22):=hk;omega
 rcases hr with h|h|h|h|h|h|h|h|h|h|h|h|h|h|h|h|h|h|h|h|h|h
 .subst h;have e8:gT k p ⟨(p:Nat),1,fd,iQ,n,bQ,bb,cE,data⟩=eZ k p ⟨(p:Nat),1,fd,iQ,n,bQ,bb,cE,data⟩:=by rw[gT,if_neg aG,if_neg aG,if_neg aG,if_neg aG,if_neg aG,if_neg aG,if_neg aG,if_neg aG]
  rw[e8];refine eD (kX k p hi.w _ (by simp[sR]) hi.q) 4 1 rfl rfl rfl rfl ?_
  refine⟨_,View.o1 6 [0,2,3,4,5] [] ?_,hs _ e8⟩
  .exact .au
 .subst h;have e8:gT k p ⟨(p:Nat),2,fd,iQ,n,bQ,bb,cE,data⟩=gY k p ⟨(p:Nat),2,fd,iQ,n,bQ,bb,cE,data⟩:=by rw[gT,if_pos aG]
  rw[e8];refine eD (BJ k p hi.w _ hi.op) 4 1 rfl rfl rfl rfl ?_;refine⟨_,View.o1 6 [0,2,3,4,5] [] ?_,hs _ e8⟩
  .exact .au
 .subst h;have e8:gT k p ⟨(p:Nat),3,fd,iQ,n,bQ,bb,cE,data⟩=gY k p ⟨(p:Nat),3,fd,iQ,n,bQ,bb,cE,data⟩:=by rw[gT,if_pos aG]
  rw[e8];refine eD (BJ k p hi.w _ hi.op) 4 1 rfl rfl rfl rfl ?_;refine⟨_,View.o1 6 [0,2,3,4,5] [] ?_,hs _ e8⟩
  .exact .au
 .subst h;have e8:gT k p ⟨(p:Nat),4,fd,iQ,n,bQ,bb,cE,data⟩=gS k p ⟨(p:Nat),4,fd,iQ,n,bQ,bb,cE,data⟩:=by rw[gT,if_neg aG,if_pos aG]
  rw[e8];refine eD (sP k p hi.w _ (.inl rfl) hd) 4 1 rfl rfl rfl rfl ?_;refine⟨_,View.o1 6 [0,2,3,4,5] [] ?_,hs _ e8⟩
  .exact .au
 .subst h;have e8:gT k p ⟨(p:Nat),5,fd,iQ,n,bQ,bb,cE,data⟩=gS k p ⟨(p:Nat),5,fd,iQ,n,bQ,bb,cE,data⟩:=by rw[gT,if_neg aG,if_pos aG]
  rw[e8];refine eD (sP k p hi.w _ (.inr (.inl rfl)) hd) 4 1 rfl rfl rfl rfl ?_;refine⟨_,View.o1 6 [0,2,3,4,5] [] ?_,hs _ e8⟩
  .exact .au
 .subst h;have e8:gT k p ⟨(p:Nat),6,fd,iQ,n,bQ,bb,cE,data⟩=gS k p ⟨(p:Nat),6,fd,iQ,n,bQ,bb,cE,data⟩:=by rw[gT,if_neg aG,if_pos aG]
  rw[e8];refine eD (sP k p hi.w _ (.inr (.inr rfl)) hd) 4 1 rfl rfl rfl rfl ?_;refine⟨_,View.o1 6 [0,2,3,4,5] [] ?_,hs _ e8⟩
  .exact .au
 .subst h;have e8:gT k p ⟨(p:Nat),7,fd,iQ,n,bQ,bb,cE,data⟩=nH k p ⟨(p:Nat),7,fd,iQ,n,bQ,bb,cE,data⟩:=by rw[gT,if_neg aG,if_neg aG,if_pos aG]
  rw[e8];refine eD (vI k p hi.w _) 4 1 rfl rfl rfl rfl ?_;refine⟨_,View.o1 6 [0,2,3,4,5] [] ?_,hs _ e8⟩
  .exact .au
 .subst h;have e8:gT k p ⟨(p:Nat),8,fd,iQ,n,bQ,bb,cE,data⟩=nH k p ⟨(p:Nat),8,fd,iQ,n,bQ,bb,cE,data⟩:=by rw[gT,if_neg aG,if_neg aG,if_pos aG]
  rw[e8];refine eD (vI k p hi.w _) 4 1 rfl rfl rfl rfl ?_;refine⟨_,View.o1 6 [0,2,3,4,5] [] ?_,hs _ e8⟩
  .exact .au
 .subst h;have e8:gT k p ⟨(p:Nat),9,fd,iQ,n,bQ,bb,cE,data⟩=nH k p ⟨(p:Nat),9,fd,iQ,n,bQ,bb,cE,data⟩:=by rw[gT,if_neg aG,if_neg aG,if_pos aG]
  rw[e8];refine eD (vI k p hi.w _) 4 1 rfl rfl rfl rfl ?_;refine⟨_,View.o1 6 [0,2,3,4,5] [] ?_,hs _ e8⟩
  .exact .au
 .subst h;have e8:gT k p ⟨(p:Nat),10,fd,iQ,n,bQ,bb,cE,data⟩=kV k p ⟨(p:Nat),10,fd,iQ,n,bQ,bb,cE,data⟩:=by rw[gT,if_neg aG,if_neg aG,if_neg aG,if_pos aG]
  rw[e8];refine eD (zB k p hi.w _) 4 1 rfl rfl rfl rfl ?_;refine⟨_,View.o1 6 [0,2,3,4,5] [] ?_,hs _ e8⟩
  .exact .au
 .subst h;have e8:gT k p ⟨(p:Nat),11,fd,iQ,n,bQ,bb,cE,data⟩=kV k p ⟨(p:Nat),11,fd,iQ,n,bQ,bb,cE,data⟩:=by rw[gT,if_neg aG,if_neg aG,if_neg aG,if_pos aG]
  rw[e8];refine eD (zB k p hi.w _) 4 1 rfl rfl rfl rfl ?_;refine⟨_,View.o1 6 [0,2,3,4,5] [] ?_,hs _ e8⟩
  .exact .au
 .subst h;have e8:gT k p ⟨(p:Nat),12,fd,iQ,n,bQ,bb,cE,data⟩=jX k p ⟨(p:Nat),12,fd,iQ,n,bQ,bb,cE,data⟩:=by rw[gT,if_neg aG,if_neg aG,if_neg aG,if_neg aG,if_pos aG]
  rw[e8];refine eD (vJ k p hi.w _) 4 1 rfl rfl rfl rfl ?_;refine⟨_,View.o1 6 [0,2,3,4,5] [] ?_,hs _ e8⟩
  .exact .au
 .subst h;have e8:gT k p ⟨(p:Nat),13,fd,iQ,n,bQ,bb,cE,data⟩=jX k p ⟨(p:Nat),13,fd,iQ,n,bQ,bb,cE,data⟩:=by rw[gT,if_neg aG,if_neg aG,if_neg aG,if_neg aG,if_pos aG]
  rw[e8];refine eD (vJ k p hi.w _) 4 1 rfl rfl rfl rfl ?_;refine⟨_,View.o1 6 [0,2,3,4,5] [] ?_,hs _ e8⟩
  .exact .au
 .subst h;have e8:gT k p ⟨(p:Nat),14,fd,iQ,n,bQ,bb,cE,data⟩=jX k p ⟨(p:Nat),14,fd,iQ,n,bQ,bb,cE,data⟩:=by rw[gT,if_neg aG,if_neg aG,if_neg aG,if_neg aG,if_pos aG]
  rw[e8];refine eD (vJ k p hi.w _) 4 1 rfl rfl rfl rfl ?_;refine⟨_,View.o1 6 [0,2,3,4,5] [] ?_,hs _ e8⟩
  .exact .au
 .subst h;have e8:gT k p ⟨(p:Nat),15,fd,iQ,n,bQ,bb,cE,data⟩=im k p:=by rw[gT,if_neg aG,if_neg aG,if_neg aG,if_neg aG,if_neg aG,if_pos aG]
  rw[e8];refine QP k p hi.w hi.pr 4 rfl ?_;refine⟨_,View.o1 6 [0,2,3,4,5] [] ?_,hs _ e8⟩
  .exact .au
 .subst h;have e8:gT k p ⟨(p:Nat),16,fd,iQ,n,bQ,bb,cE,data⟩=ik k p ⟨(p:Nat),16,fd,iQ,n,bQ,bb,cE,data⟩:=by rw[gT,if_neg aG,if_neg aG,if_neg aG,if_neg aG,if_neg aG,if_neg aG,if_pos aG]
  rw[e8];refine eD (MT k p hi.w _ hd) 4 1 rfl rfl rfl rfl ?_;refine⟨_,View.o1 6 [0,2,3,4,5] [] ?_,hs _ e8⟩
  .exact .au
 .subst h;have e8:gT k p ⟨(p:Nat),17,fd,iQ,n,bQ,bb,cE,data⟩=il k p ⟨(p:Nat),17,fd,iQ,n,bQ,bb,cE,data⟩:=by rw[gT,if_neg aG,if_neg aG,if_neg aG,if_neg aG,if_neg aG,if_neg aG,if_neg aG,if_pos aG]
  rw[e8];refine eD (MU k p hi.w _) 4 1 rfl rfl rfl rfl ?_;refine⟨_,View.o1 6 [0,2,3,4,5] [] ?_,hs _ e8⟩
  .exact .au
 .subst h;have e8:gT k p ⟨(p:Nat),18,fd,iQ,n,bQ,bb,cE,data⟩=eZ k p ⟨(p:Nat),18,fd,iQ,n,bQ,bb,cE,data⟩:=by rw[gT,if_neg aG,if_neg aG,if_neg aG,if_neg aG,if_neg aG,if_neg aG,if_neg aG,if_neg aG]
  rw[e8];refine eD (kX k p hi.w _ (by simp[sR]) hi.q) 4 1 rfl rfl rfl rfl ?_
  refine⟨_,View.o1 6 [0,2,3,4,5] [] ?_,hs _ e8⟩
  .exact .au
 .subst h;have e8:gT k p ⟨(p:Nat),19,fd,iQ,n,bQ,bb,cE,data⟩=eZ k p ⟨(p:Nat),19,fd,iQ,n,bQ,bb,cE,data⟩:=by rw[gT,if_neg aG,if_neg aG,if_neg aG,if_neg aG,if_neg aG,if_neg aG,if_neg aG,if_neg aG]
  rw[e8];refine eD (kX k p hi.w _ (by simp[sR]) hi.q) 4 1 rfl rfl rfl rfl ?_
  refine⟨_,View.o1 6 [0,2,3,4,5] [] ?_,hs _ e8⟩
  .exact .au
 .subst h;have e8:gT k p ⟨(p:Nat),20,fd,iQ,n,bQ,bb,cE,data⟩=eZ k p ⟨(p:Nat),20,fd,iQ,n,bQ,bb,cE,data⟩:=by rw[gT,if_neg aG,if_neg aG,if_neg aG,if_neg aG,if_neg aG,if_neg aG,if_neg aG,if_neg aG]
  rw[e8];refine eD (kX k p hi.w _ (by simp[sR]) hi.q) 4 1 rfl rfl rfl rfl ?_
  refine⟨_,View.o1 6 [0,2,3,4,5] [] ?_,hs _ e8⟩
  .exact .au
 .subst h;have e8:gT k p ⟨(p:Nat),21,fd,iQ,n,bQ,bb,cE,data⟩=eZ k p ⟨(p:Nat),21,fd,iQ,n,bQ,bb,cE,data⟩:=by rw[gT,if_neg aG,if_neg aG,if_neg aG,if_neg aG,if_neg aG,if_neg aG,if_neg aG,if_neg aG]
  rw[e8];refine eD (kX k p hi.w _ (by simp[sR]) hi.q) 4 1 rfl rfl rfl rfl ?_
  refine⟨_,View.o1 6 [0,2,3,4,5] [] ?_,hs _ e8⟩
  .exact .au
 .subst h;have e8:gT k p ⟨(p:Nat),22,fd,iQ,n,bQ,bb,cE,data⟩=eZ k p ⟨(p:Nat),22,fd,iQ,n,bQ,bb,cE,data⟩:=by rw[gT,if_neg aG,if_neg aG,if_neg aG,if_neg aG,if_neg aG,if_neg aG,if_neg aG,if_neg aG]
  rw[e8];refine eD (kX k p hi.w _ (by simp[sR]) hi.q) 4 1 rfl rfl rfl rfl ?_
  refine⟨_,View.o1 6 [0,2,3,4,5] [] ?_,hs _ e8⟩
  .exact .au
theorem Yj(prog:List eI)(k:Kr)(p:Nat)(hp:p<k.ps.length)(c:Cl)(hc:c.aQ=p)(hk:¬(c.ah<1\/c.ah>22))(hi:QT k p c)(hd:c.data.length<=4194304)(R:Kr×An)(hR:R=if iJ k.ps p=true/\((zH prog (nK c)).1≠1\/c.ah=2)then(k,An.no 9)else NZ k (gT k p c)):
  aw Tryz.prog 0 aca (QD R)
   ⟨jD 116 [(0,qY prog),(4,.rv (.one (.ptr 0 0))),(5,.rv (.one (.ptr 1 0))),(6,.rv (.one (.ptr 2 0))),(7,.rv (.one (.ptr 3 0)))],[kB k,cB c,z3B,jW]⟩:=by
 have hs:=Yi k p hp c hc hk hi hd;have hf:iJ k.ps p=k.ps[p].fenced:=by rw[iJ,xm hp]
 refine af (x:=[.val (.bool k.ps[p].aF),.val (.bool k.ps[p].fenced),.val (.int .i64 k.ps[p].code),ip k.ps[p].ap]) (by rw[hc];exact fk hp) ?_
 rw[hf]at hR;generalize k.ps[p].fenced=fen at hR;cases fen with
 |false=>
  rw[if_neg aG]at hR;subst hR;refine⟨_,View.o1 4 [0,1,2,3] [] ?_,hs⟩
  .exact .au
 |true=>
  refine MZ c ?_;refine Yh prog (nK c) ?_;generalize zH prog (nK c)=rr at hR;obtain⟨n,st⟩:=rr;refine bO (λhn=>?_) (λhn=>?_)
  .have hn:n≠1:=hn;rw[if_pos ⟨rfl,.inl hn⟩]at hR;subst hR;exact BN
  have hn:¬n≠1:=λh=>h hn
  refine bc (λh2=>?_) (λh2=>?_)
  .have h2:c.ah=2:=h2;rw[if_pos ⟨rfl,.inr h2⟩]at hR;subst hR;exact BN
  have h2:¬c.ah=2:=h2;rw[if_neg (λh=>h.2.elim hn h2)]at hR
  subst hR;refine⟨_,View.o1 4 [0,1,2,3] [] ?_,hs⟩
  .exact .au
theorem T5(prog:List eI)(k:Kr)(c:Cl)(hi:∀(p:Nat)(hp:p<k.ps.length),c.aQ=p->k.ps[p].aF=true->QT k p c)(hd:c.data.length<=4194304):
  body Tryz.prog c12 [qY prog,cA k.l k.ops k.ps,c.cv] [] (λr m=>cM m r (doR (nL prog k c))):=by
 refine qM k.l k.ops k.ps c.aQ ?_;cases hl:eG k.ps c.aQ with
 |false=>
  rw[nL,if_pos hl];exact BN
 |true=>
  obtain⟨p,hc,hp,bR⟩:=oG hl;have e0:nL prog k c=if c.ah<1\/c.ah>22 then(k,An.no 1)
   else if iJ k.ps p=true/\((zH prog (nK c)).1≠1\/c.ah=2)then(k,An.no 9)else NZ k (gT k p c):=by
   rw[nL,if_neg (by rw[hl];simp),hc,aam]
  rw[e0];refine an (λh1=>?_) (λh1=>?_)
  .have h1:c.ah<1:=h1;rw[if_pos (.inl h1)];exact BN
  have h1:¬c.ah<1:=h1;refine an (λh2=>?_) (λh2=>?_)
  .have h2:c.ah>22:=h2;rw[if_pos (.inr h2)];exact BN
  have h2:¬c.ah>22:=h2;rw[if_neg om];refine⟨_,View.o1 4 [0,1,2,3] [] ?_,Yj prog k p hp c hc om (hi p hp hc bR) hd _ rfl⟩
  .exact .au
theorem ach(prog:List eI)(k:Kr)(c:Cl)(hi:∀(p:Nat)(hp:p<k.ps.length),c.aQ=p->k.ps[p].aF=true->QT k p c)(hd:c.data.length<=4194304){m:Mem}{K:CV->Mem->Prop}(h:K (doR (nL prog k c)) m):
  aq Tryz.prog 12 [qY prog,cA k.l k.ops k.ps,c.cv] m K:=
 aT (cN func12 l12 (T5 prog k c hi hd)) (by simp[cA,cX,de,dM,qY,Cl.cv,Cl.enc,CV.cY,CC.cY,RV.cY]) λr m1 hf=>⟨_,hf,h⟩
end Kn
namespace Kn
def dh(o:Obj):List NE:=o.ag.map kN
structure Sk where
 ah:Int
 up:Int
 ak:Int
 es:List NE
def r9(o:Obj):Sk:=⟨o.ah,o.up,o.ak,dh o⟩
def skZ:Sk:=⟨0,0,0,[]⟩
inductive Lk(t:List Sk):Nat->Prop
 |aA:Lk t 0
 |step {i j:Nat} {d:Sk} {e:NE} (h:Lk t i) (hd:t[i]? =some d) (he:e∈d.es) (hj:e.2=(j:Nat)):Lk t j
structure Tree(t:List Sk):Prop where
 z:∀(i:Nat)d,t[i]? =some d->d.ah=0->d=skZ
 r0:∃d,t[0]? =some d/\d.ah=2/\d.ak=1/\d.up=0
 tr:∀(i:Nat)d e,t[i]? =some d->e∈d.es->∃(j:Nat)(x:Sk),e.2=j/\j≠0/\t[j]? =some x/\x.ah≠0/\x.ak=1/\(x.ah=2->x.up=i)
 un:∀(i i':Nat)d d' e e',t[i]? =some d->t[i']? =some d'->e∈d.es->e'∈d'.es->e.2=e'.2->i=i'/\e=e'
 lk:∀(i:Nat)d,t[i]? =some d->d.ak≠0->Lk t i
 em:∀(i:Nat)d,t[i]? =some d->d.ak=0->d.es=[]
 lr:∀(i:Nat)d,t[i]? =some d->d.ak=0\/d.ak=1
 ux:∀(i:Nat)d,t[i]? =some d->d.up=i\/d.up=0\/d.ah=2/\∃(u:Nat)(x:Sk)(e:NE),d.up=u/\t[u]? =some x/\e∈x.es/\e.2=i
theorem Tree.aci{t:List Sk}(h:Tree t){i:Nat}{d:Sk}(hd:t[i]? =some d):0<=d.up/\d.up<t.length:=by
 have hi:=(Mp.1 hd).1;rcases h.ux i d hd with h1|h1|⟨_,u,x,e,h1,h2,_⟩
 .omega
 .omega
 .have:=(Mp.1 h2).1;omega
theorem Lk.mono{t t':List Sk}(h:∀(i:Nat)d,t[i]? =some d->d.es≠[]->∃d',t'[i]? =some d'/\∀e,e∈d.es->e∈d'.es){i:Nat}(hl:Lk t i):Lk t' i:=by
 induction hl with
 |aA=>exact .aA
 |step _ hd he hj ih=>
  obtain⟨d',h1,h2⟩:=h _ _ hd (λe=>by rw[e]at he;cases he)
  exact .step ih h1 (h2 _ he) hj
theorem Tree.new{t t':List Sk}(h:Tree t){k:Nat}{s:Sk}(hs:s.ah≠0/\s.ak=0/\s.es=[]/\(s.up=0\/s.up=k))(h1:t'[k]? =some s)(h2:∀j,j≠k->t'[j]? =t[j]?)(h3:∀d,t[k]? =some d->d.ah=0):Tree t':=by
 obtain⟨hk,hl,he,hu⟩:=hs;have old:∀(i:Nat)d,t[i]? =some d->d.ah≠0->t'[i]? =some d:=λi d hd hn=>by rw[h2 i λe=>hn (h3 d (e▸hd))];exact hd
 have acj:∀(i:Nat)d e,t[i]? =some d->e∈d.es->t'[i]? =some d:=λi d e hd he=>old i d hd λhz=>by rw[h.z i d hd hz]at he;cases he
 have rL:∀(i:Nat)d,t'[i]? =some d->(i=k/\d=s)\/t[i]? =some d:=λi d hd=>by
  by_cases e:i=k
  .subst e;rw[h1]at hd;cases hd;exact .inl ⟨rfl,rfl⟩
  .rw[h2 i e]at hd;exact .inr hd
 have hE:∀(i:Nat)d e,t'[i]? =some d->e∈d.es->t[i]? =some d:=λi d e hd hx=>by
  rcases rL i d hd with⟨_,rfl⟩|h
  .rw[he]at hx;cases hx
  .exact h
 have Sr:∀i,Lk t i->Lk t' i:=λi hi=>hi.mono λi d hd hn=>by obtain⟨e,hx⟩:=aen _ hn;exact⟨d,acj i d e hd hx,λ_ h=>h⟩
 refine⟨λi d hd hz=>?_,?_,λi d e hd hx=>?_,λi i' d d' e e' hd Cp hx w9 o7=>h.un i i' d d' e e' (hE i d e hd hx) (hE i' d' e' Cp w9) hx w9 o7,λi d hd hn=>?_,λi d hd hn=>?_,λi d hd=>?_,λi d hd=>?_⟩
 .rcases rL i d hd with⟨_,rfl⟩|h'
  .exact absurd hz hk
  .exact h.z i d h' hz
 .obtain⟨d,a1,a2,a3⟩:=h.r0;exact⟨d,old 0 d a1 om,a2,a3⟩
 .obtain⟨j,x,a1,a2,a3,a4,a5⟩:=h.tr i d e (hE i d e hd hx) hx;exact⟨j,x,a1,a2,old j x a3 a4,a4,a5⟩
 .rcases rL i d hd with⟨_,rfl⟩|h'
  .exact absurd hl hn
  .exact Sr i (h.lk i d h' hn)
 .rcases rL i d hd with⟨_,rfl⟩|h'
  .exact he
  .exact h.em i d h' hn
 .rcases rL i d hd with⟨_,rfl⟩|h'
  .exact .inl hl
  .exact h.lr i d h'
 .rcases rL i d hd with⟨rfl,rfl⟩|h'
  .exact hu.elim (λe=>.inr (.inl e)) .inl
  .rcases h.ux i d h' with a|a|⟨a0,u,x,e,a1,a2,a3,a4⟩
   .exact .inl a
   .exact .inr (.inl a)
   .exact .inr (.inr ⟨a0,u,x,e,a1,acj u x e a2 a3,a3,a4⟩)
theorem Tree.enter{t t':List Sk}(h:Tree t){n p:Nat}{d q d' q':Sk}(hn:t[n]? =some d)(hp:t[p]? =some q)(lF:d.ak≠0)(JN:q.ak=0)(Gn:q.ah≠0){nm:ByteArray}(h1:t'[n]? =some d')(h2:t'[p]? =some q')(h3:∀j,j≠n->j≠p->t'[j]? =t[j]?)(hd:d'.ah=d.ah/\d'.up=d.up/\d'.ak=d.ak)(Wi:∀e,e∈d'.es↔e∈d.es\/e=(nm,(p:Int)))(hq:q'.ah=q.ah/\q'.ak=1/\q'.es=q.es/\q'.up=if q.ah=2 then(n:Int)else q.up):Tree t':=by
 have uO:n≠p:=λe=>by subst e;rw[hn]at hp;cases hp;exact lF JN
 have M0:q.es=[]:=h.em p q hp JN;have GU:d.ah≠0:=λe=>by rw[h.z n d hn e]at lF;exact lF rfl
 have yU:p≠0:=λe=>by obtain⟨r,a1,a2,a3,a4⟩:=h.r0;rw[e,a1]at hp;cases hp;omega
 have nop:∀(i:Nat)x e,t[i]? =some x->e∈x.es->e.2≠(p:Int):=λi x e hx he hc=>by obtain⟨j,y,a1,_,a3,_,a5,_⟩:=h.tr i x e hx he;have:j=p:=om;subst this;rw[hp]at a3;cases a3;omega
 have rL:∀(i:Nat)x,t'[i]? =some x->(i=n/\x=d')\/(i=p/\x=q')\/(i≠n/\i≠p/\t[i]? =some x):=λi x hx=>by
  by_cases e:i=n
  .subst e;rw[h1]at hx;cases hx;exact .inl ⟨rfl,rfl⟩
  .by_cases e2:i=p
   .subst e2;rw[h2]at hx;cases hx;exact .inr (.inl ⟨rfl,rfl⟩)
   .rw[h3 i e e2]at hx;exact .inr (.inr ⟨e,e2,hx⟩)
 have back:∀(i:Nat)x e,t'[i]? =some x->e∈x.es->(∃y,t[i]? =some y/\e∈y.es)\/(i=n/\e=(nm,(p:Int))):=λi x e hx he=>by
  rcases rL i x hx with⟨rfl,rfl⟩|⟨rfl,rfl⟩|⟨_,_,hx⟩
  .rcases(Wi e).1 he with he|he
   .exact .inl ⟨d,hn,he⟩
   .exact .inr ⟨rfl,he⟩
  .rw[hq.2.2.1,M0]at he;cases he
  .exact .inl ⟨x,hx,he⟩
 have fwd:∀(i:Nat)x,t[i]? =some x->∃x',t'[i]? =some x'/\x'.ah=x.ah/\∀e,e∈x.es->e∈x'.es:=λi x hx=>by
  by_cases e:i=n
  .subst e;rw[hn]at hx;cases hx;exact⟨d',h1,hd.1,λe he=>(Wi e).2 (.inl he)⟩
  .by_cases e2:i=p
   .subst e2;rw[hp]at hx;cases hx;exact⟨q',h2,hq.1,λe he=>by rw[M0]at he;cases he⟩
   .exact⟨x,by rw[h3 i e e2];exact hx,rfl,λ_ h=>h⟩
 have Sr:∀i,Lk t i->Lk t' i:=λi hi=>hi.mono λi x hx _=>by obtain⟨x',a1,_,a2⟩:=fwd i x hx;exact⟨x',a1,a2⟩
 refine⟨λi x hx hz=>?_,?_,λi x e hx he=>?_,λi i' x x' e e' hx w9 he wa o7=>?_,λi x hx R7=>?_,λi x hx hz=>?_,λi x hx=>?_,λi x hx=>?_⟩
 .rcases rL i x hx with⟨rfl,rfl⟩|⟨rfl,rfl⟩|⟨_,_,hx⟩
  .exact absurd (hd.1▸hz) GU
  .exact absurd (hq.1▸hz) Gn
  .exact h.z i x hx hz
 .obtain⟨r,a1,a2,a3,a4⟩:=h.r0;by_cases e:(0:Nat)=n
  .subst e;rw[a1]at hn;cases hn;exact⟨d',h1,by rw[hd.1];exact a2,by rw[hd.2.2];exact a3,by rw[hd.2.1];exact a4⟩
  .exact⟨r,by rw[h3 0 e (λe=>yU e.symm)];exact a1,a2,a3,a4⟩
 .rcases back i x e hx he with⟨y,hy,T6⟩|⟨rfl,rfl⟩
  .obtain⟨j,z,a1,a2,a3,a4,a5,a6⟩:=h.tr i y e hy T6;by_cases ej:j=n
   .subst ej;rw[hn]at a3;cases a3;exact⟨j,d',a1,a2,h1,by rw[hd.1];exact a4,by rw[hd.2.2];exact a5,by rw[hd.1,hd.2.1];exact a6⟩
   .have ejp:j≠p:=λe=>by subst e;rw[hp]at a3;cases a3;omega
    exact⟨j,z,a1,a2,by rw[h3 j ej ejp];exact a3,a4,a5,a6⟩
  .refine⟨p,q',rfl,yU,h2,by rw[hq.1];exact Gn,hq.2.1,λhk=>?_⟩
   rw[hq.2.2.2,if_pos (by rw[<-hq.1];exact hk)]
 .rcases back i x e hx he with⟨y,hy,T6⟩|⟨rfl,rfl⟩
  .rcases back i' x' e' w9 wa with⟨y',hy',QU⟩|⟨rfl,rfl⟩
   .exact h.un i i' y y' e e' hy hy' T6 QU o7
   .exact absurd o7 (nop i y e hy T6)
  .rcases back i' x' e' w9 wa with⟨y',hy',QU⟩|⟨rfl,rfl⟩
   .exact absurd o7.symm (nop i' y' e' hy' QU)
   .exact⟨rfl,rfl⟩
 .rcases rL i x hx with⟨rfl,rfl⟩|⟨rfl,rfl⟩|⟨_,_,hx⟩
  .exact Sr _ (h.lk _ d hn lF)
  .exact .step (Sr _ (h.lk _ d hn lF)) h1 ((Wi _).2 (.inr rfl)) rfl
  .exact Sr _ (h.lk i x hx R7)
 .rcases rL i x hx with⟨rfl,rfl⟩|⟨rfl,rfl⟩|⟨_,_,hx⟩
  .exact absurd (hd.2.2▸hz) lF
  .rw[hq.2.1]at hz;omega
  .exact h.em i x hx hz
 .rcases rL i x hx with⟨rfl,rfl⟩|⟨rfl,rfl⟩|⟨_,_,hx⟩
  .rw[hd.2.2];exact h.lr i d hn
  .exact .inr hq.2.1
  .exact h.lr i x hx
 .have key:∀(i:Nat)(y:Sk),t[i]? =some y->(y.up=i\/y.up=0\/y.ah=2/\∃(u:Nat)(x:Sk)(e:NE),y.up=u/\t'[u]? =some x/\e∈x.es/\e.2=i):=λi y hy=>by
   rcases h.ux i y hy with a|a|⟨a0,u,z,e,a1,a2,a3,a4⟩
   .exact .inl a
   .exact .inr (.inl a)
   .obtain⟨z',b1,_,b2⟩:=fwd u z a2;exact .inr (.inr ⟨a0,u,z',e,a1,b1,b2 e a3,a4⟩)
  rcases rL i x hx with⟨rfl,rfl⟩|⟨rfl,rfl⟩|⟨_,_,hx⟩
  .rw[hd.2.1,hd.1];exact key i d hn
  .rw[hq.2.2.2,hq.1];by_cases e2:q.ah=2
   .rw[if_pos e2];exact .inr (.inr ⟨e2,n,d',_,rfl,h1,(Wi _).2 (.inr rfl),rfl⟩)
   .rw[if_neg e2];exact key i q hp
  .exact key i x hx
theorem Tree.zI{t t':List Sk}(h:Tree t){n p:Nat}{d q d' q':Sk}{e0:NE}(hn:t[n]? =some d)(wK:e0∈d.es)(hep:e0.2=(p:Int))(hp:t[p]? =some q)(M0:q.es=[])(h1:t'[n]? =some d')(h2:t'[p]? =some q')(h3:∀j,j≠n->j≠p->t'[j]? =t[j]?)(hd:d'.ah=d.ah/\d'.up=d.up/\d'.ak=d.ak)(Wi:∀e,e∈d'.es↔e∈d.es/\e≠e0)(hq:q'.ah=q.ah/\q'.ak=0/\q'.es=[]/\q'.up=if q.ah=2 then(p:Int)else q.up):Tree t':=by
 have uO:n≠p:=λe=>by subst e;rw[hn]at hp;cases hp;rw[M0]at wK;cases wK
 obtain⟨p',q2,b1,yU,b3,Gn,JN,_⟩:=h.tr n d e0 hn wK;have:p'=p:=om;subst this;rw[hp]at b3;cases b3;have GU:d.ah≠0:=λe=>by rw[h.z n d hn e]at wK;cases wK
 have rL:∀(i:Nat)x,t'[i]? =some x->(i=n/\x=d')\/(i=p'/\x=q')\/(i≠n/\i≠p'/\t[i]? =some x):=λi x hx=>by
  by_cases e:i=n
  .subst e;rw[h1]at hx;cases hx;exact .inl ⟨rfl,rfl⟩
  .by_cases e2:i=p'
   .subst e2;rw[h2]at hx;cases hx;exact .inr (.inl ⟨rfl,rfl⟩)
   .rw[h3 i e e2]at hx;exact .inr (.inr ⟨e,e2,hx⟩)
 have back:∀(i:Nat)x e,t'[i]? =some x->e∈x.es->∃y,t[i]? =some y/\e∈y.es/\e≠e0:=λi x e hx he=>by
  rcases rL i x hx with⟨rfl,rfl⟩|⟨rfl,rfl⟩|⟨c1,_,hx⟩
  .exact⟨d,hn,((Wi e).1 he).1,((Wi e).1 he).2⟩
  .rw[hq.2.2.1]at he;cases he
  .exact⟨x,hx,he,λe1=>by subst e1;exact c1 (h.un i n x d e e hx hn he wK rfl).1⟩
 have fwd:∀(i:Nat)x,t[i]? =some x->∃x',t'[i]? =some x'/\x'.ah=x.ah/\∀e,e∈x.es->e≠e0->e∈x'.es:=λi x hx=>by
  by_cases e:i=n
  .subst e;rw[hn]at hx;cases hx;exact⟨d',h1,hd.1,λe he gj=>(Wi e).2 ⟨he,gj⟩⟩
  .by_cases e2:i=p'
   .subst e2;rw[hp]at hx;cases hx;exact⟨q',h2,hq.1,λe he=>by rw[M0]at he;cases he⟩
   .exact⟨x,by rw[h3 i e e2];exact hx,rfl,λ_ h _=>h⟩
 have Sr:∀i,Lk t i->i≠p'->Lk t' i:=λi hi=>by
  induction hi with
  |aA=>exact λ_=>.aA
  | @step i j x e hl hx he hj ih=>
   intro hjp;have Zz:i≠p':=λe1=>by subst e1;rw[hp]at hx;cases hx;rw[M0]at he;cases he
   obtain⟨x',a1,_,a2⟩:=fwd i x hx;exact .step (ih Zz) a1 (a2 e he λe1=>hjp (by subst e1;omega)) hj
 refine⟨λi x hx hz=>?_,?_,λi x e hx he=>?_,λi i' x x' e e' hx w9 he wa o7=>?_,λi x hx R7=>?_,λi x hx hz=>?_,λi x hx=>?_,λi x hx=>?_⟩
 .rcases rL i x hx with⟨rfl,rfl⟩|⟨rfl,rfl⟩|⟨_,_,hx⟩
  .exact absurd (hd.1▸hz) GU
  .exact absurd (hq.1▸hz) Gn
  .exact h.z i x hx hz
 .obtain⟨r,a1,a2,a3,a4⟩:=h.r0;by_cases e:(0:Nat)=n
  .subst e;rw[a1]at hn;cases hn;exact⟨d',h1,by rw[hd.1];exact a2,by rw[hd.2.2];exact a3,by rw[hd.2.1];exact a4⟩
  .exact⟨r,by rw[h3 0 e (λe=>yU e.symm)];exact a1,a2,a3,a4⟩
 .obtain⟨y,hy,T6,gj⟩:=back i x e hx he;obtain⟨j,z,a1,a2,a3,a4,a5,a6⟩:=h.tr i y e hy T6;by_cases ej:j=n
  .subst ej;rw[hn]at a3;cases a3;exact⟨j,d',a1,a2,h1,by rw[hd.1];exact a4,by rw[hd.2.2];exact a5,by rw[hd.1,hd.2.1];exact a6⟩
  .have ejp:j≠p':=λe1=>by subst e1;exact gj (h.un i n y d e e0 hy hn T6 wK (a1.trans hep.symm)).2
   exact⟨j,z,a1,a2,by rw[h3 j ej ejp];exact a3,a4,a5,a6⟩
 .obtain⟨y,hy,T6,_⟩:=back i x e hx he;obtain⟨y',hy',QU,_⟩:=back i' x' e' w9 wa;exact h.un i i' y y' e e' hy hy' T6 QU o7
 .rcases rL i x hx with⟨rfl,rfl⟩|⟨rfl,rfl⟩|⟨_,c2,hx⟩
  .exact Sr _ (h.lk _ d hn λe=>by rw[h.em i d hn e]at wK;cases wK) uO
  .exact absurd hq.2.1 R7
  .exact Sr _ (h.lk i x hx R7) c2
 .rcases rL i x hx with⟨rfl,rfl⟩|⟨rfl,rfl⟩|⟨_,_,hx⟩
  .rw[h.em i d hn (hd.2.2▸hz)]at wK;cases wK
  .exact hq.2.2.1
  .exact h.em i x hx hz
 .rcases rL i x hx with⟨rfl,rfl⟩|⟨rfl,rfl⟩|⟨_,_,hx⟩
  .rw[hd.2.2];exact h.lr i d hn
  .exact .inl hq.2.1
  .exact h.lr i x hx
 .have key:∀(i:Nat)(y:Sk),t[i]? =some y->i≠p'->(y.up=i\/y.up=0\/y.ah=2/\∃(u:Nat)(x:Sk)(e:NE),y.up=u/\t'[u]? =some x/\e∈x.es/\e.2=i):=λi y hy Zz=>by
   rcases h.ux i y hy with a|a|⟨a0,u,z,e,a1,a2,a3,a4⟩
   .exact .inl a
   .exact .inr (.inl a)
   .obtain⟨z',b1,_,b2⟩:=fwd u z a2;exact .inr (.inr ⟨a0,u,z',e,a1,b1,b2 e a3 λe1=>Zz (by subst e1;omega),a4⟩)
  rcases rL i x hx with⟨rfl,rfl⟩|⟨rfl,rfl⟩|⟨_,c2,hx⟩
  .rw[hd.2.1,hd.1];exact key i d hn uO
  .rw[hq.2.2.2,hq.1];by_cases e2:q.ah=2
   .rw[if_pos e2];exact .inl rfl
   .rw[if_neg e2];rcases h.ux i q hp with a|a|⟨a0,_⟩
    .exact .inl a
    .exact .inr (.inl a)
    .exact absurd a0 e2
  .exact key i x hx c2
theorem Tree.sub{t t':List Sk}(h:Tree t){M:Nat->Prop}(h0:M 0)(ia:∀(i:Nat)d e(j:Nat),M i->t[i]? =some d->e∈d.es->e.2=(j:Nat)->M j)(h1:∀(i:Nat)d,M i->t[i]? =some d->d.ah≠0->t'[i]? =some d)(h2:∀(i:Nat)d',t'[i]? =some d'->d'=skZ\/t[i]? =some d'/\M i):Tree t':=by
 have hM:∀i,Lk t i->M i:=λi hi=>by
  induction hi with
  |aA=>exact h0
  |step _ hd he hj ih=>exact ia _ _ _ _ ih hd he hj
 have kE:∀(i:Nat)d e,t[i]? =some d->e∈d.es->d.ah≠0:=λi d e hd he hz=>by rw[h.z i d hd hz]at he;cases he
 have oE:∀(i:Nat)d e,t[i]? =some d->e∈d.es->M i:=λi d e hd he=>hM i (h.lk i d hd λhz=>by rw[h.em i d hd hz]at he;cases he)
 have Sr:∀i,Lk t i->Lk t' i:=λi hi=>hi.mono λi d hd hn=>by obtain⟨e,hx⟩:=aen _ hn;exact⟨d,h1 i d (oE i d e hd hx) hd (kE i d e hd hx),λ_ h=>h⟩
 have bk:∀(i:Nat)d e,t'[i]? =some d->e∈d.es->t[i]? =some d/\M i:=λi d e hd he=>by
  rcases h2 i d hd with rfl|h
  .cases he
  .exact h
 refine⟨λi d hd hz=>?_,?_,λi d e hd hx=>?_,λi i' d d' e e' hd Cp hx w9 o7=>h.un i i' d d' e e' (bk i d e hd hx).1 (bk i' d' e' Cp w9).1 hx w9 o7,λi d hd hn=>?_,λi d hd hn=>?_,λi d hd=>?_,λi d hd=>?_⟩
 .rcases h2 i d hd with h'|⟨h',_⟩
  .exact h'
  .exact h.z i d h' hz
 .obtain⟨d,a1,a2,a3⟩:=h.r0;exact⟨d,h1 0 d h0 a1 om,a2,a3⟩
 .obtain⟨Cp,hm⟩:=bk i d e hd hx;obtain⟨j,x,a1,a2,a3,a4,a5⟩:=h.tr i d e Cp hx;exact⟨j,x,a1,a2,h1 j x (ia i d e j hm Cp hx a1) a3 a4,a4,a5⟩
 .rcases h2 i d hd with rfl|⟨h',_⟩
  .exact absurd rfl hn
  .exact Sr i (h.lk i d h' hn)
 .rcases h2 i d hd with rfl|⟨h',_⟩
  .rfl
  .exact h.em i d h' hn
 .rcases h2 i d hd with rfl|⟨h',_⟩
  .exact .inl rfl
  .exact h.lr i d h'
 .rcases h2 i d hd with rfl|⟨h',_⟩
  .exact .inr (.inl rfl)
  .rcases h.ux i d h' with a|a|⟨a0,u,x,e,a1,a2,a3,a4⟩
   .exact .inl a
   .exact .inr (.inl a)
   .exact .inr (.inr ⟨a0,u,x,e,a1,h1 u x (oE u x e a2 a3) a2 (kE u x e a2 a3),a3,a4⟩)
theorem Tree.take{t:List Sk}(h:Tree t){n:Nat}(hn:1<=n)(hz:∀(i:Nat)d,n<=i->t[i]? =some d->d.ah=0):Tree (t.take n):=by
 have get:∀(i:Nat)d,(t.take n)[i]? =some d->t[i]? =some d:=λi d hd=>by
  rw[abI]at hd;split at hd
  .exact hd
  .cases hd
 have put:∀(i:Nat)d,t[i]? =some d->d.ah≠0->(t.take n)[i]? =some d:=λi d hd hk=>by
  rw[abI,if_pos (aeK λhle=>hk (hz i d hle hd))]
  exact hd
 have kE:∀(i:Nat)d e,t[i]? =some d->e∈d.es->d.ah≠0:=λi d e hd he hz=>by rw[h.z i d hd hz]at he;cases he
 refine⟨λi d hd hz=>h.z i d (get i d hd) hz,?_,λi d e hd hx=>?_,λi i' d d' e e' hd Cp hx w9 o7=>h.un i i' d d' e e' (get i d hd) (get i' d' Cp) hx w9 o7,λi d hd hn=>?_,λi d hd hn=>h.em i d (get i d hd) hn,λi d hd=>h.lr i d (get i d hd),λi d hd=>?_⟩
 .obtain⟨d,a1,a2,a3⟩:=h.r0;exact⟨d,put 0 d a1 om,a2,a3⟩
 .obtain⟨j,x,a1,a2,a3,a4,a5⟩:=h.tr i d e (get i d hd) hx;exact⟨j,x,a1,a2,put j x a3 a4,a4,a5⟩
 .refine(h.lk i d (get i d hd) hn).mono λi d hd gj=>?_
  obtain⟨e,hx⟩:=aen _ gj;exact⟨d,put i d hd (kE i d e hd hx),λ_ h=>h⟩
 .rcases h.ux i d (get i d hd)with a|a|⟨a0,u,x,e,a1,a2,a3,a4⟩
  .exact .inl a
  .exact .inr (.inl a)
  .exact .inr (.inr ⟨a0,u,x,e,a1,put u x a2 (kE u x e a2 a3),a3,a4⟩)
end Kn
namespace Kn
structure Ix(l:List Obj)(o:Obj):Prop where
 eq:o.ag=(dh o).map bT
 DO:Hf (dh o)
 dir:o.ah≠2->o.ag=[]
 to:∀e,e∈dh o->e.1.size<=12/\∃(j:Nat)(x:Obj),e.2=j/\l[j]? =some x/\x.ah≠0
def gJ(l:List Obj)(z:Int):Prop:=∃(j:Nat)(x:Obj),z=j/\l[j]? =some x/\x.ah≠0
def fU(k:Kr)(z r:Int):Prop:=(0<=r/\r<=4095)/\∃(n:Nat)(o:aV),z=n/\k.ops[n]? =some o/\gJ k.l o.obj
structure KI(k:Kr):Prop where
 ll:k.l.length<=40
 lo:k.ops.length<=60
 lp:k.ps.length<=8
 sm:∀o,o∈k.l->o.sm
 sl:∀x,x∈k.ps->x.ap.length<=10
 ne:k.ps≠[]
 aE:∀x,x∈k.ps->x.aF=false->x.ap=[]
 cap:∀x,x∈k.ps->∀s,s∈x.ap->s.has=true->fU k s.ct s.rts
 qu:∀o,o∈k.l->∀q,q∈o.aj->q.has=true->fU k q.ct q.rts
 pr:∀o,o∈k.l->o.ah=5->∃n:Nat,o.aQ=n/\n<k.ps.length
 en:∀o,o∈k.l->Ix k.l o
 z:∀o,o∈k.l->o.ah=0->o=dU
 pe:∀(i:Nat)o,k.l[i]? =some o->o.ah=4->o.aI= -1\/∃(j:Nat)(x:Obj),o.aI=j/\k.l[j]? =some x/\x.ah=4/\x.aI=i
 dq:∀o,o∈k.ops->0<=o.dq/\o.dq<=64
 N0:∀o,o∈k.l->o.data.length<=60
 p7:Tree (k.l.map r9)
theorem KI.kr{k:Kr}(h:KI k):dY k.l k.ops k.ps:=⟨h.sm,by have:=h.ll;omega,by have:=h.lo;omega,by have:=h.lp;omega,h.sl,h.ne⟩
theorem ij{l:List Obj}{i:Nat}{o:Obj}(h:l[i]? =some o):(l.map r9)[i]? =some (r9 o):=by rw[Rn,h];rfl
theorem pq{l:List Obj}{i:Nat}{d:Sk}(h:(l.map r9)[i]? =some d):∃o,l[i]? =some o/\d=r9 o:=by
 rw[Rn]at h;cases ho:l[i]? with
 |none=>rw[ho]at h;cases h
 |some o=>rw[ho]at h;cases h;exact⟨o,rfl,rfl⟩
theorem KI.up{k:Kr}(h:KI k){o:Obj}(ho:o∈k.l):0<=o.up/\o.up<k.l.length:=by obtain⟨i,hi⟩:=aag ho;have:=h.p7.aci (ij hi);rwa [P2]at this
theorem KI.aA{k:Kr}(h:KI k):∃o,k.l[0]? =some o/\o.ah=2:=by obtain⟨d,h1,h2,_⟩:=h.p7.r0;obtain⟨o,h3,rfl⟩:=pq h1;exact⟨o,h3,h2⟩
theorem KI.pos{k:Kr}(h:KI k):0<k.l.length:=by obtain⟨o,h1,_⟩:=h.aA;exact(Mp.1 h1).1
theorem Ix.len{l:List Obj}{o:Obj}(h:Ix l o):(dh o).length=o.ag.length:=by have:=congrArg List.length h.eq;rw[P2]at this;exact this.symm
theorem KI.DO{k:Kr}(h:KI k):zq k.l:=by
 refine⟨⟨by have:=h.ll;omega,λo ho=>(h.sm o ho).pZ⟩,λo ho=>?_⟩
 have he:=h.en o ho;refine⟨dh o,he.eq,he.DO,by rw[he.len];have:=(h.sm o ho).e;omega,λe hx=>?_⟩
 obtain⟨_,j,x,h1,h2,_⟩:=he.to e hx;have:=(Mp.1 h2).1;omega
theorem KI.lk{k:Kr}(h:KI k):ph (k.l.map Obj.ob):=by
 refine⟨by rw[P2];have:=h.ll;omega,by rw[P2];exact h.pos,λo ho=>?_,λo ho=>?_,λo ho=>?_⟩
 .obtain⟨x,hx,rfl⟩:=abm.1 ho;have he:=h.en x hx;refine⟨dh x,he.eq,he.DO,λe hxe=>?_,λhk=>?_⟩
  .obtain⟨_,j,y,h1,h2,_⟩:=he.to e hxe;have:=(Mp.1 h2).1;rw[P2];omega
  .have:=he.dir hk;show x.ag.map kN=[];rw[this];rfl
 .obtain⟨x,hx,rfl⟩:=abm.1 ho;have:=(h.sm x hx).e;show x.ag.length<=64;omega
 .obtain⟨x,hx,rfl⟩:=abm.1 ho;have:=h.up hx;rw[P2];exact this
def BO(x o:Obj):Prop:=x=o\/x={o with aI:= -1}
theorem BO.all{x o:Obj}(h:BO x o):x.ah=o.ah/\x.data=o.data/\x.ag=o.ag/\x.target=o.target/\x.aj=o.aj/\x.aQ=o.aQ/\x.ak=o.ak/\x.up=o.up:=by
 rcases h with rfl|rfl<;>exact⟨rfl,rfl,rfl,rfl,rfl,rfl,rfl,rfl⟩
theorem BO.sk{x o:Obj}(h:BO x o):r9 x=r9 o:=by obtain⟨h1,_,h2,_,_,_,h3,h4⟩:=h.all;unfold r9 dh;rw[h1,h2,h3,h4]
theorem iK{l:List Obj}(hz:∀o,o∈l->o.ah=0->o=dU)(b:Mk){i:Nat}{o:Obj}(ho:l[i]? =some o):
  (cg b l l.length i o=dU/\(o.ah=0\/¬dF b.O i))\/(dF b.O i/\o.ah≠0/\((cg b l l.length i o=o/\(o.ah=4->∀(j:Nat)x,o.aI=j->l[j]? =some x->x.ah≠0->dF b.O j))\/
   (cg b l l.length i o={o with aI:= -1}/\o.ah=4/\∃(j:Nat)(x:Obj),o.aI=j/\l[j]? =some x/\¬dF b.O j))):=by
 have hi:=(Mp.1 ho).1;have PD:∀j,(b.O[j]? ==some true)=true↔dF b.O j:=λj=>by unfold dF;simp
 have lT:∀(j:Nat)x,l[j]? =some x->(dD b l j=true↔¬dF b.O j/\x.ah≠0):=λj x hx=>by unfold dD;rw[hx];simp only[aaJ,adx,bne_iff_ne,ne_eq];rw[<-PD j];simp
 unfold cg;by_cases h1:(dD b l i&&decide (i<l.length))=true
 .rw[if_pos h1];rw[aaJ]at h1;exact .inl ⟨rfl,.inr ((lT i o ho).1 h1.1).1⟩
 .rw[if_neg h1];have s9:¬dD b l i=true:=λh=>h1 (by rw[h];simpa using hi)
  by_cases hk:o.ah=0
  .have:=hz o (Wm ho) hk;subst this;exact .inl ⟨rfl,.inl rfl⟩
  .have hM:dF b.O i:=XW λhn=>s9 ((lT i o ho).2 ⟨hn,hk⟩)
   refine .inr ⟨hM,hk,?_⟩;by_cases h2:(o.ah==4&&lq b l l.length o.aI)=true
   .rw[if_pos h2];rw[aaJ]at h2;refine .inr ⟨rfl,by simpa using h2.1,?_⟩
    have h3:=h2.2;unfold lq at h3;rw[aaJ,decide_eq_true_eq]at h3;obtain⟨⟨h4,h5⟩,h6⟩:=h3;refine⟨o.aI.toNat,l[o.aI.toNat],om,xm h5,((lT _ _ (xm h5)).1 h6).1⟩
   .rw[if_neg h2];refine .inl ⟨rfl,λh4 j x hp hx Yk=>?_⟩
    refine XW λhn=>h2 ?_
    have hj:=(Mp.1 hx).1;rw[h4,aaJ];refine⟨rfl,?_⟩;unfold lq;rw[hp,aam,(lT j x hx).2 ⟨hn,Yk⟩,afm,decide_eq_true_eq];omega
theorem M1(L:List Obj)(k t:Nat)(x:aM):vn L k t x=fI\/vn L k t x=x:=by
 unfold vn;split
 .exact .inl rfl
 .exact .inr rfl
theorem T7:dU.data.length<=60:=by simp[dU]
theorem KI.AB{k c:Kr}{en:Bool}(h:KI k)(ho:cI k.l k.ops k.ps c.l c.ops c.ps en):KI c:=by
 obtain⟨b,hb,hL,hP⟩:=ho.ex;have hR:=ho.pr;have rL:∀(i:Nat)x,c.l[i]? =some x->x=dU\/∃o,k.l[i]? =some o/\dF b.O i/\o.ah≠0/\BO x o:=λi x hx=>by
  obtain⟨o,h1,h2⟩:=hL.get hx;rcases iK h.z b h1 with⟨h3,_⟩|⟨h3,h4,h5⟩
  .exact .inl (h2.trans h3)
  .refine .inr ⟨o,h1,h3,h4,?_⟩;rcases h5 with⟨h5,_⟩|⟨h5,_⟩
   .exact .inl (h2.trans h5)
   .exact .inr (h2.trans h5)
 have eX:∀(i:Nat)o,k.l[i]? =some o->dF b.O i->o.ah≠0->∃x,c.l[i]? =some x/\BO x o:=λi o h1 hM hk=>by
  refine⟨_,hL.2 i o h1,?_⟩;rcases iK h.z b h1 with⟨_,h4|h4⟩|⟨_,_,⟨h5,_⟩|⟨h5,_⟩⟩
  .exact absurd h4 hk
  .exact absurd hM h4
  .exact .inl h5
  .exact .inr h5
 have rM:∀z,gJ k.l z->(∀n:Nat,vO k.l z n->dF b.O n)->gJ c.l z:=λz⟨j,x,h1,h2,h3⟩hm=>by
  obtain⟨y,h4,h5⟩:=eX j x h2 (hm j ⟨h1,x,h2,h3⟩) h3;exact⟨j,y,h1,h4,by rw[h5.all.1];exact h3⟩
 have fc:∀z r,fU k z r->(∀n:Nat,vP k.ops z n->dF b.P n)->fU c z r:=λz r⟨hr,n,o,h1,h2,h3⟩hm=>by
  have hn:=(Mp.1 h2).1;have hM:=hm n ⟨h1,hn⟩;refine⟨hr,n,o,h1,?_,rM _ h3 λj hv=>hb.cl.p n o hM h2 j hv⟩
  rw[hP.2 n o h2,AA,if_neg];have:(b.P[n]? ==some true)=true:=by unfold dF at hM;rw[hM];rfl
  rw[this];simp
 have hlen:c.l.length=k.l.length:=hL.1;have mem:∀x,x∈c.l->∃i:Nat,c.l[i]? =some x:=λx hx=>aag hx
 have QW:∀x,x∈c.ps->x=fI\/x∈k.ps:=λx hx=>by
  obtain⟨t,ht⟩:=aag hx;obtain⟨o,h1,h2⟩:=hR.get ht;rcases M1 c.l k.ps.length t o with h3|h3
  .exact .inl (h2.trans h3)
  .exact .inr (by rw[h2,h3];exact Wm h1)
 refine⟨by rw[hlen];exact h.ll,by rw[hP.1];exact h.lo,by rw[hR.1];exact h.lp,(ho.kr h.kr).sm,(ho.kr h.kr).sl,(ho.kr h.kr).ne,λx hx hl=>?_,λx hx s hs hh=>?_,λo eH q hq hh=>?_,λo eH h5=>?_,λo eH=>?_,λo eH hk=>?_,λi o hi h4=>?_,λo eH=>?_,λo eH=>?_,?_⟩
 .rcases QW x hx with rfl|hx
  .rfl
  .exact h.aE x hx hl
 .rcases QW x hx with rfl|w9
  .cases hs
  .cases hl:x.aF with
   |false=>rw[h.aE x w9 hl]at hs;cases hs
   |true=>
    obtain⟨p,hp⟩:=aag w9;exact fc _ _ (h.cap x w9 s hs hh) λn hv=>hb.nA.2 p x hp hl s hs hh n hv
 .obtain⟨i,hi⟩:=mem o eH;rcases rL i o hi with rfl|⟨y,h1,hM,hk,hs⟩
  .cases hq
  .rw[hs.all.2.2.2.2.1]at hq;exact fc _ _ (h.qu y (Wm h1) q hq hh) λn hv=>hb.cl.q i y hM h1 q.ct n ⟨q,hq,hh,rfl⟩ hv
 .obtain⟨i,hi⟩:=mem o eH;rcases rL i o hi with rfl|⟨y,h1,hM,hk,hs⟩
  .cases h5
  .rw[hs.all.1]at h5;rw[hs.all.2.2.2.2.2.1,hR.1];exact h.pr y (Wm h1) h5
 .obtain⟨i,hi⟩:=mem o eH;rcases rL i o hi with rfl|⟨y,h1,hM,hk,hs⟩
  .exact⟨rfl,List.Pairwise.nil,λ_=>rfl,λe he=>by cases he⟩
  .have he:=h.en y (Wm h1);have o7:dh o=dh y:=by unfold dh;rw[hs.all.2.2.1]
   refine⟨by rw[hs.all.2.2.1,o7];exact he.eq,by rw[o7];exact he.DO,λhn=>by rw[hs.all.2.2.1];exact he.dir (by rw[<-hs.all.1];exact hn),λe hx=>?_⟩
   rw[o7]at hx;obtain⟨h2,j,x,h3,h4,h5⟩:=he.to e hx;have uV:sE y e.2:=⟨e.1,by rw[he.eq];exact abm.2 ⟨e,hx,rfl⟩⟩
   obtain⟨x',h6,h7⟩:=eX j x h4 (hb.cl.e i y hM h1 e.2 j uV ⟨h3,x,h4,h5⟩) h5;exact⟨h2,j,x',h3,h6,by rw[h7.all.1];exact h5⟩
 .obtain⟨i,hi⟩:=mem o eH;rcases rL i o hi with rfl|⟨y,h1,hM,mC,hs⟩
  .rfl
  .exact absurd (hs.all.1▸hk) mC
 .obtain⟨y,h1,h2⟩:=hL.get hi;rcases iK h.z b h1 with⟨h3,_⟩|⟨hM,hk,h5⟩
  .rw[h2,h3]at h4;cases h4
  .rcases h5 with⟨h5,h6⟩|⟨h5,_⟩
   .rw[h2,h5]at h4|-;rcases h.pe i y h1 h4 with h7|⟨j,x,h7,h8,h9,Sq⟩
    .exact .inl h7
    .refine .inr ⟨j,cg b k.l k.l.length j x,h7,hL.2 j x h8,?_⟩;have ZA:=h6 h4 j x h7 h8 om;rcases iK h.z b h8 with⟨_,NY|NY⟩|⟨_,_,⟨NY,_⟩|⟨_,_,j',x',Ga,Gm,QK⟩⟩
     .omega
     .exact absurd ZA NY
     .rw[NY];exact⟨h9,Sq⟩
     .have:j'=i:=om;subst this;exact absurd hM QK
   .rw[h2,h5];exact .inl rfl
 .obtain⟨t,ht⟩:=aag eH;obtain⟨x,h1,h2⟩:=hP.get ht;rw[h2,AA];split
  .exact⟨afh _,by show(0:Int)<=64;omega⟩
  .exact h.dq x (Wm h1)
 .obtain⟨i,hi⟩:=mem o eH;rcases rL i o hi with rfl|⟨y,h1,hM,hk,hs⟩
  .exact T7
  .rw[hs.all.2.1];exact h.N0 y (Wm h1)
 .obtain⟨r,DN,wQ⟩:=h.aA;refine h.p7.sub (M:=dF b.O) (hb.nA.1 0 ⟨rfl,r,DN,om⟩) (λi d e j hM hd he hj=>?_) (λi d hM hd hk=>?_) (λi d' Cp=>?_)
  .obtain⟨o,h1,rfl⟩:=pq hd;have mJ:=h.en o (Wm h1);obtain⟨_,j',x,h3,h4,h5⟩:=mJ.to e he;have:j'=j:=om;subst this;exact hb.cl.e i o hM h1 e.2 j' ⟨e.1,by rw[mJ.eq];exact abm.2 ⟨e,he,rfl⟩⟩ ⟨h3,x,h4,h5⟩
  .obtain⟨o,h1,rfl⟩:=pq hd;obtain⟨x,h2,h3⟩:=eX i o h1 hM hk;rw[<-h3.sk];exact ij h2
  .obtain⟨x,h1,rfl⟩:=pq Cp;rcases rL i x h1 with rfl|⟨y,h2,hM,hk,hs⟩
   .exact .inl rfl
   .exact .inr ⟨by rw[hs.sk];exact ij h2,hM⟩
theorem uu{α:Type}{l:List α}{n i:Nat}{x:α}(h:(l.take n)[i]? =some x):l[i]? =some x/\i<n:=by
 rw[abI]at h;split at h
 .exact⟨h,by assumption⟩
 .cases h
theorem Fx{α:Type}{l:List α}{n i:Nat}{x:α}(h:l[i]? =some x)(hi:i<n):(l.take n)[i]? =some x:=by rw[abI,if_pos hi];exact h
theorem M2(O:List Obj)(k t:Nat)(x:aM):gq O k t x=fI\/gq O k t x=x:=by
 unfold gq;split
 .exact .inl rfl
 .exact .inr rfl
theorem KI.gU{c d:Kr}(h:KI c)(hf:gX c d):KI d:=by
 obtain⟨n1,n2,n3,P,h1,h2,h3,h4,rfl⟩:=hf.ex;have eX:∀(i:Nat)o,c.l[i]? =some o->o.ah≠0->(c.l.take n1)[i]? =some o:=λi o ho hk=>Fx ho (aeK λhle=>hk (by simpa[qO]using h1.t.dr i o hle ho))
 have rM:∀z,gJ c.l z->gJ (c.l.take n1) z:=λz⟨j,x,a1,a2,a3⟩=>⟨j,x,a1,eX j x a2 a3,a3⟩
 have fc:∀z r,fU c z r->fU ⟨c.l.take n1,c.ops.take n2,P.take n3⟩ z r:=λz r⟨hr,n,o,a1,a2,a3⟩=>by
  refine⟨hr,n,o,a1,Fx a2 (aeK λhle=>?_),rM _ a3⟩
  have hq:=h2.t.dr n o hle a2;obtain⟨j,_,e,_⟩:=a3;simp only[qP,decide_eq_true_eq]at hq;omega
 have dQ:=h.pos;have qj:1<=n1:=by have:=h1.t.mn;omega
 have hPl:P.length=c.ps.length:=h3.1;have jB:0<c.ps.length:=afe.2 h.ne;have Sp:1<=n3:=by have:=h4.t.mn;omega
 have alJ:=h4.t.le;have QW:∀x,x∈P.take n3->x=fI\/x∈c.ps:=λx hx=>by
  obtain⟨t,ht⟩:=aag (acQ hx);obtain⟨o,a1,a2⟩:=h3.get ht;rcases M2 (c.l.take n1) c.ps.length t o with a3|a3
  .exact .inl (a2.trans a3)
  .exact .inr (by rw[a2,a3];exact Wm a1)
 have kr:=hf.kr h.kr;refine⟨?_,?_,?_,kr.sm,kr.sl,kr.ne,λx hx hl=>?_,λx hx s hs hh=>?_,λo ho q hq hh=>fc _ _ (h.qu o (acQ ho) q hq hh),λo ho h5=>?_,λo ho=>?_,λo ho hk=>h.z o (acQ ho) hk,λi o hi hk=>?_,λo ho=>h.dq o (acQ ho),λo ho=>h.N0 o (acQ ho),?_⟩
 .show(c.l.take n1).length<=40;rw[abg];have:=h.ll;omega
 .show(c.ops.take n2).length<=60;rw[abg];have:=h.lo;omega
 .show(P.take n3).length<=8;rw[abg];have:=h.lp;omega
 .rcases QW x hx with rfl|hx
  .rfl
  .exact h.aE x hx hl
 .rcases QW x hx with rfl|hx
  .cases hs
  .exact fc _ _ (h.cap x hx s hs hh)
 .obtain⟨n,a1,a2⟩:=h.pr o (acQ ho) h5;refine⟨n,a1,?_⟩;show n<(P.take n3).length;rw[abg];refine Nat.lt_min.2 ⟨aeK λhle=>?_,om⟩
  have hq:=h4.t.dr n P[n] hle (xm om);simp only[qR,aaJ,adx]at hq;have:(c.l.take n1).any (cD (n:Int))=true:=acf.2 ⟨o,ho,by simp[cD,h5,a1]⟩
  rw[this]at hq;cases hq.2
 .have he:=h.en o (acQ ho);refine⟨he.eq,he.DO,he.dir,λe hx=>?_⟩
  obtain⟨a0,j,x,a1,a2,a3⟩:=he.to e hx;exact⟨a0,j,x,a1,eX j x a2 a3,a3⟩
 .obtain⟨a1,a2⟩:=uu hi;rcases h.pe i o a1 hk with a3|⟨j,x,a3,a4,a5,a6⟩
  .exact .inl a3
  .exact .inr ⟨j,x,a3,eX j x a4 om,a5,a6⟩
 .show Tree ((c.l.take n1).map r9);rw[adQ];refine h.p7.take qj λi d hle hd=>?_
  obtain⟨o,a1,rfl⟩:=pq hd;have:=h1.t.dr i o hle a1;show o.ah=0;simpa[qO]using this
theorem KI.to{k a:Kr}(h:KI k)(h1:ig k a):KI a:=by
 induction h1 with
 |refl=>exact h
 |step _ ho ih=>exact ih.AB ho
theorem KI.uv{k:Kr}(h:KI k):KI (dZ k):=by obtain⟨a,c,h1,h2,h3⟩:=(eT h.kr).ex;exact((h.to h1).AB h2).gU h3
end Kn
namespace Kn
theorem xJ{l:List Ob}{aB:Nat}{aD follow:Bool}{rec:Nat->List bY.eh->Nat->R4}{A:Nat->Prop}{Q:R4->Prop}(h0:∀e,e≠0->Q (R4.no e))(h1:∀a,A a->Q ⟨a,ze l a,[],0⟩)(h2:∀a w,A a->(lB l a).ah=2->ml l a w<0->Q ⟨-1,a,w,0⟩)(h3:∀a w,A a->(lB l a).ah=2->¬ml l a w<0->Q ⟨ml l a w,a,w,0⟩)(T8:∀a,A a->(lB l a).ah=2->¬(aD=true/\a=aB)->A (ze l a))(Ks:∀a w,A a->(lB l a).ah=2->¬ml l a w<0->A (ml l a w).toNat)(Cv:∀a rest k,A a->Q (rec a rest k)):∀(parts:List bY.eh)(a:Nat),A a->Q (BD l aB aD follow rec parts a)
 | [],a,ha=>h1 a ha
 |w::rest,a,ha=>by
  rw[BD];split
  .exact h0 11 (by decide)
  .rename_i hk;have hk:(lB l a).ah=2:=by simpa using hk
   split
   .split
    .exact h0 14 (by decide)
    .rename_i hf;exact xJ h0 h1 h2 h3 T8 Ks Cv rest _ (T8 a ha hk hf)
   .split
    .rename_i hn;split
     .exact h0 6 (by decide)
     .exact h2 a w ha hk hn
    .rename_i hn;split
     .exact Cv a rest _ ha
     .split
      .exact h3 a w ha hk hn
      .exact xJ h0 h1 h2 h3 T8 Ks Cv rest _ (Ks a w ha hk hn)
theorem Kt{l:List Ob}{aB:Nat}{aD follow:Bool}{A:Nat->Prop}{Q:R4->Prop}(h0:∀e,e≠0->Q (R4.no e))(h1:∀a,A a->Q ⟨a,ze l a,[],0⟩)(h2:∀a w,A a->(lB l a).ah=2->ml l a w<0->Q ⟨-1,a,w,0⟩)(h3:∀a w,A a->(lB l a).ah=2->¬ml l a w<0->Q ⟨ml l a w,a,w,0⟩)(T8:∀a,A a->(lB l a).ah=2->¬(aD=true/\a=aB)->A (ze l a))(Ks:∀a w,A a->(lB l a).ah=2->¬ml l a w<0->A (ml l a w).toNat)(hr:aD=false->A 0):
  ∀(n:Nat)(parts:List bY.eh)(a:Nat),A a->Q (xH l aB aD follow n parts a)
 |0,parts,a,ha=>xJ h0 h1 h2 h3 T8 Ks (λ_ _ _ _=>h0 13 (by decide)) parts a ha
 |n+1,parts,a,ha=>by
  refine xJ h0 h1 h2 h3 T8 Ks (λa rest k ha=>?_) parts a ha
  rw[NW];split
  .rename_i h;exact h0 _ h
  .split
   .exact h0 14 (by decide)
   .rename_i hf;refine Kt h0 h1 h2 h3 T8 Ks hr n _ _ ?_;split
    .rename_i iN;exact hr (by cases aD with|false=>rfl|true=>exact absurd ⟨iN,rfl⟩ hf)
    .exact ha
theorem BP{l:List Ob}{aB:Int}{s:bY.eh}{aD follow:Bool}{A:Nat->Prop}{Q:R4->Prop}(h0:∀e,e≠0->Q (R4.no e))(h1:∀a,A a->Q ⟨a,ze l a,[],0⟩)(h2:∀a w,A a->(lB l a).ah=2->ml l a w<0->Q ⟨-1,a,w,0⟩)(h3:∀a w,A a->(lB l a).ah=2->¬ml l a w<0->Q ⟨ml l a w,a,w,0⟩)(T8:∀a,A a->(lB l a).ah=2->¬(aD=true/\a=aB.toNat)->A (ze l a))(Ks:∀a w,A a->(lB l a).ah=2->¬ml l a w<0->A (ml l a w).toNat)(hr:aD=false->A 0)(hb:∀n:Nat,aB=n->n<l.length->(lB l n).ah=2->A n):Q (oI l aB s aD follow):=by
 rw[oI];split
 .rename_i hi;obtain⟨n,rfl,hn⟩:=yM hi;split
  .exact h0 11 (by decide)
  .rename_i hk;have hk:(lB l n).ah=2:=by simpa using hk
   split
   .rename_i h;exact h0 _ h
   .split
    .exact h0 14 (by decide)
    .rename_i hf;refine Kt h0 h1 h2 h3 T8 Ks hr 6 _ _ ?_;split
     .rename_i iN;exact hr (by cases aD with|false=>rfl|true=>exact absurd ⟨iN,rfl⟩ hf)
     .exact hb n rfl hn hk
 .exact h0 6 (by decide)
theorem Ku{l:List Obj}{n:Nat}{o:Obj}(h:l[n]? =some o):lB (l.map Obj.ob) n=o.ob:=by rw[lB,Rn,h];rfl
theorem QX{l:List Obj}{n:Nat}(h:(lB (l.map Obj.ob) n).ah≠0):∃o,l[n]? =some o/\lB (l.map Obj.ob) n=o.ob:=by
 cases ho:l[n]? with
 |none=>exfalso;apply h;rw[lB,Rn,ho];rfl
 |some o=>exact⟨o,rfl,Ku ho⟩
theorem QY{l:List Obj}{n:Nat}{o:Obj}(h:l[n]? =some o):ze (l.map Obj.ob) n=o.up.toNat:=by rw[ze,Ku h];rfl
theorem Yl{l:List Obj}{n:Nat}{o:Obj}(h:l[n]? =some o)(w:bY.eh):ml (l.map Obj.ob) n w=fq (dh o) (bY.cZ w):=by rw[ml,Ku h];rfl
theorem Dj{l:List Obj}{n:Nat}{o:Obj}(h:l[n]? =some o){w:bY.eh}(hf:¬ml (l.map Obj.ob) n w<0):∃e,e∈dh o/\e.1.toList=(bY.cZ w).toList/\ml (l.map Obj.ob) n w=e.2:=by
 rw[Yl h]at hf|-;rcases iw (dh o) (bY.cZ w)with⟨e,h1,h2,h3⟩|⟨h3,_⟩
 .exact⟨e,h1,h2,h3⟩
 .omega
def wT(l:List Obj)(a:Nat):Prop:=∃o,l[a]? =some o/\o.ah≠0
theorem KI.QZ{k:Kr}(h:KI k){a:Nat}(ha:wT k.l a):wT k.l (ze (k.l.map Obj.ob) a):=by
 obtain⟨o,h1,h2⟩:=ha;rw[QY h1];rcases h.p7.ux a (r9 o) (ij h1)with h3|h3|⟨_,u,x,e,h3,h4,h5,_⟩
 .have h3:o.up=a:=h3;rw[h3];exact⟨o,h1,h2⟩
 .have h3:o.up=0:=h3;rw[h3];obtain⟨r,h4,h5⟩:=h.aA;exact⟨r,h4,om⟩
 .have h3:o.up=u:=h3;rw[h3];obtain⟨y,h6,rfl⟩:=pq h4;refine⟨y,h6,λhz=>?_⟩
  have:=h.z y (Wm h6) hz;subst this;cases h5
theorem KI.BQ{k:Kr}(h:KI k){a:Nat}{w:bY.eh}(ha:wT k.l a)(hf:¬ml (k.l.map Obj.ob) a w<0):wT k.l (ml (k.l.map Obj.ob) a w).toNat/\0<=ml (k.l.map Obj.ob) a w:=by obtain⟨o,h1,_⟩:=ha;obtain⟨e,h3,_,h4⟩:=Dj h1 hf;obtain⟨_,j,x,h5,h6,h7⟩:=(h.en o (Wm h1)).to e h3;rw[h4,h5];exact⟨⟨x,h6,h7⟩,om⟩
theorem KI.T9{k:Kr}(h:KI k)(aB:Int)(s:bY.eh)(aD follow:Bool):(eA k aB s aD follow).iq=0->(eA k aB s aD follow).obj= -1\/gJ k.l (eA k aB s aD follow).obj:=by
 refine BP (A:=wT k.l) (Q:=λr=>r.iq=0->r.obj= -1\/gJ k.l r.obj) (λe he h0=>absurd h0 he) (λa⟨o,h1,h2⟩ _=>.inr ⟨a,o,rfl,h1,h2⟩) (λ_ _ _ _ _ _=>.inl rfl) (λa w ha _ hf _=>?_)
  (λa ha _ _=>h.QZ ha) (λa w ha _ hf=>(h.BQ ha hf).1) (λ_=>?_) (λn _ hn hk=>?_)
 .obtain⟨⟨o,h1,h2⟩,h3⟩:=h.BQ ha hf;exact .inr ⟨_,o,by show ml _ _ _=_;omega,h1,h2⟩
 .obtain⟨r,h4,h5⟩:=h.aA;exact⟨r,h4,om⟩
 .obtain⟨o,h1,h2⟩:=QX (l:=k.l) (n:=n) (by rw[hk];decide)
  rw[h2]at hk;have hk:o.ah=2:=hk;exact⟨o,h1,om⟩
theorem fU.at{k:Kr}{z r:Int}(h:fU k z r):∃n j:Nat,z=n/\n<k.ops.length/\lU k.ops n=j/\j<k.l.length:=by obtain⟨_,n,o,h1,h2,j,x,h3,h4,_⟩:=h;refine⟨n,j,h1,(Mp.1 h2).1,?_,(Mp.1 h4).1⟩;rw[lU,aam,h2];exact h3
theorem KI.fc{k:Kr}(h:KI k){p:Nat}{s:dX}(hs:s∈aP k.ps p)(hh:s.has=true):fU k s.ct s.rts:=by
 unfold aP at hs;cases hp:k.ps[p]? with
 |none=>rw[hp]at hs;cases hs
 |some x=>rw[hp]at hs;exact h.cap x (Wm hp) s hs hh
theorem KI.kw{k:Kr}(h:KI k){p:Nat}(hp:p<k.ps.length):KW k p:=
 ⟨h.kr,h.ll,h.DO,h.lk,λo ho e he=>((h.en o ho).to e he).1,hp,λs hs hh=>(h.fc hs hh).at⟩
end Kn
namespace Kn
theorem Ix.mono{l l':List Obj}{o:Obj}(h:Ix l o)(hm:∀(j:Nat)x,l[j]? =some x->x.ah≠0->∃y,l'[j]? =some y/\y.ah≠0):Ix l' o:=
 ⟨h.eq,h.DO,h.dir,λe he=>by obtain⟨h1,j,x,h2,h3,h4⟩:=h.to e he;obtain⟨y,h5,h6⟩:=hm j x h3 h4;exact⟨h1,j,y,h2,h5,h6⟩⟩
structure Ym(k:Kr)(l':List Obj)(x:Obj):Prop where
 sm:x.sm
 d:x.data.length<=60
 q:∀q,q∈x.aj->q.has=true->fU k q.ct q.rts
 p:x.ah=5->∃n:Nat,x.aQ=n/\n<k.ps.length
 e:Ix l' x
 z:x.ah=0->x=dU
theorem KI.obj{k:Kr}(h:KI k){l':List Obj}(hm:∀(j:Nat)x,k.l[j]? =some x->x.ah≠0->∃y,l'[j]? =some y/\y.ah≠0){x:Obj}(hx:x∈k.l):Ym k l' x:=
 ⟨h.sm x hx,h.N0 x hx,h.qu x hx,h.pr x hx,(h.en x hx).mono hm,h.z x hx⟩
theorem fU.mono{k k':Kr}{z r:Int}(h:fU k z r)(ho:∀(n:Nat)o,k.ops[n]? =some o->gJ k.l o.obj->∃o',k'.ops[n]? =some o'/\gJ k'.l o'.obj):fU k' z r:=by obtain⟨h0,n,o,h1,h2,h3⟩:=h;obtain⟨o',h4,h5⟩:=ho n o h2 h3;exact⟨h0,n,o',h1,h4,h5⟩
theorem gJ.mono{l l':List Obj}{z:Int}(h:gJ l z)(hm:∀(j:Nat)x,l[j]? =some x->x.ah≠0->∃y,l'[j]? =some y/\y.ah≠0):gJ l' z:=by obtain⟨j,x,h1,h2,h3⟩:=h;obtain⟨y,h4,h5⟩:=hm j x h2 h3;exact⟨j,y,h1,h4,h5⟩
theorem KI.rM{k:Kr}(h:KI k){l':List Obj}(Ya:l'.length<=40)(hm:∀(j:Nat)x,k.l[j]? =some x->x.ah≠0->∃y,l'[j]? =some y/\y.ah≠0)(hx:∀x,x∈l'->Ym k l' x)(wu:∀(i:Nat)o,l'[i]? =some o->o.ah=4->o.aI= -1\/∃(j:Nat)(x:Obj),o.aI=j/\l'[j]? =some x/\x.ah=4/\x.aI=i)(ht:Tree (l'.map r9)):KI ⟨l',k.ops,k.ps⟩:=by
 have fc:∀z r,fU k z r->fU ⟨l',k.ops,k.ps⟩ z r:=λz r hc=>hc.mono λn o ho hi=>⟨o,ho,hi.mono hm⟩
 exact⟨Ya,h.lo,h.lp,λo ho=>(hx o ho).sm,h.sl,h.ne,h.aE,λx hx s hs hh=>fc _ _ (h.cap x hx s hs hh),λo ho q hq hh=>fc _ _ ((hx o ho).q q hq hh),λo ho=>(hx o ho).p,λo ho=>(hx o ho).e,λo ho=>(hx o ho).z,wu,h.dq,λo ho=>(hx o ho).d,ht⟩
theorem KI.Ie{k:Kr}(h:KI k){n:Nat}{o o':Obj}(ho:k.l[n]? =some o)(hs:o'.ah=o.ah/\o'.ag=o.ag/\o'.up=o.up/\o'.ak=o.ak/\o'.aI=o.aI/\o'.aQ=o.aQ)(hk:o.ah≠0)(s8:o'.sm)(hd:o'.data.length<=60)(hq:∀q,q∈o'.aj->q.has=true->fU k q.ct q.rts):KI ⟨k.l.set n o',k.ops,k.ps⟩:=by
 obtain⟨s1,s2,s3,s4,s5,s6⟩:=hs;have hn:=(Mp.1 ho).1;have get:∀i:Nat,(k.l.set n o')[i]? =if i=n then some o' else k.l[i]? :=λi=>by
  by_cases e:i=n
  .subst e;rw[if_pos rfl,aal hn]
  .rw[if_neg e,aap (λx=>e x.symm)]
 have hm:∀(j:Nat)x,k.l[j]? =some x->x.ah≠0->∃y,(k.l.set n o')[j]? =some y/\y.ah≠0:=λj x hx Yk=>by
  rw[get];by_cases e:j=n
  .rw[if_pos e];exact⟨o',rfl,by rw[s1];exact hk⟩
  .rw[if_neg e];exact⟨x,hx,Yk⟩
 have M3:=Wm ho;refine h.rM (by rw[abn];exact h.ll) hm (λx hx=>?_) (λi x hx h4=>?_) ?_
 .rcases abF hx with hx|rfl
  .exact h.obj hm hx
  .have he:=(h.en o M3).mono hm;have o7:dh x=dh o:=by unfold dh;rw[s2]
   exact⟨s8,hd,hq,λh5=>by rw[s6];exact h.pr o M3 (s1▸h5),⟨by rw[o7,s2];exact he.eq,by rw[o7];exact he.DO,λhn=>by rw[s2];exact he.dir (s1▸hn),λe hx=>he.to e (o7▸hx)⟩,λhz=>absurd (s1▸hz) hk⟩
 .have key:∀y:Obj,k.l[i]? =some y->y.ah=4->y.aI= -1\/∃(j:Nat)(x:Obj),y.aI=j/\(k.l.set n o')[j]? =some x/\x.ah=4/\x.aI=i:=λy hy M4=>by
   rcases h.pe i y hy M4 with h1|⟨j,z,h1,h2,h3,h4⟩
   .exact .inl h1
   .right;by_cases e:j=n
    .subst e;rw[ho]at h2;cases h2;exact⟨j,o',h1,by rw[get,if_pos rfl],by rw[s1];exact h3,by rw[s5];exact h4⟩
    .exact⟨j,z,h1,by rw[get,if_neg e];exact h2,h3,h4⟩
  rw[get]at hx;by_cases e:i=n
  .rw[if_pos e]at hx;cases hx;rw[s5];exact key o (e▸ho) (s1▸h4)
  .rw[if_neg e]at hx;exact key x hx h4
 .have:(k.l.set n o').map r9=k.l.map r9:=by
   apply acq;intro i;rw[Rn,Rn,get];by_cases e:i=n
   .subst e;rw[if_pos rfl,ho];show some _=some _;unfold r9 dh;rw[s1,s2,s3,s4]
   .rw[if_neg e]
  rw[this];exact h.p7
theorem gh{l:List Obj}{o:Obj}(h:(aH l o).2.2=0)(hl:l.length<=40):∃j:Nat,(aH l o).2.1=j/\(aH l o).1[j]? =some o/\(∀i,i≠j->(aH l o).1[i]? =l[i]?)/\(∀d,l[j]? =some d->d.ah=0)/\(aH l o).1.length<=40/\(∀x,x∈(aH l o).1->x∈l\/x=o):=by
 have hm:∀x,x∈(aH l o).1->x∈l\/x=o:=λx=>BB
 revert h hm;unfold aH;split
 .rename_i k hk;intro _ hm;have mC:=abw.1 hk;refine⟨k,rfl,aal mC.1,λi hi=>aap (λe=>hi e.symm),λd hd=>?_,by rw[abn];exact hl,λx hx=>hm x hx⟩
  rw[xm mC.1]at hd;cases hd;simpa using mC.2.1
 .split
  .intro h;cases h
  .rename_i Ya;intro _ hm;refine⟨l.length,rfl,by rw[aaO (aah _)];simp,λi hi=>?_,λd hd=>?_,by simp only[acs,aaY,acg];omega,λx hx=>hm x hx⟩
   .rcases aaD i l.length with h1|h1
    .exact aaM h1
    .rw[aaO h1,abk h1];cases e:i-l.length with
     |zero=>omega
     |succ n=>rfl
   .rw[abk (aah _)]at hd;cases hd
structure Q0(k:Kr)(o:Obj):Prop where
 sm:o.sm
 kd:o.ah≠0
 e:o.ag=[]
 q:o.aj=[]
 d:o.data.length<=60
 l:o.ak=0
 u:o.up=0
 pe:o.ah=4->o.aI= -1
 p:o.ah=5->∃n:Nat,o.aQ=n/\n<k.ps.length
theorem KI.make{k:Kr}(h:KI k){o:Obj}(ho:Q0 k o)(he:(aH k.l o).2.2=0):KI ⟨(aH k.l o).1,k.ops,k.ps⟩:=by
 obtain⟨j,_,h2,h3,h4,h5,h6⟩:=gh he h.ll;have hm:∀(i:Nat)x,k.l[i]? =some x->x.ah≠0->∃y,(aH k.l o).1[i]? =some y/\y.ah≠0:=λi x hx hk=>by
  by_cases e:i=j
  .subst e;exact absurd (h4 x hx) hk
  .exact⟨x,by rw[h3 i e];exact hx,hk⟩
 refine h.rM h5 hm (λx hx=>?_) (λi x hx L7=>?_) ?_
 .rcases h6 x hx with hx|rfl
  .exact h.obj hm hx
  .exact⟨ho.sm,ho.d,λq hq=>(by rw[ho.q]at hq;cases hq),ho.p,⟨(by unfold dh;rw[ho.e];rfl),(by unfold dh;rw[ho.e];exact List.Pairwise.nil),λ_=>ho.e,λe he=>(by unfold dh at he;rw[ho.e]at he;cases he)⟩,λhz=>absurd hz ho.kd⟩
 .by_cases e:i=j
  .subst e;rw[h2]at hx;cases hx;exact .inl (ho.pe L7)
  .rw[h3 i e]at hx;rcases h.pe i x hx L7 with a|⟨n,y,a1,a2,a3,a4⟩
   .exact .inl a
   .exact .inr ⟨n,y,a1,by rw[h3 n λe=>by subst e;have:=h4 y a2;omega];exact a2,a3,a4⟩
 .refine h.p7.new (k:=j) (s:=r9 o) ⟨ho.kd,ho.l,by unfold r9 dh;rw[ho.e];rfl,.inl ho.u⟩ (ij h2) (λi hi=>by rw[Rn,Rn,h3 i hi]) λd hd=>?_
  obtain⟨x,a1,rfl⟩:=pq hd;exact h4 x a1
theorem sS{l:List Obj}{z:Int}(h:mQ l z 0=true):gJ l z:=by unfold mQ gx at h;rw[aaJ,aaJ,decide_eq_true_eq,decide_eq_true_eq,P2]at h;obtain⟨h1,h2,h3⟩:=h;have hz:z.toNat<l.length:=om;rw[Rn,xm hz]at h3;simp only[aaS,aaJ]at h3;refine⟨z.toNat,l[z.toNat],om,xm hz,?_⟩;have:=h3.1;simpa[Obj.ob]using this
theorem nM{b:Bool}{l:List Obj}{dir obj:Int}{name:ByteArray}(h:(cn b l dir name obj).2=0):∃(n p:Nat)(o q:Obj),dir=n/\obj=p/\l[n]? =some o/\l[p]? =some q/\q.ah≠0/\o.ah=2/\o.ak≠0/\b=true/\
  ¬fq (dh o) name>=0/\o.ag.length<8/\(cn b l dir name obj).1=iP l n p name:=by
 have hr:=h;unfold cn at hr;by_cases h1:mQ l dir 0=true
 .rw[if_pos h1]at hr;by_cases h2:mQ l obj 0=true
  .rw[if_pos h2]at hr;obtain⟨n,o,rfl,hn,_⟩:=sS h1;obtain⟨p,q,rfl,hp,hq⟩:=sS h2;rw[aam,aam,hn]at hr;simp only[]at hr;have hR:cn b l n name p=wP b o (iP l n p name) name:=by unfold cn;rw[if_pos h1,if_pos h2,aam,aam,hn]
   unfold wP at hr;by_cases a1:o.ah≠2
   .rw[if_pos a1]at hr;cases hr
   rw[if_neg a1]at hr;by_cases a2:o.ak=0
   .rw[if_pos a2]at hr;cases hr
   rw[if_neg a2]at hr;by_cases a3:b=false
   .rw[if_pos a3]at hr;cases hr
   rw[if_neg a3]at hr;by_cases a4:fq (o.ag.map kN) name>=0
   .rw[if_pos a4]at hr;cases hr
   rw[if_neg a4]at hr;by_cases a5:o.ag.length>=8
   .rw[if_pos a5]at hr;cases hr
   exact⟨n,p,o,q,rfl,rfl,hn,hp,hq,by simpa using a1,a2,by simpa using a3,a4,om,by rw[hR,wP,if_neg a1,if_neg a2,if_neg a3,if_neg a4,if_neg a5]⟩
  .rw[if_neg h2]at hr;cases hr
 .rw[if_neg h1]at hr;cases hr
def sa(o:Obj)(name:ByteArray)(p:Nat):Obj:={o with ag:=(gw (name,(p:Int)) (dh o)).map bT}
def Kv(q:Obj)(n:Nat):Obj:={q with ak:=IntKind.i64.wrap (q.ak+1),up:=if q.ah=2 then(n:Int)else q.up}
theorem rD{l:List Obj}{n p:Nat}{o q:Obj}(hn:l[n]? =some o)(hp:l[p]? =some q)(uO:n≠p)(name:ByteArray):
  (iP l n p name)[n]? =some (sa o name p)/\(iP l n p name)[p]? =some (Kv q n)/\(∀j,j≠n->j≠p->(iP l n p name)[j]? =l[j]?)/\(iP l n p name).length=l.length:=by
 have lQ:=(Mp.1 hn).1;have fb:=(Mp.1 hp).1;have MV:(l.set n (sa o name p))[p]? =some q:=by rw[aap uO];exact hp
 have e:iP l n p name=(l.set n (sa o name p)).set p (Kv q n):=by
  unfold iP;rw[hn];simp only[];rw[show {o with ag:=(gw (name,(p:Int)) (o.ag.map kN)).map bT}=sa o name p from rfl,MV]
  rfl
 rw[e];refine⟨?_,?_,λj h1 h2=>?_,aG⟩
 .rw[aap uO.symm,aal lQ]
 .rw[aal (by simpa using fb)]
 .rw[aap (λe=>h2 e.symm),aap (λe=>h1 e.symm)]
theorem BR(x:NE):∀es:List NE,x∈gw x es
 | []=>by simp[gw]
 |e::r=>by
  rw[gw];split
  .simp
  .exact ad4 _ (BR x r)
theorem Fy{x y:NE}:∀{es:List NE},y∈es->y∈gw x es
 | [],h=>by cases h
 |e::r,h=>by
  rw[gw];split
  .exact ad4 _ h
  .rcases abH.1 h with rfl|h
   .simp
   .exact ad4 _ (Fy h)
theorem Iy{es:List NE}{name:ByteArray}(dQ:∀e,e∈es->0<=e.2)(h:¬fq es name>=0):∀e,e∈es->e.1.toList≠name.toList:=by
 rcases iw es name with⟨e,he,_,h2⟩|⟨_,h2⟩
 .have:=dQ e he;rw[h2]at h;omega
 .exact h2
theorem KI.enter{k:Kr}(h:KI k){b:Bool}{dir obj:Int}{name:ByteArray}(Jt:b=true->name.size<=12)(uM:∀(p:Nat)q,obj=p->k.l[p]? =some q->q.ak=0)(he:(cn b k.l dir name obj).2=0):KI ⟨(cn b k.l dir name obj).1,k.ops,k.ps⟩:=by
 obtain⟨n,p,o,q,rfl,rfl,hn,hp,Gn,k7,jE,hb,hf,h8,hR⟩:=nM he;have ZJ:=uM p q rfl hp;have uO:n≠p:=λe=>by subst e;rw[hn]at hp;cases hp;exact jE ZJ
 rw[hR];obtain⟨g1,g2,g3,g4⟩:=rD hn hp uO name;have M3:=Wm hn;have Ua:=Wm hp;have mJ:=h.en o M3;have M0:q.ag=[]:=by have:=h.p7.em p (r9 q) (ij hp) ZJ;have h2:=(h.en q Ua).eq;have this:dh q=[]:=this;rw[this]at h2;exact h2
 have wU:dh (sa o name p)=gw (name,(p:Int)) (dh o):=by unfold dh sa;exact iI _
 have Q1:dh (Kv q n)=dh q:=rfl;have hw:IntKind.i64.wrap (q.ak+1)=1:=by rw[ZJ];rfl
 have hm:∀(j:Nat)x,k.l[j]? =some x->x.ah≠0->∃y,(iP k.l n p name)[j]? =some y/\y.ah≠0:=λj x hx hk=>by
  by_cases e:j=n
  .subst e;rw[hn]at hx;cases hx;exact⟨_,g1,hk⟩
  .by_cases e2:j=p
   .subst e2;rw[hp]at hx;cases hx;exact⟨_,g2,hk⟩
   .exact⟨x,by rw[g3 j e e2];exact hx,hk⟩
 have rL:∀(i:Nat)x,(iP k.l n p name)[i]? =some x->(i=n/\x=sa o name p)\/(i=p/\x=Kv q n)\/(i≠n/\i≠p/\k.l[i]? =some x):=λi x hx=>by
  by_cases e:i=n
  .subst e;rw[g1]at hx;cases hx;exact .inl ⟨rfl,rfl⟩
  .by_cases e2:i=p
   .subst e2;rw[g2]at hx;cases hx;exact .inr (.inl ⟨rfl,rfl⟩)
   .rw[g3 i e e2]at hx;exact .inr (.inr ⟨e,e2,hx⟩)
 have dQ:∀e,e∈dh o->0<=e.2:=λe hx=>by obtain⟨_,j,_,h1,_⟩:=mJ.to e hx;omega
 refine h.rM (by rw[g4];exact h.ll) hm (λx hx=>?_) (λi x hx h4=>?_) ?_
 .obtain⟨i,hi⟩:=aag hx;rcases rL i x hi with⟨rfl,rfl⟩|⟨rfl,rfl⟩|⟨_,_,hx⟩
  .have hO:=h.obj hm M3;refine⟨⟨⟨hO.sm.t.1,⟨_,rfl⟩,hO.sm.t.2.2⟩,hO.sm.d,?_,hO.sm.q,hO.sm.qd⟩,hO.d,hO.q,hO.p,?_,λhz=>absurd hz (by rw[show(sa o name p).ah=o.ah from rfl,k7];decide)⟩
   .show((gw (name,(p:Int)) (dh o)).map bT).length<=8;rw[P2,EB,mJ.len];omega
   .refine⟨by rw[wU];rfl,by rw[wU];exact Pn mJ.DO (Iy dQ hf),λhk=>absurd k7 hk,λe hx=>?_⟩
    rw[wU]at hx;rcases qH hx with hx|rfl
    .exact hO.e.to e hx
    .exact⟨Jt hb,p,_,rfl,g2,Gn⟩
  .have hO:=h.obj hm Ua;exact⟨⟨hO.sm.t,hO.sm.d,hO.sm.e,hO.sm.q,hO.sm.qd⟩,hO.d,hO.q,hO.p,⟨hO.e.eq,hO.e.DO,hO.e.dir,hO.e.to⟩,λhz=>absurd hz Gn⟩
  .exact h.obj hm (Wm hx)
 .have key:∀(i:Nat)y,k.l[i]? =some y->y.ah=4->y.aI= -1\/∃(j:Nat)(x:Obj),y.aI=j/\(iP k.l n p name)[j]? =some x/\x.ah=4/\x.aI=i:=λi y hy M4=>by
   rcases h.pe i y hy M4 with h1|⟨j,z,h1,h2,h3,h4⟩
   .exact .inl h1
   .right;by_cases e:j=n
    .subst e;rw[hn]at h2;cases h2;omega
    .by_cases e2:j=p
     .subst e2;rw[hp]at h2;cases h2;exact⟨j,_,h1,g2,h3,h4⟩
     .exact⟨j,z,h1,by rw[g3 j e e2];exact h2,h3,h4⟩
  rcases rL i x hx with⟨rfl,rfl⟩|⟨rfl,rfl⟩|⟨_,_,hx⟩
  .exact key _ o hn h4
  .exact key _ q hp h4
  .exact key i x hx h4
 .refine h.p7.enter (nm:=name) (ij hn) (ij hp) jE ZJ Gn (ij g1) (ij g2) (λj a b=>by rw[Rn,Rn,g3 j a b]) ⟨rfl,rfl,rfl⟩ (λe=>?_) ⟨rfl,hw,Q1,rfl⟩
  show e∈dh (sa o name p)↔_;rw[wU];exact⟨qH,λhx=>hx.elim Fy λhx=>hx▸BR _ _⟩
end Kn
namespace Kn
theorem uw{l:List Obj}{dir:Int}{name:ByteArray}(h:(cO l dir name).2.2=0):∃(n k:Nat)(o q:Obj),dir=n/\l[n]? =some o/\o.ah=2/\fq (dh o) name=k/\l[k]? =some q/\¬(q.ah=2/\q.ag.length>0)/\
  (cO l dir name).1=kq l n k name/\(cO l dir name).2.1=k:=by
 have hr:=h;unfold cO at hr;by_cases h1:mQ l dir 0=true
 .rw[if_pos h1]at hr;obtain⟨n,o,rfl,hn,_⟩:=sS h1;rw[aam,hn]at hr;simp only[]at hr;have hR:cO l n name=wR o l n name:=by unfold cO;rw[if_pos h1,aam,hn]
  unfold wR at hr;by_cases a1:o.ah≠2
  .rw[if_pos a1]at hr;cases hr
  rw[if_neg a1]at hr;by_cases a2:fq (o.ag.map kN) name<0
  .rw[if_pos a2]at hr;cases hr
  rw[if_neg a2]at hr;cases hq:l[(fq (o.ag.map kN) name).toNat]? with
  |none=>rw[hq]at hr;cases hr
  |some q=>
   rw[hq]at hr;simp only[]at hr;by_cases a3:q.ah=2/\q.ag.length>0
   .rw[if_pos a3]at hr;cases hr
   have hk:fq (o.ag.map kN) name=((fq (o.ag.map kN) name).toNat:Nat):=om;refine⟨n,_,o,q,rfl,hn,by simpa using a1,hk,hq,a3,?_,?_⟩
   .rw[hR,wR,if_neg a1,if_neg a2,hq];simp only[if_neg a3]
   .rw[hR,wR,if_neg a1,if_neg a2,hq];simp only[if_neg a3];exact hk
 .rw[if_neg h1]at hr;cases hr
def uy(o:Obj)(name:ByteArray):Obj:={o with ag:=((dh o).filter λe=>decide (e.1.toList≠name.toList)).map bT}
def Kw(q:Obj)(p:Nat):Obj:={q with ak:=IntKind.i64.wrap (q.ak-1),up:=if q.ah=2 then(p:Int)else q.up}
theorem BS{l:List Obj}{n p:Nat}{o q:Obj}(hn:l[n]? =some o)(hp:l[p]? =some q)(uO:n≠p)(name:ByteArray):
  (kq l n p name)[n]? =some (uy o name)/\(kq l n p name)[p]? =some (Kw q p)/\(∀j,j≠n->j≠p->(kq l n p name)[j]? =l[j]?)/\(kq l n p name).length=l.length:=by
 have lQ:=(Mp.1 hn).1;have fb:=(Mp.1 hp).1;have MV:(l.set n (uy o name))[p]? =some q:=by rw[aap uO];exact hp
 have e:kq l n p name=(l.set n (uy o name)).set p (Kw q p):=by
  unfold kq;rw[hn];simp only[];rw[show {o with ag:=((o.ag.map kN).filter λe=>decide (e.1.toList≠name.toList)).map bT}=uy o name from rfl,MV]
  rfl
 rw[e];refine⟨?_,?_,λj h1 h2=>?_,aG⟩
 .rw[aap uO.symm,aal lQ]
 .rw[aal (by simpa using fb)]
 .rw[aap (λe=>h2 e.symm),aap (λe=>h1 e.symm)]
theorem KI.zI{k:Kr}(h:KI k){dir:Int}{name:ByteArray}(he:(cO k.l dir name).2.2=0):KI ⟨(cO k.l dir name).1,k.ops,k.ps⟩:=by
 obtain⟨n,p,o,q,rfl,hn,k7,hf,hp,M0,hR,_⟩:=uw he;have M3:=Wm hn;have Ua:=Wm hp;have mJ:=h.en o M3;obtain⟨e0,wK,SO,hep⟩:∃e0,e0∈dh o/\e0.1.toList=name.toList/\e0.2=(p:Int):=by
  rcases iw (dh o) name with⟨e,a1,a2,a3⟩|⟨a3,_⟩
  .exact⟨e,a1,a2,om⟩
  .omega
 have ZJ:q.ag=[]:=by
  by_cases hk:q.ah=2
  .exact aaW (by
    have:=λh=>M0 ⟨hk,h⟩
    omega)
  .exact(h.en q Ua).dir hk
 have hqn:dh q=[]:=by unfold dh;rw[ZJ];rfl
 have uO:n≠p:=λe=>by subst e;rw[hn]at hp;cases hp;rw[hqn]at wK;cases wK
 obtain⟨p',x,b1,_,b3,Gn,JN,_⟩:=h.p7.tr n (r9 o) e0 (ij hn) wK;have:p'=p:=om;subst this;rw[ij hp]at b3;cases b3;have Gn:q.ah≠0:=Gn;have JN:q.ak=1:=JN;rw[hR];obtain⟨g1,g2,g3,g4⟩:=BS hn hp uO name;have wU:dh (uy o name)=(dh o).filter λe=>decide (e.1.toList≠name.toList):=by
  show((((dh o).filter λe=>decide (e.1.toList≠name.toList)).map bT).map kN)=_
  exact iI _
 have lE:∀e,e∈dh (uy o name)↔e∈dh o/\e≠e0:=λe=>by rw[wU,adD,decide_eq_true_eq];refine⟨λ⟨a,b⟩=>⟨a,λe1=>by subst e1;exact b SO⟩,λ⟨a,b⟩=>⟨a,λe1=>b (yK mJ.DO a wK (e1.trans SO.symm))⟩⟩
 have Q1:dh (Kw q p')=[]:=hqn;have hw:IntKind.i64.wrap (q.ak-1)=0:=by rw[JN];rfl
 have hm:∀(j:Nat)x,k.l[j]? =some x->x.ah≠0->∃y,(kq k.l n p' name)[j]? =some y/\y.ah≠0:=λj x hx hk=>by
  by_cases e:j=n
  .subst e;rw[hn]at hx;cases hx;exact⟨_,g1,hk⟩
  .by_cases e2:j=p'
   .subst e2;rw[hp]at hx;cases hx;exact⟨_,g2,hk⟩
   .exact⟨x,by rw[g3 j e e2];exact hx,hk⟩
 have rL:∀(i:Nat)x,(kq k.l n p' name)[i]? =some x->(i=n/\x=uy o name)\/(i=p'/\x=Kw q p')\/(i≠n/\i≠p'/\k.l[i]? =some x):=λi x hx=>by
  by_cases e:i=n
  .subst e;rw[g1]at hx;cases hx;exact .inl ⟨rfl,rfl⟩
  .by_cases e2:i=p'
   .subst e2;rw[g2]at hx;cases hx;exact .inr (.inl ⟨rfl,rfl⟩)
   .rw[g3 i e e2]at hx;exact .inr (.inr ⟨e,e2,hx⟩)
 refine h.rM (by rw[g4];exact h.ll) hm (λx hx=>?_) (λi x hx h4=>?_) ?_
 .obtain⟨i,hi⟩:=aag hx;rcases rL i x hi with⟨rfl,rfl⟩|⟨rfl,rfl⟩|⟨_,_,hx⟩
  .have hO:=h.obj hm M3;refine⟨⟨⟨hO.sm.t.1,⟨_,rfl⟩,hO.sm.t.2.2⟩,hO.sm.d,?_,hO.sm.q,hO.sm.qd⟩,hO.d,hO.q,hO.p,?_,λhz=>absurd hz (by rw[show(uy o name).ah=o.ah from rfl,k7];decide)⟩
   .show(((dh o).filter λe=>decide (e.1.toList≠name.toList)).map bT).length<=8
    rw[P2];have:=adt (λe:NE=>decide (e.1.toList≠name.toList)) (dh o)
    have:=mJ.len;have:=hO.sm.e;omega
   .exact⟨by rw[wU];rfl,by rw[wU];exact mJ.DO.filter _,λhk=>absurd k7 hk,λe hx=>hO.e.to e ((lE e).1 hx).1⟩
  .have hO:=h.obj hm Ua;exact⟨⟨hO.sm.t,hO.sm.d,hO.sm.e,hO.sm.q,hO.sm.qd⟩,hO.d,hO.q,hO.p,⟨hO.e.eq,hO.e.DO,hO.e.dir,hO.e.to⟩,λhz=>absurd hz Gn⟩
  .exact h.obj hm (Wm hx)
 .have key:∀(i:Nat)y,k.l[i]? =some y->y.ah=4->y.aI= -1\/∃(j:Nat)(x:Obj),y.aI=j/\(kq k.l n p' name)[j]? =some x/\x.ah=4/\x.aI=i:=λi y hy M4=>by
   rcases h.pe i y hy M4 with h1|⟨j,z,h1,h2,h3,h4⟩
   .exact .inl h1
   .right;by_cases e:j=n
    .subst e;rw[hn]at h2;cases h2;omega
    .by_cases e2:j=p'
     .subst e2;rw[hp]at h2;cases h2;exact⟨j,_,h1,g2,h3,h4⟩
     .exact⟨j,z,h1,by rw[g3 j e e2];exact h2,h3,h4⟩
  rcases rL i x hx with⟨rfl,rfl⟩|⟨rfl,rfl⟩|⟨_,_,hx⟩
  .exact key _ o hn h4
  .exact key _ q hp h4
  .exact key i x hx h4
 .exact h.p7.zI (ij hn) wK hep (ij hp) hqn (ij g1) (ij g2) (λj a b=>by rw[Rn,Rn,g3 j a b]) ⟨rfl,rfl,rfl⟩ lE ⟨rfl,hw,Q1,rfl⟩
theorem Q2(k:Kr):Q0 k (bn (-1)):=⟨⟨⟨⟨[],rfl⟩,⟨[],rfl⟩,by simp[bn]⟩,by simp[bn],by simp[bn],by simp[bn],by simp[bn]⟩,by simp[bn],rfl,rfl,by simp[bn],rfl,rfl,λ_=>rfl,λh=>by simp[bn]at h⟩
structure acm(l:List Obj)(P:List Obj×(Int×Int)×Int)(a b:Nat):Prop where
 ea:P.2.1.1=a
 eb:P.2.1.2=b
 ab:a≠b
 za:∀d,l[a]? =some d->d.ah=0
 zb:∀d,l[b]? =some d->d.ah=0
 ga:P.1[a]? =some (bn b)
 gb:P.1[b]? =some (bn a)
 go:∀i,i≠a->i≠b->P.1[i]? =l[i]?
 m:∀x,x∈P.1->x∈l\/x=bn b\/x=bn a
 ll:P.1.length<=40
theorem zJ{l:List Obj}(hl:l.length<=40)(h:(dL l).2.2=0):(aH l (bn (-1))).2.2=0/\∃a b:Nat,(aH l (bn (-1))).2.1=a/\acm l (dL l) a b/\(∀d,(aH l (bn (-1))).1[b]? =some d->d.ah=0):=by
 unfold dL at h;by_cases h1:(aH l (bn (-1))).2.2=0
 .refine⟨h1,?_⟩;rw[if_neg (by simp[h1])]at h
  obtain⟨a,e1,a2,a3,a4,a5,a6⟩:=gh h1 hl;by_cases h2:(aH (aH l (bn (-1))).1 (bn (aH l (bn (-1))).2.1)).2.2=0
  .obtain⟨b,b1,b2,b3,b4,b5,b6⟩:=gh h2 a5;have CO:a≠b:=λe=>by subst e;have:=b4 _ a2;simp[bn]at this
   have hP:dL l=(jg (aH (aH l (bn (-1))).1 (bn (aH l (bn (-1))).2.1)).1 a b,((a:Int),(b:Int)),0):=by
    rw[dL,if_neg (by simp[h1]),if_neg (by simp[h2]),e1]
    rw[e1]at b1;rw[b1,aam]
   rw[e1]at b2 b3 hP b5 b6;have ha:(aH (aH l (bn (-1))).1 (bn (a:Int))).1[a]? =some (bn (-1)):=by rw[b3 a CO];exact a2
   have hal:=(Mp.1 ha).1;have Av:jg (aH (aH l (bn (-1))).1 (bn (a:Int))).1 a b=(aH (aH l (bn (-1))).1 (bn (a:Int))).1.set a (bn b):=by rw[jg,ha];rfl
   rw[Av]at hP;refine⟨a,b,e1,?_,b4⟩;rw[hP];refine⟨rfl,rfl,CO,a4,λd hd=>b4 d (by rw[a3 b (λe=>CO e.symm)];exact hd),aal hal,by rw[aap CO];exact b2,λi h3 h4=>by rw[aap (λe=>h3 e.symm),b3 i h4,a3 i h3],λx hx=>?_,by rw[abn];exact b5⟩
   rcases abF hx with hx|hx
   .rcases b6 x hx with hx|hx
    .rcases a6 x hx with hx|hx
     .exact .inl hx
     .obtain⟨i,hi⟩:=aag (show x∈(aH (aH l (bn (-1))).1 (bn (a:Int))).1.set a (bn b)from by assumption)
      by_cases ea:i=a
      .subst ea;rw[aal hal]at hi;cases hi;exact .inr (.inl rfl)
      .rw[aap (λe=>ea e.symm)]at hi
       by_cases eb:i=b
       .subst eb;rw[b2]at hi;cases hi;exact .inr (.inr rfl)
       .rw[b3 i eb,a3 i ea]at hi;exact .inl (Wm hi)
    .exact .inr (.inr hx)
   .exact .inr (.inl hx)
  .rw[if_pos h2]at h;exact absurd h h2
 .rw[if_pos h1]at h;exact absurd h h1
theorem KI.Fz{k:Kr}(h:KI k)(he:(dL k.l).2.2=0):KI ⟨(dL k.l).1,k.ops,k.ps⟩/\gJ (dL k.l).1 (dL k.l).2.1.1/\gJ (dL k.l).1 (dL k.l).2.1.2:=by
 obtain⟨h1,a,b,e1,P,hzb⟩:=zJ h.ll he;have h2:=h.make (Q2 k) h1;obtain⟨a',e1',a2,a3,a4,a5,a6⟩:=gh h1 h.ll;have:a'=a:=om;subst this;have hEK:∀p:Int,Ym k (dL k.l).1 (bn p):=λp=>⟨⟨⟨⟨[],rfl⟩,⟨[],rfl⟩,by simp[bn]⟩,by simp[bn],by simp[bn],by simp[bn],by simp[bn]⟩,by simp[bn],by simp[bn],λh=>by simp[bn]at h,⟨rfl,List.Pairwise.nil,λ_=>rfl,λe he=>by cases he⟩,λh=>by simp[bn]at h⟩
 have hm:∀(j:Nat)x,k.l[j]? =some x->x.ah≠0->∃y,(dL k.l).1[j]? =some y/\y.ah≠0:=λj x hx hk=>by
  have ea:j≠a':=λe=>by subst e;exact hk (P.za x hx)
  have eb:j≠b:=λe=>by subst e;exact hk (P.zb x hx)
  exact⟨x,by rw[P.go j ea eb];exact hx,hk⟩
 refine⟨h.rM P.ll hm (λx hx=>?_) (λi x hx h4=>?_) ?_,⟨a',_,P.ea,P.ga,by simp[bn]⟩,⟨b,_,P.eb,P.gb,by simp[bn]⟩⟩
 .rcases P.m x hx with hx|rfl|rfl
  .exact h.obj hm hx
  .exact hEK _
  .exact hEK _
 .by_cases ea:i=a'
  .subst ea;rw[P.ga]at hx;cases hx;exact .inr ⟨b,_,rfl,P.gb,rfl,rfl⟩
  .by_cases eb:i=b
   .subst eb;rw[P.gb]at hx;cases hx;exact .inr ⟨a',_,rfl,P.ga,rfl,rfl⟩
   .rw[P.go i ea eb]at hx;rcases h.pe i x hx h4 with c|⟨j,y,c1,c2,c3,c4⟩
    .exact .inl c
    .refine .inr ⟨j,y,c1,?_,c3,c4⟩;rw[P.go j (λe=>by subst e;have:=P.za y c2;omega) (λe=>by subst e;have:=P.zb y c2;omega)]
     exact c2
 .refine h2.p7.new (k:=b) (s:=r9 (bn a')) ⟨by simp[r9,bn],rfl,rfl,.inl rfl⟩ (ij P.gb) (λj hj=>?_) λd hd=>?_
  .rw[Rn,Rn];by_cases ea:j=a'
   .subst ea;rw[P.ga,a2];rfl
   .rw[P.go j ea hj,a3 j ea]
  .obtain⟨x,c1,rfl⟩:=pq hd;exact hzb x c1
theorem zK{l:List Obj}{e:Int}{m:cJ}(h:(dS l e m).2=0):∃(n p:Nat)(o q:Obj),e=n/\l[n]? =some o/\o.ah=4/\o.aI=p/\l[p]? =some q/\q.ah=4/\m.data.length<=60/\q.aj.length<4/\(dS l e m).1=l.set p {q with aj:=q.aj++ [m]}:=by
 have hr:=h;unfold dS at hr;by_cases h1:e<0\/e>=l.length
 .rw[if_pos h1]at hr;cases hr
 rw[if_neg h1]at hr;have hn:e.toNat<l.length:=om;have k6:=xm hn;rw[k6]at hr;simp only[]at hr;by_cases h2:l[e.toNat].ah≠4
 .rw[if_pos h2]at hr;cases hr
 rw[if_neg h2]at hr;by_cases h3:l[e.toNat].aI<0\/l[e.toNat].aI>=l.length
 .rw[if_pos h3]at hr;cases hr
 rw[if_neg h3]at hr;have hp:l[e.toNat].aI.toNat<l.length:=om;have hpo:=xm hp;rw[hpo]at hr;simp only[]at hr;by_cases h4:l[l[e.toNat].aI.toNat].ah≠4
 .rw[if_pos h4]at hr;cases hr
 rw[if_neg h4]at hr;by_cases h5:m.data.length>60
 .rw[if_pos h5]at hr;cases hr
 rw[if_neg h5]at hr;by_cases h6:l[l[e.toNat].aI.toNat].aj.length>=4
 .rw[if_pos h6]at hr;cases hr
 refine⟨e.toNat,l[e.toNat].aI.toNat,_,_,om,k6,by simpa using h2,om,hpo,by simpa using h4,om,om,?_⟩
 rw[dS,if_neg h1,k6];simp only[];rw[if_neg h2,if_neg h3,hpo];simp only[];rw[if_neg h4,if_neg h5,if_neg h6]
theorem KI.send{k:Kr}(h:KI k){e:Int}{m:cJ}(ht:m.Sj)(hc:m.has=true->fU k m.ct m.rts)(he:(dS k.l e m).2=0):KI ⟨(dS k.l e m).1,k.ops,k.ps⟩:=by
 obtain⟨n,p,o,q,_,_,_,_,hp,hq4,Zv,JN,hR⟩:=zK he;have Ua:=Wm hp;have hs:=h.sm q Ua;rw[hR];refine h.Ie hp ⟨rfl,rfl,rfl,rfl,rfl,rfl⟩ om ⟨⟨hs.t.1,hs.t.2.1,λx hx=>?_⟩,hs.d,hs.e,?_,λx hx=>?_⟩ (h.N0 q Ua) λx hx hh=>?_
 .rcases abJ.1 hx with hx|hx
  .exact hs.t.2.2 x hx
  .simp at hx;subst hx;exact ht
 .simp only[acs,aaY,acg];omega
 .rcases abJ.1 hx with hx|hx
  .exact hs.qd x hx
  .simp at hx;subst hx;omega
 .rcases abJ.1 hx with hx|hx
  .exact h.qu q Ua x hx hh
  .simp at hx;subst hx;exact hc hh
theorem pu{l:List Obj}{e:Int}(h:(eS l e).2.2=0):∃(n:Nat)(o:Obj)(x:cJ)(r:List cJ),e=n/\l[n]? =some o/\o.ah=4/\o.aj=x::r/\(eS l e).1=l.set n {o with aj:=r}/\(eS l e).2.1=x:=by
 have hr:=h;unfold eS at hr;by_cases h1:e<0\/e>=l.length
 .rw[if_pos h1]at hr;cases hr
 rw[if_neg h1]at hr;have hn:e.toNat<l.length:=om;have k6:=xm hn;rw[k6]at hr;simp only[]at hr;by_cases h2:l[e.toNat].ah≠4
 .rw[if_pos h2]at hr;cases hr
 rw[if_neg h2]at hr;have hR:eS l e=(match l[e.toNat].aj with
  | []=>if l[e.toNat].aI<0\/l[e.toNat].aI>=l.length then([],oA,17)else match l[l[e.toNat].aI.toNat]? with
   |none=>([],oA,17)
   |some q=>if q.ah≠4 then([],oA,17)else([],oA,16)
  |x::r=>(l.set e.toNat {l[e.toNat]with aj:=r},x,0)):=by
  rw[eS,if_neg h1,k6];simp only[];rw[if_neg h2];rfl
 cases hq:l[e.toNat].aj with
 |nil=>
  rw[hq]at hr;simp only[]at hr;split at hr
  .cases hr
  .split at hr
   .cases hr
   .split at hr<;>cases hr
 |cons x r=>
  rw[hq]at hR;refine⟨e.toNat,_,x,r,om,k6,by simpa using h2,hq,?_,?_⟩<;>rw[hR]
theorem KI.recv{k:Kr}(h:KI k){e:Int}(he:(eS k.l e).2.2=0):KI ⟨(eS k.l e).1,k.ops,k.ps⟩/\((eS k.l e).2.1.has=true->fU k (eS k.l e).2.1.ct (eS k.l e).2.1.rts):=by
 obtain⟨n,o,x,r,_,hn,ho4,hq,hR,hx⟩:=pu he;have M3:=Wm hn;have hs:=h.sm o M3;rw[hR,hx];have sy:∀y,y∈r->y∈o.aj:=λy hy=>by rw[hq];exact ad4 _ hy
 refine⟨h.Ie hn ⟨rfl,rfl,rfl,rfl,rfl,rfl⟩ om ⟨⟨hs.t.1,hs.t.2.1,λy hy=>hs.t.2.2 y (sy y hy)⟩,hs.d,hs.e,?_,λy hy=>hs.qd y (sy y hy)⟩ (h.N0 o M3) λy hy hh=>h.qu o M3 y (sy y hy) hh,λhh=>h.qu o M3 x (by rw[hq];simp) hh⟩
 have:=hs.q;rw[hq]at this;simp only[aaY]at this|-;omega
end Kn
def Obj.AF(o:Obj):Ob:=⟨o.ah,o.data,o.ag,o.target,o.aI,noD,o.aQ,o.ak,o.up⟩
def bN(l:List Obj):List Ob:=l.map Obj.AF
theorem fN(l:List Obj):(bN l).length=l.length:=P2 _
theorem Kz{l:List Obj}{k:Nat}(h:k<l.length):(bN l)[k]'(by rw[fN];exact h)=l[k].AF:=List.getElem_map ..
def Ub:List aM:=[⟨true,false,0,[]⟩,⟨true,false,0,[]⟩,⟨true,false,0,[]⟩]
structure GB(n:Nat)(l:List Obj):Prop where
 ki:Kn.KI ⟨l,[],Ub⟩
 nz:∀o,o∈l->o.ah≠0
 q:∀o,o∈l->o.aj=[]
 pn:∀o,o∈l->o.ah=5->o.aQ<(n:Int)
theorem GB.mono{n n':Nat}{l:List Obj}(g:GB n l)(h:n<=n'):GB n' l:=⟨g.ki,g.nz,g.q,λo ho hk=>by have:=g.pn o ho hk;omega⟩
theorem zL{l:List Obj}(h:∀o,o∈l->o.ah≠0)(hl:l.length<40)(o:Obj):aH l o=(l++ [o],(l.length:Int),0):=by
 have hf:l.findIdx? (λx=>x.ah==0)=none:=ady.2 λx hx=>by simpa using h x hx
 rw[aH,hf];simp only[];rw[if_neg om]
theorem Q3{l:List Ob}{o:Ob}:fY l (l.length:Nat) o=l++ [o]:=by rw[fY,if_pos rfl]
theorem Q4{l:List Obj}(h:∀o,o∈l->o.ah≠0)(hl:l.length<40)(o:Obj):jh (bN l) o.AF=(bN (l++ [o]),(l.length:Int),0):=by
 have hf:pa (bN l)=(bN l).length:=yL λj x _ hx=>by obtain⟨y,hy,rfl⟩:=abm.1 (Wm hx);exact h y hy
 rw[jh,hf,if_neg (by rw[fN];omega),Q3,fN]
 simp[bN]
theorem GB.len{n:Nat}{l:List Obj}(g:GB n l):l.length<=40:=g.ki.ll
structure M7(n:Nat)(o:Obj):Prop where
 nw:∀l,Kn.Q0 ⟨l,[],Ub⟩ o
 p:o.ah=5->o.aQ<(n:Int)
theorem GB.aco{n:Nat}{l:List Obj}(g:GB n l){o:Obj}(ho:M7 n o)(hk:Kn.KI ⟨l++ [o],[],Ub⟩):GB n (l++ [o]):=
 ⟨hk,λx hx=>by
  rcases abJ.1 hx with hx|hx
  .exact g.nz x hx
  .rw[acn.1 hx];exact(ho.nw l).kd,λx hx=>by
  rcases abJ.1 hx with hx|hx
  .exact g.q x hx
  .rw[acn.1 hx];exact(ho.nw l).q,λx hx h5=>by
  rcases abJ.1 hx with hx|hx
  .exact g.pn x hx h5
  .rw[acn.1 hx]at h5|-;exact ho.p h5⟩
theorem GB.ve{n:Nat}{l:List Obj}(g:GB n l)(hl:l.length<40){o:Obj}(ho:M7 n o):GB n (l++ [o]):=by
 refine g.aco ho ?_;have e:=zL g.nz hl o;have:=g.ki.make (ho.nw l) (by rw[e])
 rw[e]at this;exact this
theorem GB.self{n:Nat}{l:List Obj}(g:GB n l)(hl:l.length<40){o:Obj}(ho:M7 n o):GB n (l++ [{o with up:=(l.length:Int)}]):=by
 have g1:=g.ve hl ho;have N:=ho.nw l;have get:∀i,(l++ [{o with up:=(l.length:Int)}])[i]? =if i=l.length then some {o with up:=(l.length:Int)}else l[i]? :=λi=>by
  by_cases e:i=l.length
  .subst e;rw[if_pos rfl];simp
  .rw[if_neg e];rcases aaD i l.length with h|h
   .rw[aaM h]
   .rw[abk (by simp;omega),abk h]
 have hm:∀(j:Nat)x,l[j]? =some x->x.ah≠0->∃y,(l++ [{o with up:=(l.length:Int)}])[j]? =some y/\y.ah≠0:=λj x hx hk=>by
  have hj:=(Mp.1 hx).1;exact⟨x,by rw[get,if_neg om];exact hx,hk⟩
 have hk:Kn.KI ⟨l++ [{o with up:=(l.length:Int)}],[],Ub⟩:=by
  refine g.ki.rM (by simp;omega) hm (λx hx=>?_) (λi x hx h4=>?_) ?_
  .rcases abJ.1 hx with hx|hx
   .exact g.ki.obj hm hx
   .rw[acn.1 hx];have hs:=N.sm;exact⟨⟨hs.t,hs.d,hs.e,hs.q,hs.qd⟩,N.d,λq hq=>(by have hq:q∈o.aj:=hq;rw[N.q]at hq;cases hq),N.p,⟨(by unfold Kn.dh;rw[show({o with up:=(l.length:Int)}:Obj).ag=[]from N.e];rfl),(by unfold Kn.dh;rw[show({o with up:=(l.length:Int)}:Obj).ag=[]from N.e];exact List.Pairwise.nil),λ_=>N.e,λe he=>(by unfold Kn.dh at he;rw[show({o with up:=(l.length:Int)}:Obj).ag=[]from N.e]at he;cases he)⟩,λhz=>absurd hz N.kd⟩
  .rw[get]at hx;split at hx
   .cases hx;exact .inl (N.pe h4)
   .rcases g.ki.pe i x hx h4 with a|⟨j,y,a1,a2,a3,a4⟩
    .exact .inl a
    .have hj:=(Mp.1 (show l[j]? =some y from a2)).1;exact .inr ⟨j,y,a1,by rw[get,if_neg om];exact a2,a3,a4⟩
  .refine g.ki.p7.new (k:=l.length) (s:=Kn.r9 {o with up:=(l.length:Int)}) ⟨N.kd,N.l,(by unfold Kn.r9 Kn.dh;rw[show({o with up:=(l.length:Int)}:Obj).ag=[]from N.e];rfl),.inr rfl⟩ (by rw[Rn,get,if_pos rfl];rfl) (λi hi=>by rw[Rn,Rn,get,if_neg hi]) λd hd=>?_
   rw[abk aG]at hd;cases hd
 refine⟨hk,λx hx=>?_,λx hx=>?_,λx hx h5=>?_⟩
 all_goals rcases abJ.1 hx with hx|hx
 .exact g.nz x hx
 .rw[acn.1 hx];exact N.kd
 .exact g.q x hx
 .rw[acn.1 hx];exact N.q
 .exact g.pn x hx h5
 .rw[acn.1 hx]at h5|-;exact ho.p h5
theorem Q5(l:List Obj)(n p:Nat)(name:ByteArray):CJ (bN l) n p name=bN (iP l n p name):=by
 unfold CJ iP bN;rw[Rn];cases hn:l[n]? with
 |none=>rfl
 |some o=>
  simp only[aaS];have e:({o.AF with ag:=(gw (name,(p:Int)) (o.AF.ag.map kN)).map bT}:Ob)=Obj.AF {o with ag:=(gw (name,(p:Int)) (o.ag.map kN)).map bT}:=rfl
  rw[e,<-acF,Rn];cases hp:(l.set n {o with ag:=(gw (name,(p:Int)) (o.ag.map kN)).map bT})[p]? with
  |none=>rfl
  |some q=>
   simp only[aaS,acF];rfl
theorem KA(l:List Obj)(k c:Int):gx (bN l) k c=mQ l k c:=by
 unfold mQ gx bN;rw[P2,P2,Rn,Rn];cases l[k.toNat]? <;>rfl
theorem Iz(b:Bool)(l:List Obj)(dir:Int)(name:ByteArray)(obj:Int):jL b (bN l) dir name obj=(bN (cn b l dir name obj).1,(cn b l dir name obj).2):=by
 unfold jL cn;rw[KA,KA];by_cases h1:mQ l dir 0=true
 .rw[if_pos h1,if_pos h1];by_cases h2:mQ l obj 0=true
  .rw[if_pos h2,if_pos h2,bN,Rn];cases hn:l[dir.toNat]? with
   |none=>rfl
   |some o=>
    simp only[aaS];rw[<-bN,Q5];unfold nU wP;show(if o.ah≠2 then _ else if o.ak=0 then _ else if b=false then _ else if fq (o.ag.map kN) name>=0 then _ else if o.ag.length>=8 then _ else _)=_
    by_cases a1:o.ah≠2
    .rw[if_pos a1,if_pos a1];rfl
    rw[if_neg a1,if_neg a1];by_cases a2:o.ak=0
    .rw[if_pos a2,if_pos a2];rfl
    rw[if_neg a2,if_neg a2];by_cases a3:b=false
    .rw[if_pos a3,if_pos a3];rfl
    rw[if_neg a3,if_neg a3];by_cases a4:fq (o.ag.map kN) name>=0
    .rw[if_pos a4,if_pos a4];rfl
    rw[if_neg a4,if_neg a4];by_cases a5:o.ag.length>=8
    .rw[if_pos a5,if_pos a5];rfl
    rw[if_neg a5,if_neg a5]
  .rw[if_neg h2,if_neg h2];rfl
 .rw[if_neg h1,if_neg h1];rfl
theorem GB.enter{n:Nat}{l:List Obj}(g:GB n l){b:Bool}{dir obj:Int}{name:ByteArray}(hn:name.size<=12)(uM:∀(p:Nat)q,obj=p->l[p]? =some q->q.ak=0)(he:(cn b l dir name obj).2=0):GB n (cn b l dir name obj).1/\(cn b l dir name obj).1.length=l.length:=by
 obtain⟨d,p,o,q,_,_,hd,hp,Gn,k7,_,_,_,_,hR⟩:=Kn.nM he;have hk:=g.ki.enter (λ_=>hn) uM he
 have uO:d≠p:=λe=>by
  subst e;rw[hd]at hp;cases hp;have:o.ak=0:=uM d o (by assumption) hd
  contradiction
 obtain⟨g1,g2,g3,g4⟩:=Kn.rD hd hp uO name;have hx:∀x,x∈(cn b l dir name obj).1->∃y,y∈l/\x.ah=y.ah/\x.aj=y.aj/\x.aQ=y.aQ:=λx hx=>by
  rw[hR]at hx;obtain⟨i,hi⟩:=aag hx;by_cases e:i=d
  .subst e;rw[g1]at hi;cases hi;exact⟨o,Wm hd,rfl,rfl,rfl⟩
  .by_cases e2:i=p
   .subst e2;rw[g2]at hi;cases hi;exact⟨q,Wm hp,rfl,rfl,rfl⟩
   .rw[g3 i e e2]at hi;exact⟨x,Wm hi,rfl,rfl,rfl⟩
 refine⟨⟨hk,λx h=>?_,λx h=>?_,λx h h5=>?_⟩,by rw[hR];exact g4⟩
 all_goals obtain⟨y,y1,y2,y3,y4⟩:=hx x h
 .rw[y2];exact g.nz y y1
 .rw[y3];exact g.q y y1
 .rw[y4];exact g.pn y y1 (by rw[<-y2];exact h5)
theorem GB.toE{n:Nat}{l:List Obj}(g:GB n l):JP (bN l):=by
 refine⟨by rw[fN];exact g.len,λx hx=>?_,λx hx=>?_⟩
 all_goals obtain⟨o,ho,rfl⟩:=abm.1 hx
 .have:=g.ki.sm o ho;exact⟨⟨trivial,this.t.2.1⟩,this.e⟩
 .have e:=g.ki.en o ho;refine⟨_,e.eq,e.DO,λx hx=>?_,λh=>?_⟩
  .obtain⟨_,j,y,h1,h2,_⟩:=e.to x hx;have:=(Mp.1 (show l[j]? =some y from h2)).1;rw[fN];omega
  .have h2:=e.eq;rw[e.dir h]at h2;cases hc:Kn.dh o with
   |nil=>rfl
   |cons a r=>rw[hc]at h2;cases h2
theorem Q6{l:List Obj}(h:∀o,o∈l->o.ah≠0)(hl:l.length<39):dL l=(l++ [bn ((l.length+1:Nat):Int),bn (l.length:Int)],((l.length:Int),((l.length+1:Nat):Int)),0):=by
 have e1:=zL h om (bn (-1));have e2:=zL (l:=l++ [bn (-1)]) (λo ho=>by
  rcases abJ.1 ho with ho|ho
  .exact h o ho
  .rw[acn.1 ho];simp[bn]) (by simp;omega) (bn (l.length:Int))
 rw[dL,e1];simp only[];rw[e2];simp only[ne_eq,not_true_eq_false,if_false];rw[aam,jg];have e3:(l++ [bn (-1)]++ [bn (l.length:Int)])[l.length]? =some (bn (-1)):=aG;rw[e3];simp only[acs,aaY,acg];congr 1;rw[adN,adT _ _ (aah _)];simp[bn]
theorem GB.Fz{n:Nat}{l:List Obj}(g:GB n l)(hl:l.length<39):GB n (l++ [bn ((l.length+1:Nat):Int),bn (l.length:Int)]):=by
 have e:=Q6 g.nz hl;have hk:=(g.ki.Fz (by rw[e])).1
 rw[e]at hk;have hx:∀x,x∈l++ [bn ((l.length+1:Nat):Int),bn (l.length:Int)]->x∈l\/∃p,x=bn p:=λx hx=>by
  rcases abJ.1 hx with hx|hx
  .exact .inl hx
  .simp only[abH,adA,or_false]at hx;rcases hx with rfl|rfl
   .exact .inr ⟨_,rfl⟩
   .exact .inr ⟨_,rfl⟩
 refine⟨hk,λx h=>?_,λx h=>?_,λx h h5=>?_⟩
 all_goals rcases hx x h with h|⟨p,rfl⟩
 .exact g.nz x h
 .simp[bn]
 .exact g.q x h
 .rfl
 .exact g.pn x h h5
 .simp[bn]at h5
structure Uc(n:Nat)(ops:List aV):Prop where
 l:ops.length<=60
 o:∀o,o∈ops->(∃j:Nat,o.obj=j/\j<n)/\0<=o.dq/\o.dq<=64
def IA(n:Nat)(z r:Int):Prop:=(0<=r/\r<=4095)/\∃j:Nat,z=j/\j<n
structure PrB(n m:Nat)(ps:List aM):Prop where
 l:ps.length=n
 n1:1<=n
 n3:n<=3
 sl:∀x,x∈ps->x.ap.length<=10
 aE:∀x,x∈ps->x.aF=false->x.ap=[]
 cap:∀x,x∈ps->∀s,s∈x.ap->IA m s.ct s.rts
theorem IA.in{l:List Obj}{ops:List aV}{ps:List aM}(h:∀o,o∈l->o.ah≠0)(ho:Uc l.length ops){z r:Int}(hc:IA ops.length z r):Kn.fU ⟨l,ops,ps⟩ z r:=by obtain⟨h1,j,rfl,hj⟩:=hc;obtain⟨⟨i,e,hi⟩,_⟩:=ho.o _ (aaP hj);exact⟨h1,j,_,rfl,xm hj,i,_,e,xm hi,h _ (aaP hi)⟩
theorem GB.gU{n:Nat}{l:List Obj}(g:GB n l){ops:List aV}{ps:List aM}(ho:Uc l.length ops)(hp:PrB n ops.length ps):Kn.KI ⟨l,ops,ps⟩:=by
 have k:=g.ki;refine⟨k.ll,ho.l,(by show ps.length<=8;have:=hp.l;have:=hp.n3;omega),k.sm,hp.sl,λe=>(by have e:ps=[]:=e;have h1:=hp.l;have h2:=hp.n1;rw[e]at h1;simp at h1;omega),hp.aE,λx hx s hs _=>(hp.cap x hx s hs).in g.nz ho,λo jE q hq=>(by rw[g.q o jE]at hq;cases hq),λo jE h5=>?_,k.en,k.z,k.pe,λo jE=>(ho.o o jE).2,k.N0,k.p7⟩
 obtain⟨j,h1,_⟩:=k.pr o jE h5;have h2:=g.pn o jE h5;exact⟨j,h1,by show j<ps.length;have:=hp.l;omega⟩
def Obj.Wj(o:Obj):Ob:=match o.aj with
 | []=>o.AF
 |_::_=>o.ob
def bM(l:List Obj):List Ob:=l.map Obj.Wj
theorem IB(l:List Obj):(bM l).length=l.length:=P2 _
theorem Yn{l:List Obj}(h:∀o,o∈l->o.aj=[]):bM l=bN l:=adO λo ho=>by unfold Obj.Wj;rw[h o ho]
theorem Yo(o:Obj):∀(j:Nat)d d',o.Wj.enc[j]? =some d->o.enc[j]? =some d'->CA d d':=by
 obtain⟨ah,data,ag,target,aI,aj,aQ,ak,up⟩:=o;cases aj with
 |cons q r=>
  intro j d d' h1 h2;have:(⟨ah,data,ag,target,aI,q::r,aQ,ak,up⟩:Obj).Wj.enc=(⟨ah,data,ag,target,aI,q::r,aQ,ak,up⟩:Obj).enc:=rfl;rw[this,h2]at h1;cases h1;exact .refl _
 |nil=>
  intro j d d' h1 h2
  match j,h1,h2 with
  |0,h1,h2=>cases h1;cases h2;exact .refl _
  |1,h1,h2=>cases h1;cases h2;exact .refl _
  |2,h1,h2=>cases h1;cases h2;exact .refl _
  |3,h1,h2=>cases h1;cases h2;exact .refl _
  |4,h1,h2=>cases h1;cases h2;exact .refl _
  |5,h1,h2=>cases h1;cases h2;exact .no 4
  |6,h1,h2=>cases h1;cases h2;exact .refl _
  |7,h1,h2=>cases h1;cases h2;exact .refl _
  |8,h1,h2=>cases h1;cases h2;exact .refl _
  |n+9,h1,h2=>simp[Obj.Wj,Obj.AF,Ob.enc]at h1
theorem Ud(o:Obj):o.Wj.enc.length=o.enc.length:=by
 unfold Obj.Wj;cases o.aj<;>rfl
theorem acp(l:List Obj):CA (iH (bM l)) (cX l):=by
 refine .sl 9 (by simp[bM]) (λi cs fD h1 h2=>?_) (λi cs fD j d d' h1 h2 h3 h4=>?_)
 all_goals
  rw[bM,adu,Rn]at h1;rw[Rn]at h2;obtain⟨o,ho,rfl⟩:=aba.1 h1;rw[ho]at h2;cases h2
 .exact Ud o
 .exact Yo o j d d' h3 h4
theorem Dk{l:List Obj}(h:∀o,o∈l->o.ah≠0)(hl:l.length<40)(o:Obj){m:Mem}{K:CV->Mem->Prop}(hK:K (.bI [L4 (bN (l++ [o])),cR (l.length:Nat),cR 0]) m):aq prog 27 [gE (bN l),o.AF.cv] m K:=by
 refine L6 (bN l) (by rw[fN];omega) o.AF ?_
 rw[Q4 h hl];exact hK
theorem Ue{l:List Obj}(h:∀o,o∈l->o.ah≠0)(p:Int):∀o,o∈l++ [bn p]->o.ah≠0:=λo ho=>by
 rcases abJ.1 ho with ho|ho
 .exact h o ho
 .rw[acn.1 ho];simp[bn]
theorem FA(a:CV)(p:Int):ln [a,.rv (.agg [.ai (.val (.int .i64 4)),.bv,.bv,.ai (.val (.string ⟨#[]⟩)),.ai (.val (.int .i64 p)),.bv,.ai (.val (.int .i64 (-1))),.ai (.val (.int .i64 0)),.ai (.val (.int .i64 0))])] [a,(bn p).AF.cv]:=
 .cT _ (.agg (.cons (.cT _) (.cons (.bv 1) (.cons (.bv 2) (.cons (.cT _) (.cons (.cT _) (.cons .no (.cons (.cT _) (.cons (.cT _) (.cons (.cT _) .nil))))))))) .nil)
def N1(q:Int):Obj:=⟨5,[],[],⟨#[]⟩,-1,[],q,0,0⟩
theorem Uf(a:CV)(q:Int):ln [a,.rv (.agg [.ai (.val (.int .i64 5)),.bv,.bv,.ai (.val (.string ⟨#[]⟩)),.ai (.val (.int .i64 (-1))),.bv,.ai (.val (.int .i64 q)),.ai (.val (.int .i64 0)),.ai (.val (.int .i64 0))])] [a,(N1 q).AF.cv]:=
 .cT _ (.agg (.cons (.cT _) (.cons (.bv 1) (.cons (.bv 2) (.cons (.cT _) (.cons (.cT _) (.cons .no (.cons (.cT _) (.cons (.cT _) (.cons (.cT _) .nil))))))))) .nil)
theorem IC{l:List Obj}(h:∀o,o∈l->o.ah≠0)(hl:l.length<39):body prog c30 [gE (bN l)] [] (λr m=>cM m r (.bI [L4 (bN (l++ [bn ((l.length+1:Nat):Int),bn (l.length:Int)])),S8 ((l.length:Int),((l.length+1:Nat):Int)),cR 0])):=by
 refine jK (FA _ _) (Dk h om _ ?_);refine jK (FA _ _) (Dk (Ue h _) (by simp;omega) _ ?_)
 have ay:l.length<(l++ [bn (-1)]++ [bn (l.length:Int)]).length:=aG;refine af (fw (by rw[fN];exact ay)) ?_
 refine fS (bN (l++ [bn (-1)]++ [bn (l.length:Int)])) (by rw[fN];simp;omega) l.length (by rw[fN];simp) {(bN (l++ [bn (-1)]++ [bn (l.length:Int)]))[l.length]'(by rw[fN];exact ay)with aI:=((l++ [bn (-1)]).length:Int)} ?_
 have e:fY (bN (l++ [bn (-1)]++ [bn (l.length:Int)])) l.length {(bN (l++ [bn (-1)]++ [bn (l.length:Int)]))[l.length]'(by rw[fN];exact ay)with aI:=((l++ [bn (-1)]).length:Int)}=bN (l++ [bn ((l.length+1:Nat):Int),bn (l.length:Int)]):=by
  rw[Kz ay,show(l++ [bn (-1)]++ [bn (l.length:Int)])[l.length]=bn (-1) by simp,fY,if_neg (by rw[fN];simp;omega),aam,bN,show({(bn (-1)).AF with aI:=((l++ [bn (-1)]).length:Int)}:Ob)=(bn ((l.length+1:Nat):Int)).AF by simp[bn,Obj.AF],<-List.map_set,adN,adT _ _ (aah _)]
  simp[bN]
 rw[e];have e2:((l++ [bn (-1)]).length:Int)=((l.length+1:Nat):Int):=aG;rw[e2];exact kL (dK.self rfl) (dK.self rfl)
theorem Q7{l:List Obj}(h:∀o,o∈l->o.ah≠0)(hl:l.length<39){m:Mem}{K:CV->Mem->Prop}(hK:K (.bI [L4 (bN (l++ [bn ((l.length+1:Nat):Int),bn (l.length:Int)])),S8 ((l.length:Int),((l.length+1:Nat):Int)),cR 0]) m):aq prog 30 [gE (bN l)] m K:=
 aT (aR func30 l30 (IC h hl)) (by simp[gE,iH,CV.cY,CC.cY]) λr m1 hr=>⟨_,hr,hK⟩
def FB(n:Nat)(l:List dX):Prop:=l.length<=10/\∀s,s∈l->s.has=true/\IA n s.ct s.rts
theorem FB.nil(n:Nat):FB n []:=⟨aG,aG⟩
theorem ID{n:Nat}(l:List dX)(hS:FB n l)(ct rts:Int)(hC:IA n ct rts):body prog c31 [mI l,.rv (.agg [.ai (.val (.int .i64 ct)),.ai (.val (.int .i64 rts))])] []
  (λr m=>∃(y:List dX)(fd e:Int),(e=0->FB n y)/\cM m r (.bI [CH y,cR fd,cR e])):=by
 have hl:=hS.1;have bad:∀m e,e≠0->∃(y:List dX)(fd:Int)(e':Int),(e'=0->FB n y)/\cM m (.bI [.one .bv,cR 0,cR e]) (.bI [CH y,cR fd,cR e']):=λm e he=>⟨[],0,e,λh=>absurd h he,Pl (.one (.bv 3))⟩
 refine an (λh=>?_) (λh1=>?_)
 .exact bad _ 3 (by decide)
 refine an (λh=>?_) (λh2=>?_)
 .exact bad _ 3 (by decide)
 refine an (λh=>?_) (λh3=>?_)
 .exact bad _ 3 (by decide)
 refine⟨by simp[aa,bt]<;>omega,?_⟩
 refine ax (λk=>k<=l.length) [0,3,26] (λk=>[(27,am .i64 (k:Nat)),(7,.rv (.one (.row 1 3 0 none))),(25,.rv (.one (.row 1 3 0 none)))])
  (λ_=>[.var [.ai (.val (.int .i64 ct)),.ai (.val (.int .i64 rts))],.row 3 (aa (l.map dX.enc))]) (λk=>l.length-k) 0 (aad _) ?_ (λk hk=>?_)
 .refine View.o1 3 [0,2] [] ?_
  .exact .pe rfl rfl rfl (.pt rfl rfl (.bg (by simp[bt,aa])) (.nil _))
 have hk:k<=l.length:=hk;have hlen:(aa (l.map dX.enc)).length=l.length:=by simp[aa]
 refine an (λh=>?_) (λh=>?_)
 .have ay:k<l.length:=by have h:(k:Int)<(((([]:List (List CC))++aa (l.map dX.enc)).length:Nat):Int):=h;rw[aeP,hlen]at h;omega
  have m9:dW (k:Int) (lenOf (aa (l.map dX.enc)).length 0 none)=some k:=bL (by simpa[hlen,lenOf]using ay)
  refine af m9 ?_;refine af (bq dX.enc l ay) ?_;have mC:k<10:=om;generalize l[k]=s;refine aC (λ_=>?_) (λ_=>?_)
  .refine af m9 ?_;refine af (bq dX.enc l ay) ?_;refine⟨l.set k ⟨true,ct,rts⟩,k,0,λ_=>⟨by simpa using hl,λs hs=>by rcases abF hs with hs|rfl<;>first|exact hS.2 s hs|exact⟨rfl,hC⟩⟩,Pl (.one (eF.db ?_ 0 none))⟩
   show some (Bk.row 3 (aZ (aa (l.map dX.enc)) k _))=_;rw[<-aa,<-kM dX.enc];rfl
  .refine⟨k+1,ay,(show l.length-(k+1)<l.length-k by omega),View.o2 2 [0,1] [] ?_⟩
   .exact .au
 .refine an (λh=>?_) (λSq=>?_)
  .exact bad _ 15 (by decide)
  .have Sq:l.length<10:=by have h:¬(((aa (l.map dX.enc)).length:Int)>=10):=Sq;rw[hlen]at h;omega
   refine⟨by simp[aa,bt]<;>omega,?_⟩
   refine⟨l++ [⟨true,ct,rts⟩],_,0,λ_=>⟨by simp<;>omega,λs hs=>by rcases abJ.1 hs with hs|hs<;>first|exact hS.2 s hs|(simp at hs;subst hs;exact⟨rfl,hC⟩)⟩,Pl (.one (eF.db ?_ 0 none))⟩
   show some (Bk.row 3 _)=some (Bk.row 3 _);simp[bt,aa,dX.enc]
theorem oO{n:Nat}(l:List dX)(hS:FB n l)(ct rts:Int)(hC:IA n ct rts){m:Mem}{K:CV->Mem->Prop}(h:∀(y:List dX)(fd e:Int),(e=0->FB n y)->K (.bI [CH y,cR fd,cR e]) m):
  aq prog 31 [mI l,.rv (.agg [.ai (.val (.int .i64 ct)),.ai (.val (.int .i64 rts))])] m K:=by
 refine aT (K0:=λr m=>∃(y:List dX)(fd e:Int),(e=0->FB n y)/\cM m r (.bI [CH y,cR fd,cR e])) (mF (args:=[mI l,.rv (.agg [.ai (.val (.int .i64 ct)),.ai (.val (.int .i64 rts))])]) func31 l31 rfl (aat rfl) (ID l hS ct rts hC)) (by simp[mI,ip,CV.cY,CC.cY,RV.cY]) λr m1 hr=>?_
 obtain⟨y,fd,e,hy,hf⟩:=hr;exact⟨_,hf,h y fd e hy⟩
def KPN(r:CV)(m:Mem):Prop:=∃r' m',View 0 ⟨[r],m⟩ ⟨[r'],m'⟩/\(∃k:Kr,Kn.KI k/\r'=cA k.l k.ops k.ps)/\m'=[]
def EKN:Ex->St->Prop:=oi prog c9.mr KPN
structure StN where
 i:Nat
 b:List Int
 l:List Obj
structure Dl(l:List Obj)(ops:List aV)(ps:List aM)(i:Nat)(l2:List Obj):Prop where
 len:l2.length=l.length
 ki:Kn.KI ⟨l2,ops,ps⟩
 nz:∀o,o∈l2->o.ah≠0
 old:∀j,i<=j->l2[j]? =l[j]?
theorem Dl.next{l l2:List Obj}{ops:List aV}{ps:List aM}{i:Nat}(h:Dl l ops ps i l2):Dl l ops ps (i+1) l2:=⟨h.len,h.ki,h.nz,λj hj=>h.old j om⟩
theorem Dl.set{l l2:List Obj}{ops:List aV}{ps:List aM}{i:Nat}(h:Dl l ops ps i l2)(hnz:∀o,o∈l->o.ah≠0){o:Obj}(ho:l[i]? =some o){q:cJ}(hq:q.Sj)(hd:q.data.length<=64)(hc:q.has=true->Kn.fU ⟨l2,ops,ps⟩ q.ct q.rts):Dl l ops ps (i+1) (l2.set i {o with aj:=[q]}):=by
 have pH:l2[i]? =some o:=by rw[h.old i (aah _)];exact ho
 have hs:=h.ki.sm o (Wm pH);have vB:=h.ki.N0 o (Wm pH);refine⟨by rw[abn];exact h.len,h.ki.Ie pH ⟨rfl,rfl,rfl,rfl,rfl,rfl⟩ (hnz o (Wm ho)) ⟨⟨hs.t.1,hs.t.2.1,λx hx=>?_⟩,hs.d,hs.e,(show [q].length<=8 by simp),λx hx=>?_⟩ vB λx hx hh=>?_,λx hx=>?_,λj hj=>?_⟩
 .have hx:x∈ [q]:=hx;rw[acn.1 hx];exact hq
 .have hx:x∈ [q]:=hx;rw[acn.1 hx];exact hd
 .have hx:x∈ [q]:=hx;rw[acn.1 hx]at hh|-;exact hc hh
 .rcases abF hx with hx|rfl
  .exact h.nz x hx
  .exact hnz o (Wm ho)
 .rw[aap om];exact h.old j om
theorem zM{l:List Obj}{k:Nat}(hl:l.length<=40)(hk:k<l.length){o:Ob}(o':Obj)(e:o=o'.Wj){m:Mem}{K:CV->Mem->Prop}(h:K (gE (bM (l.set k o'))) m):aq prog 29 [gE (bM l),am .i64 (k:Nat),o.cv] m K:=by
 refine fS (bM l) (by rw[IB];omega) k (by rw[IB];omega) o ?_
 rw[fY,if_neg (by rw[IB];omega),aam,e,bM,<-acF]
 exact h
theorem Ug(b:List Int)(hb:uN b){n:Nat}(l:List Obj)(g:GB n l)(ops:List aV)(ps:List aM)(Q8:Uc l.length ops)(jB:PrB n ops.length ps):
  aw prog 0 (mK (pb Xs)) (oX (aw prog 0 afA) EKN) ⟨jD 299 [(2,.rv (.one (.ptr 0 0))),(3,.rv (.one (.ptr 1 0))),(19,.rv (.one (.ptr 2 0)))],[.var z3,ru b,.var [.ai (iH (bN l)),.ai (de ops),.ai (dM ps)]]⟩:=by
 have CW:=g.len;have alN:=Q8.l;have OT:=fN l;refine ax (λ(a:StN)=>a.i<=l.length/\uN a.b/\Dl l ops ps a.i a.l) [2,3,19,248,249] (λa=>[(250,am .i64 (a.i:Nat))]) (λa=>[.var z3,ru a.b,.var [.ai (iH (bM a.l)),.ai (de ops),.ai (dM ps)]]) (λa=>l.length-a.i) ⟨0,b,l⟩
  ⟨aad _,hb,rfl,g.gU Q8 jB,g.nz,λ_ _=>rfl⟩ ?_ (λa ha=>?_)
 .show View _ _ ⟨_,[_,_,.var [.ai (iH (bM l)),_,_]]⟩;rw[Yn g.q];refine View.o1 3 [0,1,2] [] ?_
  .exact .au
 obtain⟨i,b1,l2⟩:=a;obtain⟨h1,h2,h3⟩:=ha;have h1:i<=l.length:=h1;have h2:uN b1:=h2;have h3:Dl l ops ps i l2:=h3;refine an (λh=>?_) (λh=>?_)
 .have ay:i<l.length:=by have h:(i:Int)<(((bN l).map Ob.enc).length:Int):=h;rw[P2,OT]at h;omega
  have hl2:=h3.len;have rV:=fw (l:=bN l) (k:=i) om;rw[Kz ay]at rV;have hF:∀q:cJ,q.Sj->q.data.length<=64->(q.has=true->IA ops.length q.ct q.rts)->Dl l ops ps (i+1) (l2.set i {l[i]with aj:=[q]}):=λq a1 a2 a3=>h3.set g.nz (xm ay) a1 a2 λhh=>by
   exact(a3 hh).in (l:=l2) h3.nz (by rw[h3.len];exact Q8)
  generalize l[i]=o at rV hF;obtain⟨ah,data,ag,target,aI,aj,aQ,ak,up⟩:=o;have rV:cH ((bN l).map Ob.enc) (i:Nat)=some [.val (.int .i64 ah),.sl 1 data,.sl 2 ag,.val (.string target),.val (.int .i64 aI),noD,.val (.int .i64 aQ),.val (.int .i64 ak),.val (.int .i64 up)]:=rV;refine af rV ?_;refine bW [2,3,19,31,32,248,249,250] [] ([.var z3,ru b1,.var [.ai (iH (bM l2)),.ai (de ops),.ai (dM ps)],.var [.ai (.val (.int .i64 ah)),.ai (.sl 1 data),.ai (.sl 2 ag),.ai (.val (.string target)),.ai (.val (.int .i64 aI)),.bv,.ai (.val (.int .i64 aQ)),.ai (.val (.int .i64 ak)),.ai (.val (.int .i64 up))]]) (View.o1 4 [0,1,2,3] [] ?_) ?_
  .exact .pe rfl rfl rfl (.pt rfl rfl (.eq rfl (gz _)) (.pe rfl rfl rfl (.pt rfl rfl (dC.var (.cons (.aO (.ai _)) (.cons (.aO (.ai _)) (.cons (.aO (.ai _)) (.cons (.aO (.ai _)) (.cons (.aO (.ai _)) (.cons .un (.cons (.aO (.ai _)) (.cons (.aO (.ai _)) (.cons (.aO (.ai _)) .nil)))))))))) (.nil _))))
  refine bc (λhk4=>?_) (λhk4=>?_)
  .refine b7 b1 h2 2 1 rfl λx b2 lY _ _ _=>?_
   refine bc (λ_=>?_) (λ_=>?_)
   .refine an (λhn=>?_) (λhn=>?_)
    .refine b7 b2 lY 2 1 rfl λy b3 Qg _ _ _=>?_
     refine bc (λ_=>?_) (λ_=>?_)
     .refine b7 b3 Qg _ 1 rfl λz b4 XY OE _ _=>?_
      have OE:z<ops.length:=by have hn:((ops.map aV.enc).length:Int)>0:=hn;have OE:(1:Int)<=((ops.map aV.enc).length:Int)->(z:Int)<((ops.map aV.enc).length:Int):=OE;rw[P2]at hn OE;have:=OE om;omega
      refine b7 b4 XY 200 1 rfl λw b5 hb5 hw _ _=>?_
      have hw:=hw om;refine⟨by simp[bt],?_⟩
      have hF:=hF ⟨dH [109],true,(z:Nat),(w:Nat)⟩ ⟨_,rfl⟩ (by simp[dH]) (λ_=>⟨⟨by show(0:Int)<=((w:Nat):Int);omega,by show((w:Nat):Int)<=4095;omega⟩,z,rfl,OE⟩)
      refine eR (jr:=[gE (bM l2),am .i64 (i:Nat),(Ob.mk ah data ag target aI (.sl 4 [cJ.enc ⟨dH [109],true,(z:Nat),(w:Nat)⟩]) aQ ak up).cv]) (m':=[.var z3,ru b5,.var [.ai (iH (bM l2)),.ai (de ops),.ai (dM ps)],.aE,.aE,.aE,.aE,.aE]) (View.o 8 [0,1,2,3,4,5,6,7] [7,4]
       (.eq rfl (.eq rfl (.put (lS.agg (.cons (.aO (.ai _)) (.cons (.aO (.ai _)) (.cons (.aO (.ai _)) (.cons (.aO (.ai _)) (.cons (.aO (.ai _)) (.cons (.dO (Xt (Z:=λk=>bh [7,4] k=true) rfl rfl rfl (by simp[bt]) rfl)) (.cons (.aO (.ai _)) (.cons (.aO (.ai _)) (.cons (.aO (.ai _)) .nil)))))))))) .nil)))
       (.pe rfl rfl rfl (.pt rfl rfl (.eq rfl (gz _)) (.pe rfl rfl rfl (.aE (.aE (.aE (.aE (.aE (.nil _)))))))))) ?_
      refine zM om om ⟨ah,data,ag,target,aI,[⟨dH [109],true,(z:Nat),(w:Nat)⟩],aQ,ak,up⟩ rfl ?_;refine⟨⟨i+1,b5,_⟩,⟨ay,by assumption,hF⟩,(show l.length-(i+1)<l.length-i by omega),View.o2 8 [0,1,2] [] ?_⟩
      .exact .au
     .skip
      refine⟨by simp[bt],?_⟩
      have hF:=hF ⟨dH [109],false,0,0⟩ ⟨_,rfl⟩ (by simp[dH]) (λh=>by cases h)
      refine eR (jr:=[gE (bM l2),am .i64 (i:Nat),(Ob.mk ah data ag target aI (.sl 4 [cJ.enc ⟨dH [109],false,0,0⟩]) aQ ak up).cv]) (m':=[.var z3,ru b3,.var [.ai (iH (bM l2)),.ai (de ops),.ai (dM ps)],.aE,.aE,.aE,.aE,.aE]) (View.o 8 [0,1,2,3,4,5,6,7] [7,4]
       (.eq rfl (.eq rfl (.put (lS.agg (.cons (.aO (.ai _)) (.cons (.aO (.ai _)) (.cons (.aO (.ai _)) (.cons (.aO (.ai _)) (.cons (.aO (.ai _)) (.cons (.dO (Xt (Z:=λk=>bh [7,4] k=true) rfl rfl rfl (by simp[bt]) rfl)) (.cons (.aO (.ai _)) (.cons (.aO (.ai _)) (.cons (.aO (.ai _)) .nil)))))))))) .nil)))
       (.pe rfl rfl rfl (.pt rfl rfl (.eq rfl (gz _)) (.pe rfl rfl rfl (.aE (.aE (.aE (.aE (.aE (.nil _)))))))))) ?_
      refine zM om om ⟨ah,data,ag,target,aI,[⟨dH [109],false,0,0⟩],aQ,ak,up⟩ rfl ?_;refine⟨⟨i+1,b3,_⟩,⟨ay,by assumption,hF⟩,(show l.length-(i+1)<l.length-i by omega),View.o2 8 [0,1,2] [] ?_⟩
      .exact .au
    .skip
     refine⟨by simp[bt],?_⟩
     have hF:=hF ⟨dH [109],false,0,0⟩ ⟨_,rfl⟩ (by simp[dH]) (λh=>by cases h)
     refine eR (jr:=[gE (bM l2),am .i64 (i:Nat),(Ob.mk ah data ag target aI (.sl 4 [cJ.enc ⟨dH [109],false,0,0⟩]) aQ ak up).cv]) (m':=[.var z3,ru b2,.var [.ai (iH (bM l2)),.ai (de ops),.ai (dM ps)],.aE,.aE,.aE,.aE,.aE]) (View.o 8 [0,1,2,3,4,5,6,7] [7,4]
      (.eq rfl (.eq rfl (.put (lS.agg (.cons (.aO (.ai _)) (.cons (.aO (.ai _)) (.cons (.aO (.ai _)) (.cons (.aO (.ai _)) (.cons (.aO (.ai _)) (.cons (.dO (Xt (Z:=λk=>bh [7,4] k=true) rfl rfl rfl (by simp[bt]) rfl)) (.cons (.aO (.ai _)) (.cons (.aO (.ai _)) (.cons (.aO (.ai _)) .nil)))))))))) .nil)))
      (.pe rfl rfl rfl (.pt rfl rfl (.eq rfl (gz _)) (.pe rfl rfl rfl (.aE (.aE (.aE (.aE (.aE (.nil _)))))))))) ?_
     refine zM om om ⟨ah,data,ag,target,aI,[⟨dH [109],false,0,0⟩],aQ,ak,up⟩ rfl ?_;refine⟨⟨i+1,b2,_⟩,⟨ay,by assumption,hF⟩,(show l.length-(i+1)<l.length-i by omega),View.o2 8 [0,1,2] [] ?_⟩
     .exact .au
   .skip
    refine⟨⟨i+1,b2,l2⟩,⟨ay,by assumption,h3.next⟩,(show l.length-(i+1)<l.length-i by omega),View.o2 4 [0,1,2] [] ?_⟩
    .exact .au
  .skip
   refine⟨⟨i+1,b1,l2⟩,⟨ay,by assumption,h3.next⟩,(show l.length-(i+1)<l.length-i by omega),View.o2 4 [0,1,2] [] ?_⟩
   .exact .au
 .refine⟨cA l2 ops ps,[],View.o 3 [] [] ?_ (.nil _),⟨⟨l2,ops,ps⟩,h3.ki,rfl⟩,rfl⟩;exact .put (lS.agg (.cons (.dO (.le (acp l2))) (.cons (.aO (.ai _)) (.cons (.aO (.ai _)) .nil)))) .nil
end Go.Proofs.YtllkfpggoigbaaaGreatDoor
