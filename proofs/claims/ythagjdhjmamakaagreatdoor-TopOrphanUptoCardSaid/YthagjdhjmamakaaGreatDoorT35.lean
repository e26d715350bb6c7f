/- Part 35 of 41: what the law stands on. -/
import Derived.Test.YthagjdhjmamakaaGreatDoorT16
import Derived.Test.YthagjdhjmamakaaGreatDoorT32
import Derived.Test.YthagjdhjmamakaaGreatDoorT33
import Derived.Test.YthagjdhjmamakaaGreatDoorT34
set_option linter.unusedVariables false
set_option linter.unusedSimpArgs false
set_option linter.unnecessarySimpa false
set_option maxRecDepth 100000
set_option maxHeartbeats 64000000
namespace Go.Proofs.YthagjdhjmamakaaGreatDoor
open Go.AM Go.ChangeShapes Go.WideShapes Go.ChangeAt Go.RowKit
def c16:LF:= ⟨116,[.cell true 3 6,.cell true 4 7],(.seq (.ai [qu 4 (.box 1),qu 5 (.box 2),qu 6 (.alloc [.aB,.aB,.aB]),qu 7 (.alloc [(qd 0),(qd 0),(qd 0),.aB])]) (.seq (.block 0 (.seq (.ai [qL 13 3 4,qf 14 0 5,ql 15 14,qu 16 (qc 25 [13,15]),qu 17 (.un .not 16),qm 12 17]) (.cond 12 (.seq (.ai [qL 18 3 4,qu 19 (.build [(qd 0),(qd 0),(qd 0),.aB] [(0,1,(qi 6))]),qw (.store 3 6 18),qw (.store 4 7 19)]) .ret) (.seq (.ai [qf 21 1 5,ql 22 21,qu 23 (.aE .lss 22 (qi 1)),qm 24 23,qg 25 (.bQ 1 5) 24 false,qg 26 (.load false 1 25) 24 false,qg 27 (.aE .gtr 26 (qi 22)) 24 false,qu 28 (.pick 24 (qb true) 27),qm 20 28]) (.cond 20 (.seq (.ai [qL 29 3 4,qu 30 (.build [(qd 0),(qd 0),(qd 0),.aB] [(0,1,(qi 1))]),qw (.store 3 6 29),qw (.store 4 7 30)]) .ret) .skip))))) (.cL (.seq (.seq (.ai [qf 31 2 4,ql 32 31,qf 33 0 5,ql 34 33,qu 35 (.b7 4 32 34),qf 36 1 35,ql 37 36]) (.cond 37 (.seq (.ai [qm 39 0,qL 40 9 5,qu 41 (qc 27 [40]),qu 42 (qc 26 [39,41]),qm 38 42,qu 43 (.ext 38 0),qu 44 (.ext 38 1),qm 8 43,qm 9 44]) (.seq (.ai [qm 45 8,qu 46 (.aE .neq 45 (qi 1)),qm 47 46,qg 48 (.bQ 1 5) 47 false,qg 49 (.load false 1 48) 47 false,qg 50 (.aE .eql 49 (qi 2)) 47 false,qu 51 (.pick 47 (qb true) 50)]) (.cond 51 (.seq (.ai [qL 52 3 4,qu 53 (.build [(qd 0),(qd 0),(qd 0),.aB] [(0,1,(qi 9))]),qw (.store 3 6 52),qw (.store 4 7 53)]) .ret) .skip))) .skip)) (.cL (.seq (.ai [qL 54 3 4,qf 55 0 5,ql 56 55,qu 57 (.build [.aB,.aB,.aB,(qd 0)] [(0,3,54),(3,1,56)]),qu 58 (.box 57),qm 10 58]) (.seq (.ai [qu 11 (.alloc [(qd 0),(qd 0),(qd 0),.aB])]) (.seq (.seq (.ai [qf 59 1 5,ql 60 59]) (.block 1 (.seq (.seq (.ai [qu 64 (.aE .eql 60 (qi 2)),qm 63 64]) (.cond 63 .skip (.ai [qu 65 (.aE .eql 60 (qi 3)),qm 63 65]))) (.cond 63 (.ai [qm 66 10,qu 67 (qc 28 [66,5]),qw (.store 4 11 67)]) (.seq (.seq (.ai [qu 69 (.aE .eql 60 (qi 4)),qm 68 69]) (.cond 68 .skip (.seq (.ai [qu 70 (.aE .eql 60 (qi 5)),qm 68 70]) (.cond 68 .skip (.ai [qu 71 (.aE .eql 60 (qi 6)),qm 68 71]))))) (.cond 68 (.ai [qm 72 10,qu 73 (qc 29 [72,5]),qw (.store 4 11 73)]) (.seq (.seq (.ai [qu 75 (.aE .eql 60 (qi 7)),qm 74 75]) (.cond 74 .skip (.seq (.ai [qu 76 (.aE .eql 60 (qi 8)),qm 74 76]) (.cond 74 .skip (.ai [qu 77 (.aE .eql 60 (qi 9)),qm 74 77]))))) (.cond 74 (.ai [qm 78 10,qu 79 (qc 30 [78,5]),qw (.store 4 11 79)]) (.seq (.seq (.ai [qu 81 (.aE .eql 60 (qi 10)),qm 80 81]) (.cond 80 .skip (.ai [qu 82 (.aE .eql 60 (qi 11)),qm 80 82]))) (.cond 80 (.ai [qm 83 10,qu 84 (qc 31 [83,5]),qw (.store 4 11 84)]) (.seq (.seq (.ai [qu 86 (.aE .eql 60 (qi 12)),qm 85 86]) (.cond 85 .skip (.seq (.ai [qu 87 (.aE .eql 60 (qi 13)),qm 85 87]) (.cond 85 .skip (.ai [qu 88 (.aE .eql 60 (qi 14)),qm 85 88]))))) (.cond 85 (.ai [qm 89 10,qu 90 (qc 32 [89,5]),qw (.store 4 11 90)]) (.seq (.ai [qu 92 (.aE .eql 60 (qi 15)),qm 91 92]) (.cond 91 (.ai [qm 93 10,qu 94 (qc 33 [93]),qw (.store 4 11 94)]) (.seq (.ai [qu 96 (.aE .eql 60 (qi 16)),qm 95 96]) (.cond 95 (.ai [qm 97 10,qu 98 (qc 34 [97,5]),qw (.store 4 11 98)]) (.seq (.ai [qu 100 (.aE .eql 60 (qi 17)),qm 99 100]) (.cond 99 (.ai [qm 101 10,qu 102 (qc 35 [101,5]),qw (.store 4 11 102)]) (.ai [qm 61 10,qu 62 (qc 36 [61,5]),qw (.store 4 11 62)]))))))))))))))))))) (.cL (.seq (.seq (.ai [qf 103 0 11,ql 104 103,qu 105 (.aE .neq 104 (qi 0))]) (.cond 105 (.seq (.bT [qL 106 3 4,qf 107 0 11,ql 108 107,qu 109 (.build [(qd 0),(qd 0),(qd 0),.aB] [(0,1,108)]),qw (.store 3 6 106),qw (.store 4 7 109)] [(.cons 0 none (.cons 1 none (.cons 2 none (.cons 3 none (.cons 4 (some [2]) (.cons 5 (some []) .nil))))))]) .ret) .skip)) (.seq (.bT [qm 110 10,qu 111 (.aR 110),qf 112 0 111,qL 113 3 112,qu 114 (qc 37 [113]),qL 115 4 11,qw (.store 3 6 114),qw (.store 4 7 115)] [(.cons 0 none (.cons 1 none (.cons 2 none (.cons 3 none (.cons 5 none (.cons 4 (some [5]) (.cons 6 (some [5]) (.cons 7 (some []) .nil))))))))]) .ret)))))))))))⟩
def c27:LF:= ⟨22,[.cell true 6 2],(.seq (.ai [qu 1 (.box 0),qu 2 (.alloc [(qd 0),(qd 0),(qd 0),(qd 0),(qd 0),(qd 0)])]) (.seq (.ai [qf 3 1 1,ql 4 3,qu 5 (.aE .and 4 (qi 2147483647)),qf 6 2 1,ql 7 6,qu 8 (.aE .and 7 (qi 2147483647)),qf 9 3 1,ql 10 9,qu 11 (.aE .and 10 (qi 2147483647)),qf 12 4 1,ql 13 12,qu 14 (.aE .and 13 (qi 2147483647)),qf 15 5 1,ql 16 15,qu 17 (.aE .and 16 (qi 2147483647)),qf 18 6 1,ql 19 18,qu 20 (.aE .and 19 (qi 2147483647)),qu 21 (.build [(qd 0),(qd 0),(qd 0),(qd 0),(qd 0),(qd 0)] [(0,1,5),(1,1,8),(2,1,11),(3,1,14),(4,1,17),(5,1,20)]),qw (.store 6 2 21)]) .ret))⟩
namespace Kn
def qN(a:Int):Int:=kh a 2147483647
def mw(c:Cl):xN:=⟨qN c.ah,qN c.fd,qN c.fT,qN c.n,qN c.bj,qN c.aQ⟩
def ii(k:Kr)(p:Nat)(c:Cl):Kr×An:=
 if c.ah=2\/c.ah=3 then ig k p c
 else if c.ah=4\/c.ah=5\/c.ah=6 then iY k p c
 else if c.ah=7\/c.ah=8\/c.ah=9 then nI k p c
 else if c.ah=10\/c.ah=11 then jW k p c
 else if c.ah=12\/c.ah=13\/c.ah=14 then kP k p c
 else if c.ah=15 then mP k p
 else if c.ah=16 then mN k p c
 else if c.ah=17 then mO k p c
 else fx k p c
def ta(k:Kr)(x:Kr×An):Kr×An:=if x.2.ix≠0 then(k,An.no x.2.ix)else(oX x.1,x.2)
def iR(prog:List dS)(k:Kr)(c:Cl):Kr×An:=
 if eZ k.ps c.aM=false then(k,An.no 6)
 else if c.ah<1\/c.ah>22 then(k,An.no 1)
 else if js k.ps c.aM.toNat=true/\((wz prog (mw c)).1≠1\/c.ah=2)then(k,An.no 9)
 else ta k (ii k c.aM.toNat c)
structure Ly(k:Kr)(p:Nat)(c:Cl):Prop where
 w:KW k p
 op:∀au ax,D9 k p c (iQ k au c.bZ ax true)
 pr:Q1 k p (fe k.l)
 q:∀o,o∈k.l->o.ah=5->∃n:Nat,o.aM=n/\n<k.ps.length
 hU:(ii k p c).2.ix=0->dC (ii k p c).1.l (ii k p c).1.ops (ii k p c).1.ps
theorem l27:bq Tryz.prog Tryz.f27=some c27:=by kernel_rfl
theorem Ib(c:Cl){m:Mem}{K:CV->Mem->Prop}(h:K (mw c).cv m):ar Tryz.prog 27 [c.cv] m K:=
 bo Tryz.func27 l27 rfl (T3 rfl) (show body Tryz.prog c27 [c.cv] [] (fun r m=>r=(mw c).cv)from rfl) rfl rfl h
theorem l16:bq Tryz.prog Tryz.f16=some c16.er:=by kernel_rfl
def Ys:LC:=bI (bI c16.code)
def Ux:LC:=oV Ys
def Yt:LC:=bI Ux
def Uy:LC:=oV Yt
def Uz:LC:=bI (bI (bI Uy))
def UA:LC:=oV Uz
def UB(x:Kr×An):CV:= .bG [ib x.1,x.2.rv]
def QD(x:Kr×An):Ex->St->Prop:=nb Tryz.prog c16.ki (fun r m=>cw m r (UB x))
def qM:Bk:= .var [.aB,.aB,.aB]
theorem xP{m:Mem}{k:Kr}{e n x:Int}:cw m (.bG [ib k,.agg [.aa (.val (.int .i64 e)),.aa (.val (.int .i64 n)),.aa (.val (.int .i64 x)),.aB]]) (UB (k,⟨e,n,x,[]⟩)):=by
 refine .bG rfl fun i r r' h1 h2=>?_
 match i,h1,h2 with
 |0,h1,h2=>cases h1;cases h2;exact eh.self rfl
 |1,h1,h2=>
  cases h1;cases h2;refine .agg rfl fun i c c' h1 h2=>?_
  match i,h1,h2 with
  |0,h1,h2=>cases h1;cases h2;exact .self rfl
  |1,h1,h2=>cases h1;cases h2;exact .self rfl
  |2,h1,h2=>cases h1;cases h2;exact .self rfl
  |3,h1,h2=>cases h1;cases h2;exact .aB 1
  |n+4,h1,h2=>simp at h1
 |n+2,h1,h2=>simp at h1
theorem NM(k:Kr)(p:Nat)(c:Cl)(x:Kr×An)(hx:x.2.ix=0->dC x.1.l x.1.ops x.1.ps):
  aw Tryz.prog 0 UA (QD (ta k x))
   ⟨lB 116 [(4,.rv (.one (.ptr 0 0))),(6,.rv (.one (.ptr 1 0))),(7,.rv (.one (.ptr 2 0))),(10,.rv (.one (.ptr 3 0))),(11,.rv (.one (.ptr 4 0)))],[kB k,qM,bS,xB x.1 p,.var (x.2.enc.map .aa)]⟩:=by
 obtain⟨k',⟨ix,n,mm,data⟩⟩:=x;refine bu (fun he=>?_) (fun he=>?_)
 .have he:ix≠0:=he;rw[ta,if_pos he];refine⟨⟨rfl,trivial⟩,trivial,?_⟩;exact xP
 .have he:ix=0:=he;subst he;rw[ta,if_neg aK];refine Hq k' (hx rfl) ?_;refine⟨⟨rfl,trivial⟩,⟨rfl,trivial⟩,trivial,?_⟩;exact cw.self rfl
theorem Q9(k:Kr)(p:Nat)(cQ:p<k.ps.length)(c:Cl)(hc:c.aM=p)(hk:¬(c.ah<1\/c.ah>22))(hi:Ly k p c)(hd:c.data.length<=4194304):
  aw Tryz.prog 0 Uy (QD (ta k (ii k p c)))
   ⟨lB 116 [(4,.rv (.one (.ptr 0 0))),(5,.rv (.one (.ptr 1 0))),(6,.rv (.one (.ptr 2 0))),(7,.rv (.one (.ptr 3 0)))],[kB k,cB c,qM,bS]⟩:=by
 have hs:=fun(x:Kr×An)(h:ii k p c=x)=>NM k p c x (by rw[<-h];exact hi.hU)
 obtain⟨aM,ah,fd,fT,n,bj,aQ,bZ,data⟩:=c;have hc:aM=(p:Nat):=hc;subst hc;have hr:ah=1\/ah=2\/ah=3\/ah=4\/ah=5\/ah=6\/ah=7\/ah=8\/ah=9\/ah=10\/ah=11\/ah=12\/ah=13\/ah=14\/ah=15\/ah=16\/ah=17\/ah=18\/ah=19\/ah=20\/ah=21\/ah=22:=by have hk:¬(ah<1\/ah>22):=hk;omega
 rcases hr with h|h|h|h|h|h|h|h|h|h|h|h|h|h|h|h|h|h|h|h|h|h
 .subst h;have dB:ii k p ⟨(p:Nat),1,fd,fT,n,bj,aQ,bZ,data⟩=fx k p ⟨(p:Nat),1,fd,fT,n,bj,aQ,bZ,data⟩:=by rw[ii,if_neg aK,if_neg aK,if_neg aK,if_neg aK,if_neg aK,if_neg aK,if_neg aK,if_neg aK]
  rw[dB];refine dq (iD k p hi.w _ (by simp[o8]) hi.q) 4 1 rfl rfl rfl rfl ?_
  refine⟨_,View.o1 6 [0,2,3,4,5] [] ?_,hs _ dB⟩
  .exact .pt rfl rfl (.eq rfl (fa _)) (.pt rfl rfl (.eq rfl (by simp[qM])) (.pt rfl rfl (.eq rfl (by simp[bS])) (.pt rfl rfl (.eq rfl (bx _ _)) (.pm rfl rfl rfl))))
 .subst h;have dB:ii k p ⟨(p:Nat),2,fd,fT,n,bj,aQ,bZ,data⟩=ig k p ⟨(p:Nat),2,fd,fT,n,bj,aQ,bZ,data⟩:=by rw[ii,if_pos aK]
  rw[dB];refine dq (xJ k p hi.w _ hi.op) 4 1 rfl rfl rfl rfl ?_;refine⟨_,View.o1 6 [0,2,3,4,5] [] ?_,hs _ dB⟩
  .exact .pt rfl rfl (.eq rfl (fa _)) (.pt rfl rfl (.eq rfl (by simp[qM])) (.pt rfl rfl (.eq rfl (by simp[bS])) (.pt rfl rfl (.eq rfl (bx _ _)) (.pm rfl rfl rfl))))
 .subst h;have dB:ii k p ⟨(p:Nat),3,fd,fT,n,bj,aQ,bZ,data⟩=ig k p ⟨(p:Nat),3,fd,fT,n,bj,aQ,bZ,data⟩:=by rw[ii,if_pos aK]
  rw[dB];refine dq (xJ k p hi.w _ hi.op) 4 1 rfl rfl rfl rfl ?_;refine⟨_,View.o1 6 [0,2,3,4,5] [] ?_,hs _ dB⟩
  .exact .pt rfl rfl (.eq rfl (fa _)) (.pt rfl rfl (.eq rfl (by simp[qM])) (.pt rfl rfl (.eq rfl (by simp[bS])) (.pt rfl rfl (.eq rfl (bx _ _)) (.pm rfl rfl rfl))))
 .subst h;have dB:ii k p ⟨(p:Nat),4,fd,fT,n,bj,aQ,bZ,data⟩=iY k p ⟨(p:Nat),4,fd,fT,n,bj,aQ,bZ,data⟩:=by rw[ii,if_neg aK,if_pos aK]
  rw[dB];refine dq (o7 k p hi.w _ (.inl rfl) hd) 4 1 rfl rfl rfl rfl ?_;refine⟨_,View.o1 6 [0,2,3,4,5] [] ?_,hs _ dB⟩
  .exact .pt rfl rfl (.eq rfl (fa _)) (.pt rfl rfl (.eq rfl (by simp[qM])) (.pt rfl rfl (.eq rfl (by simp[bS])) (.pt rfl rfl (.eq rfl (bx _ _)) (.pm rfl rfl rfl))))
 .subst h;have dB:ii k p ⟨(p:Nat),5,fd,fT,n,bj,aQ,bZ,data⟩=iY k p ⟨(p:Nat),5,fd,fT,n,bj,aQ,bZ,data⟩:=by rw[ii,if_neg aK,if_pos aK]
  rw[dB];refine dq (o7 k p hi.w _ (.inr (.inl rfl)) hd) 4 1 rfl rfl rfl rfl ?_;refine⟨_,View.o1 6 [0,2,3,4,5] [] ?_,hs _ dB⟩
  .exact .pt rfl rfl (.eq rfl (fa _)) (.pt rfl rfl (.eq rfl (by simp[qM])) (.pt rfl rfl (.eq rfl (by simp[bS])) (.pt rfl rfl (.eq rfl (bx _ _)) (.pm rfl rfl rfl))))
 .subst h;have dB:ii k p ⟨(p:Nat),6,fd,fT,n,bj,aQ,bZ,data⟩=iY k p ⟨(p:Nat),6,fd,fT,n,bj,aQ,bZ,data⟩:=by rw[ii,if_neg aK,if_pos aK]
  rw[dB];refine dq (o7 k p hi.w _ (.inr (.inr rfl)) hd) 4 1 rfl rfl rfl rfl ?_;refine⟨_,View.o1 6 [0,2,3,4,5] [] ?_,hs _ dB⟩
  .exact .pt rfl rfl (.eq rfl (fa _)) (.pt rfl rfl (.eq rfl (by simp[qM])) (.pt rfl rfl (.eq rfl (by simp[bS])) (.pt rfl rfl (.eq rfl (bx _ _)) (.pm rfl rfl rfl))))
 .subst h;have dB:ii k p ⟨(p:Nat),7,fd,fT,n,bj,aQ,bZ,data⟩=nI k p ⟨(p:Nat),7,fd,fT,n,bj,aQ,bZ,data⟩:=by rw[ii,if_neg aK,if_neg aK,if_pos aK]
  rw[dB];refine dq (rN k p hi.w _) 4 1 rfl rfl rfl rfl ?_;refine⟨_,View.o1 6 [0,2,3,4,5] [] ?_,hs _ dB⟩
  .exact .pt rfl rfl (.eq rfl (fa _)) (.pt rfl rfl (.eq rfl (by simp[qM])) (.pt rfl rfl (.eq rfl (by simp[bS])) (.pt rfl rfl (.eq rfl (bx _ _)) (.pm rfl rfl rfl))))
 .subst h;have dB:ii k p ⟨(p:Nat),8,fd,fT,n,bj,aQ,bZ,data⟩=nI k p ⟨(p:Nat),8,fd,fT,n,bj,aQ,bZ,data⟩:=by rw[ii,if_neg aK,if_neg aK,if_pos aK]
  rw[dB];refine dq (rN k p hi.w _) 4 1 rfl rfl rfl rfl ?_;refine⟨_,View.o1 6 [0,2,3,4,5] [] ?_,hs _ dB⟩
  .exact .pt rfl rfl (.eq rfl (fa _)) (.pt rfl rfl (.eq rfl (by simp[qM])) (.pt rfl rfl (.eq rfl (by simp[bS])) (.pt rfl rfl (.eq rfl (bx _ _)) (.pm rfl rfl rfl))))
 .subst h;have dB:ii k p ⟨(p:Nat),9,fd,fT,n,bj,aQ,bZ,data⟩=nI k p ⟨(p:Nat),9,fd,fT,n,bj,aQ,bZ,data⟩:=by rw[ii,if_neg aK,if_neg aK,if_pos aK]
  rw[dB];refine dq (rN k p hi.w _) 4 1 rfl rfl rfl rfl ?_;refine⟨_,View.o1 6 [0,2,3,4,5] [] ?_,hs _ dB⟩
  .exact .pt rfl rfl (.eq rfl (fa _)) (.pt rfl rfl (.eq rfl (by simp[qM])) (.pt rfl rfl (.eq rfl (by simp[bS])) (.pt rfl rfl (.eq rfl (bx _ _)) (.pm rfl rfl rfl))))
 .subst h;have dB:ii k p ⟨(p:Nat),10,fd,fT,n,bj,aQ,bZ,data⟩=jW k p ⟨(p:Nat),10,fd,fT,n,bj,aQ,bZ,data⟩:=by rw[ii,if_neg aK,if_neg aK,if_neg aK,if_pos aK]
  rw[dB];refine dq (vu k p hi.w _) 4 1 rfl rfl rfl rfl ?_;refine⟨_,View.o1 6 [0,2,3,4,5] [] ?_,hs _ dB⟩
  .exact .pt rfl rfl (.eq rfl (fa _)) (.pt rfl rfl (.eq rfl (by simp[qM])) (.pt rfl rfl (.eq rfl (by simp[bS])) (.pt rfl rfl (.eq rfl (bx _ _)) (.pm rfl rfl rfl))))
 .subst h;have dB:ii k p ⟨(p:Nat),11,fd,fT,n,bj,aQ,bZ,data⟩=jW k p ⟨(p:Nat),11,fd,fT,n,bj,aQ,bZ,data⟩:=by rw[ii,if_neg aK,if_neg aK,if_neg aK,if_pos aK]
  rw[dB];refine dq (vu k p hi.w _) 4 1 rfl rfl rfl rfl ?_;refine⟨_,View.o1 6 [0,2,3,4,5] [] ?_,hs _ dB⟩
  .exact .pt rfl rfl (.eq rfl (fa _)) (.pt rfl rfl (.eq rfl (by simp[qM])) (.pt rfl rfl (.eq rfl (by simp[bS])) (.pt rfl rfl (.eq rfl (bx _ _)) (.pm rfl rfl rfl))))
 .subst h;have dB:ii k p ⟨(p:Nat),12,fd,fT,n,bj,aQ,bZ,data⟩=kP k p ⟨(p:Nat),12,fd,fT,n,bj,aQ,bZ,data⟩:=by rw[ii,if_neg aK,if_neg aK,if_neg aK,if_neg aK,if_pos aK]
  rw[dB];refine dq (rO k p hi.w _) 4 1 rfl rfl rfl rfl ?_;refine⟨_,View.o1 6 [0,2,3,4,5] [] ?_,hs _ dB⟩
  .exact .pt rfl rfl (.eq rfl (fa _)) (.pt rfl rfl (.eq rfl (by simp[qM])) (.pt rfl rfl (.eq rfl (by simp[bS])) (.pt rfl rfl (.eq rfl (bx _ _)) (.pm rfl rfl rfl))))
 .subst h;have dB:ii k p ⟨(p:Nat),13,fd,fT,n,bj,aQ,bZ,data⟩=kP k p ⟨(p:Nat),13,fd,fT,n,bj,aQ,bZ,data⟩:=by rw[ii,if_neg aK,if_neg aK,if_neg aK,if_neg aK,if_pos aK]
  rw[dB];refine dq (rO k p hi.w _) 4 1 rfl rfl rfl rfl ?_;refine⟨_,View.o1 6 [0,2,3,4,5] [] ?_,hs _ dB⟩
  .exact .pt rfl rfl (.eq rfl (fa _)) (.pt rfl rfl (.eq rfl (by simp[qM])) (.pt rfl rfl (.eq rfl (by simp[bS])) (.pt rfl rfl (.eq rfl (bx _ _)) (.pm rfl rfl rfl))))
 .subst h;have dB:ii k p ⟨(p:Nat),14,fd,fT,n,bj,aQ,bZ,data⟩=kP k p ⟨(p:Nat),14,fd,fT,n,bj,aQ,bZ,data⟩:=by rw[ii,if_neg aK,if_neg aK,if_neg aK,if_neg aK,if_pos aK]
  rw[dB];refine dq (rO k p hi.w _) 4 1 rfl rfl rfl rfl ?_;refine⟨_,View.o1 6 [0,2,3,4,5] [] ?_,hs _ dB⟩
  .exact .pt rfl rfl (.eq rfl (fa _)) (.pt rfl rfl (.eq rfl (by simp[qM])) (.pt rfl rfl (.eq rfl (by simp[bS])) (.pt rfl rfl (.eq rfl (bx _ _)) (.pm rfl rfl rfl))))
 .subst h;have dB:ii k p ⟨(p:Nat),15,fd,fT,n,bj,aQ,bZ,data⟩=mP k p:=by rw[ii,if_neg aK,if_neg aK,if_neg aK,if_neg aK,if_neg aK,if_pos aK]
  rw[dB];refine Lu k p hi.w hi.pr 4 rfl ?_;refine⟨_,View.o1 6 [0,2,3,4,5] [] ?_,hs _ dB⟩
  .exact .pt rfl rfl (.eq rfl (fa _)) (.pt rfl rfl (.eq rfl (by simp[qM])) (.pt rfl rfl (.eq rfl (by simp[bS])) (.pt rfl rfl (.eq rfl (bx _ _)) (.pm rfl rfl rfl))))
 .subst h;have dB:ii k p ⟨(p:Nat),16,fd,fT,n,bj,aQ,bZ,data⟩=mN k p ⟨(p:Nat),16,fd,fT,n,bj,aQ,bZ,data⟩:=by rw[ii,if_neg aK,if_neg aK,if_neg aK,if_neg aK,if_neg aK,if_neg aK,if_pos aK]
  rw[dB];refine dq (H6 k p hi.w _ hd) 4 1 rfl rfl rfl rfl ?_;refine⟨_,View.o1 6 [0,2,3,4,5] [] ?_,hs _ dB⟩
  .exact .pt rfl rfl (.eq rfl (fa _)) (.pt rfl rfl (.eq rfl (by simp[qM])) (.pt rfl rfl (.eq rfl (by simp[bS])) (.pt rfl rfl (.eq rfl (bx _ _)) (.pm rfl rfl rfl))))
 .subst h;have dB:ii k p ⟨(p:Nat),17,fd,fT,n,bj,aQ,bZ,data⟩=mO k p ⟨(p:Nat),17,fd,fT,n,bj,aQ,bZ,data⟩:=by rw[ii,if_neg aK,if_neg aK,if_neg aK,if_neg aK,if_neg aK,if_neg aK,if_neg aK,if_pos aK]
  rw[dB];refine dq (H7 k p hi.w _) 4 1 rfl rfl rfl rfl ?_;refine⟨_,View.o1 6 [0,2,3,4,5] [] ?_,hs _ dB⟩
  .exact .pt rfl rfl (.eq rfl (fa _)) (.pt rfl rfl (.eq rfl (by simp[qM])) (.pt rfl rfl (.eq rfl (by simp[bS])) (.pt rfl rfl (.eq rfl (bx _ _)) (.pm rfl rfl rfl))))
 .subst h;have dB:ii k p ⟨(p:Nat),18,fd,fT,n,bj,aQ,bZ,data⟩=fx k p ⟨(p:Nat),18,fd,fT,n,bj,aQ,bZ,data⟩:=by rw[ii,if_neg aK,if_neg aK,if_neg aK,if_neg aK,if_neg aK,if_neg aK,if_neg aK,if_neg aK]
  rw[dB];refine dq (iD k p hi.w _ (by simp[o8]) hi.q) 4 1 rfl rfl rfl rfl ?_
  refine⟨_,View.o1 6 [0,2,3,4,5] [] ?_,hs _ dB⟩
  .exact .pt rfl rfl (.eq rfl (fa _)) (.pt rfl rfl (.eq rfl (by simp[qM])) (.pt rfl rfl (.eq rfl (by simp[bS])) (.pt rfl rfl (.eq rfl (bx _ _)) (.pm rfl rfl rfl))))
 .subst h;have dB:ii k p ⟨(p:Nat),19,fd,fT,n,bj,aQ,bZ,data⟩=fx k p ⟨(p:Nat),19,fd,fT,n,bj,aQ,bZ,data⟩:=by rw[ii,if_neg aK,if_neg aK,if_neg aK,if_neg aK,if_neg aK,if_neg aK,if_neg aK,if_neg aK]
  rw[dB];refine dq (iD k p hi.w _ (by simp[o8]) hi.q) 4 1 rfl rfl rfl rfl ?_
  refine⟨_,View.o1 6 [0,2,3,4,5] [] ?_,hs _ dB⟩
  .exact .pt rfl rfl (.eq rfl (fa _)) (.pt rfl rfl (.eq rfl (by simp[qM])) (.pt rfl rfl (.eq rfl (by simp[bS])) (.pt rfl rfl (.eq rfl (bx _ _)) (.pm rfl rfl rfl))))
 .subst h;have dB:ii k p ⟨(p:Nat),20,fd,fT,n,bj,aQ,bZ,data⟩=fx k p ⟨(p:Nat),20,fd,fT,n,bj,aQ,bZ,data⟩:=by rw[ii,if_neg aK,if_neg aK,if_neg aK,if_neg aK,if_neg aK,if_neg aK,if_neg aK,if_neg aK]
  rw[dB];refine dq (iD k p hi.w _ (by simp[o8]) hi.q) 4 1 rfl rfl rfl rfl ?_
  refine⟨_,View.o1 6 [0,2,3,4,5] [] ?_,hs _ dB⟩
  .exact .pt rfl rfl (.eq rfl (fa _)) (.pt rfl rfl (.eq rfl (by simp[qM])) (.pt rfl rfl (.eq rfl (by simp[bS])) (.pt rfl rfl (.eq rfl (bx _ _)) (.pm rfl rfl rfl))))
 .subst h;have dB:ii k p ⟨(p:Nat),21,fd,fT,n,bj,aQ,bZ,data⟩=fx k p ⟨(p:Nat),21,fd,fT,n,bj,aQ,bZ,data⟩:=by rw[ii,if_neg aK,if_neg aK,if_neg aK,if_neg aK,if_neg aK,if_neg aK,if_neg aK,if_neg aK]
  rw[dB];refine dq (iD k p hi.w _ (by simp[o8]) hi.q) 4 1 rfl rfl rfl rfl ?_
  refine⟨_,View.o1 6 [0,2,3,4,5] [] ?_,hs _ dB⟩
  .exact .pt rfl rfl (.eq rfl (fa _)) (.pt rfl rfl (.eq rfl (by simp[qM])) (.pt rfl rfl (.eq rfl (by simp[bS])) (.pt rfl rfl (.eq rfl (bx _ _)) (.pm rfl rfl rfl))))
 .subst h;have dB:ii k p ⟨(p:Nat),22,fd,fT,n,bj,aQ,bZ,data⟩=fx k p ⟨(p:Nat),22,fd,fT,n,bj,aQ,bZ,data⟩:=by rw[ii,if_neg aK,if_neg aK,if_neg aK,if_neg aK,if_neg aK,if_neg aK,if_neg aK,if_neg aK]
  rw[dB];refine dq (iD k p hi.w _ (by simp[o8]) hi.q) 4 1 rfl rfl rfl rfl ?_
  refine⟨_,View.o1 6 [0,2,3,4,5] [] ?_,hs _ dB⟩
  .exact .pt rfl rfl (.eq rfl (fa _)) (.pt rfl rfl (.eq rfl (by simp[qM])) (.pt rfl rfl (.eq rfl (by simp[bS])) (.pt rfl rfl (.eq rfl (bx _ _)) (.pm rfl rfl rfl))))
theorem Ra(prog:List dS)(k:Kr)(p:Nat)(hp:p<k.ps.length)(c:Cl)(hc:c.aM=p)(hk:¬(c.ah<1\/c.ah>22))(hi:Ly k p c)(hd:c.data.length<=4194304)(R:Kr×An)(hR:R=if js k.ps p=true/\((wz prog (mw c)).1≠1\/c.ah=2)then(k,An.no 9)else ta k (ii k p c)):
  aw Tryz.prog 0 Ux (QD R)
   ⟨lB 116 [(0,qB prog),(4,.rv (.one (.ptr 0 0))),(5,.rv (.one (.ptr 1 0))),(6,.rv (.one (.ptr 2 0))),(7,.rv (.one (.ptr 3 0)))],[kB k,cB c,qM,bS]⟩:=by
 have hs:=Q9 k p hp c hc hk hi hd;have hf:js k.ps p=k.ps[p].fenced:=by rw[js,tq hp]
 refine ag (x:=[.val (.bool k.ps[p].a8),.val (.bool k.ps[p].fenced),.val (.int .i64 k.ps[p].code),wu k.ps[p].bd]) (by rw[hc];exact dQ hp) ?_
 rw[hf]at hR;generalize k.ps[p].fenced=Yu at hR;cases Yu with
 |false=>
  rw[if_neg aK]at hR;subst hR;refine⟨_,View.o1 4 [0,1,2,3] [] ?_,hs⟩
  .exact .pt rfl rfl (.eq rfl (fa _)) (.pt rfl rfl (.eq rfl (cr _)) (.pt rfl rfl (.eq rfl (by simp[qM])) (.pt rfl rfl (.eq rfl (by simp[bS])) (.nil _))))
 |true=>
  refine Ib c ?_;refine Q8 prog (mw c) ?_;generalize wz prog (mw c)=rr at hR;obtain⟨n,st⟩:=rr;refine bu (fun hn=>?_) (fun hn=>?_)
  .have hn:n≠1:=hn;rw[if_pos ⟨rfl,.inl hn⟩]at hR;subst hR;exact xP
  have hn:¬n≠1:=fun h=>h hn
  refine bz (fun h2=>?_) (fun h2=>?_)
  .have h2:c.ah=2:=h2;rw[if_pos ⟨rfl,.inr h2⟩]at hR;subst hR;exact xP
  have h2:¬c.ah=2:=h2;rw[if_neg (fun h=>h.2.elim hn h2)]at hR
  subst hR;refine⟨_,View.o1 4 [0,1,2,3] [] ?_,hs⟩
  .exact .pt rfl rfl (.eq rfl (fa _)) (.pt rfl rfl (.eq rfl (cr _)) (.pt rfl rfl (.eq rfl (by simp[qM])) (.pt rfl rfl (.eq rfl (by simp[bS])) (.nil _))))
theorem NN(prog:List dS)(k:Kr)(c:Cl)(hi:∀(p:Nat)(hp:p<k.ps.length),c.aM=p->k.ps[p].a8=true->Ly k p c)(hd:c.data.length<=4194304):
  body Tryz.prog c16 [qB prog,dX k.l k.ops k.ps,c.cv] [] (fun r m=>cw m r (UB (iR prog k c))):=by
 refine nw k.l k.ops k.ps c.aM ?_;cases hl:eZ k.ps c.aM with
 |false=>
  rw[iR,if_pos hl];exact xP
 |true=>
  obtain⟨p,hc,hp,dG⟩:=p9 hl;have e0:iR prog k c=if c.ah<1\/c.ah>22 then(k,An.no 1)
   else if js k.ps p=true/\((wz prog (mw c)).1≠1\/c.ah=2)then(k,An.no 9)else ta k (ii k p c):=by
   rw[iR,if_neg (by rw[hl];simp),hc,XO]
  rw[e0];refine aJ (fun h1=>?_) (fun h1=>?_)
  .have h1:c.ah<1:=h1;rw[if_pos (.inl h1)];exact xP
  have h1:¬c.ah<1:=h1;refine aJ (fun h2=>?_) (fun h2=>?_)
  .have h2:c.ah>22:=h2;rw[if_pos (.inr h2)];exact xP
  have h2:¬c.ah>22:=h2;rw[if_neg om];refine⟨_,View.o1 4 [0,1,2,3] [] ?_,Ra prog k p hp c hc om (hi p hp hc dG) hd _ rfl⟩
  .exact .pt rfl rfl (.eq rfl (fa _)) (.pt rfl rfl (.eq rfl (cr _)) (.pt rfl rfl (.eq rfl (by simp[qM])) (.pt rfl rfl (.eq rfl (by simp[bS])) (.nil _))))
theorem UC(prog:List dS)(k:Kr)(c:Cl)(hi:∀(p:Nat)(hp:p<k.ps.length),c.aM=p->k.ps[p].a8=true->Ly k p c)(hd:c.data.length<=4194304){m:Mem}{K:CV->Mem->Prop}(h:K (UB (iR prog k c)) m):
  ar Tryz.prog 16 [qB prog,dX k.l k.ops k.ps,c.cv] m K:=
 aY (cf Tryz.func16 l16 (NN prog k c hi hd)) (by simp[dX,da,eF,fM,qB,Cl.cv,Cl.enc,CV.c7,CC.c7,RV.c7]) fun r m1 hf=>⟨_,hf,h⟩
end Kn
namespace Kn
def dI(o:Obj):List NE:=o.aj.map mH
structure Sk where
 ah:Int
 up:Int
 am:Int
 es:List NE
def tv(o:Obj):Sk:=⟨o.ah,o.up,o.am,dI o⟩
def ZW:Sk:=⟨0,0,0,[]⟩
inductive Lk(t:List Sk):Nat->Prop
 |ap:Lk t 0
 |step {i j:Nat} {d:Sk} {e:NE} (h:Lk t i) (hd:t[i]? =some d) (he:e∈d.es) (hj:e.2=(j:Nat)):Lk t j
structure Tree(t:List Sk):Prop where
 z:∀(i:Nat)d,t[i]? =some d->d.ah=0->d=ZW
 r0:∃d,t[0]? =some d/\d.ah=2/\d.am=1/\d.up=0
 tr:∀(i:Nat)d e,t[i]? =some d->e∈d.es->∃(j:Nat)(x:Sk),e.2=j/\j≠0/\t[j]? =some x/\x.ah≠0/\x.am=1/\(x.ah=2->x.up=i)
 un:∀(i i':Nat)d d' e e',t[i]? =some d->t[i']? =some d'->e∈d.es->e'∈d'.es->e.2=e'.2->i=i'/\e=e'
 lk:∀(i:Nat)d,t[i]? =some d->d.am≠0->Lk t i
 em:∀(i:Nat)d,t[i]? =some d->d.am=0->d.es=[]
 lr:∀(i:Nat)d,t[i]? =some d->d.am=0\/d.am=1
 ux:∀(i:Nat)d,t[i]? =some d->d.up=i\/d.up=0\/d.ah=2/\∃(u:Nat)(x:Sk)(e:NE),d.up=u/\t[u]? =some x/\e∈x.es/\e.2=i
theorem Tree.UD{t:List Sk}(h:Tree t){i:Nat}{d:Sk}(hd:t[i]? =some d):0<=d.up/\d.up<t.length:=by
 have hi:=(Hy.1 hd).1;rcases h.ux i d hd with h1|h1|⟨_,u,x,e,h1,h2,_⟩
 .omega
 .omega
 .have:=(Hy.1 h2).1;omega
theorem Lk.mono{t t':List Sk}(h:∀(i:Nat)d,t[i]? =some d->d.es≠[]->∃d',t'[i]? =some d'/\∀e,e∈d.es->e∈d'.es){i:Nat}(hl:Lk t i):Lk t' i:=by
 induction hl with
 |ap=>exact .ap
 |step _ hd he hj ih=>
  obtain⟨d',h1,h2⟩:=h _ _ hd (fun e=>by rw[e]at he;cases he)
  exact .step ih h1 (h2 _ he) hj
theorem Tree.new{t t':List Sk}(h:Tree t){k:Nat}{s:Sk}(hs:s.ah≠0/\s.am=0/\s.es=[]/\(s.up=0\/s.up=k))(h1:t'[k]? =some s)(h2:∀j,j≠k->t'[j]? =t[j]?)(h3:∀d,t[k]? =some d->d.ah=0):Tree t':=by
 obtain⟨hk,hl,he,hu⟩:=hs;have old:∀(i:Nat)d,t[i]? =some d->d.ah≠0->t'[i]? =some d:=fun i d hd hn=>by rw[h2 i fun e=>hn (h3 d (e▸hd))];exact hd
 have UE:∀(i:Nat)d e,t[i]? =some d->e∈d.es->t'[i]? =some d:=fun i d e hd he=>old i d hd fun hz=>by rw[h.z i d hd hz]at he;cases he
 have ot:∀(i:Nat)d,t'[i]? =some d->(i=k/\d=s)\/t[i]? =some d:=fun i d hd=>by
  by_cases e:i=k
  .subst e;rw[h1]at hd;cases hd;exact .inl ⟨rfl,rfl⟩
  .rw[h2 i e]at hd;exact .inr hd
 have hE:∀(i:Nat)d e,t'[i]? =some d->e∈d.es->t[i]? =some d:=fun i d e hd hx=>by
  rcases ot i d hd with⟨_,rfl⟩|h
  .rw[he]at hx;cases hx
  .exact h
 have Mu:∀i,Lk t i->Lk t' i:=fun i hi=>hi.mono fun i d hd hn=>by obtain⟨e,hx⟩:=abJ _ hn;exact⟨d,UE i d e hd hx,fun _ h=>h⟩
 refine⟨fun i d hd hz=>?_,?_,fun i d e hd hx=>?_,fun i i' d d' e e' hd yk hx th mZ=>h.un i i' d d' e e' (hE i d e hd hx) (hE i' d' e' yk th) hx th mZ,fun i d hd hn=>?_,fun i d hd hn=>?_,fun i d hd=>?_,fun i d hd=>?_⟩
 .rcases ot i d hd with⟨_,rfl⟩|h'
  .exact absurd hz hk
  .exact h.z i d h' hz
 .obtain⟨d,a1,a2,a3⟩:=h.r0;exact⟨d,old 0 d a1 om,a2,a3⟩
 .obtain⟨j,x,a1,a2,a3,a4,a5⟩:=h.tr i d e (hE i d e hd hx) hx;exact⟨j,x,a1,a2,old j x a3 a4,a4,a5⟩
 .rcases ot i d hd with⟨_,rfl⟩|h'
  .exact absurd hl hn
  .exact Mu i (h.lk i d h' hn)
 .rcases ot i d hd with⟨_,rfl⟩|h'
  .exact he
  .exact h.em i d h' hn
 .rcases ot i d hd with⟨_,rfl⟩|h'
  .exact .inl hl
  .exact h.lr i d h'
 .rcases ot i d hd with⟨rfl,rfl⟩|h'
  .exact hu.elim (fun e=>.inr (.inl e)) .inl
  .rcases h.ux i d h' with a|a|⟨a0,u,x,e,a1,a2,a3,a4⟩
   .exact .inl a
   .exact .inr (.inl a)
   .exact .inr (.inr ⟨a0,u,x,e,a1,UE u x e a2 a3,a3,a4⟩)
theorem Tree.enter{t t':List Sk}(h:Tree t){n p:Nat}{d q d' q':Sk}(hn:t[n]? =some d)(hp:t[p]? =some q)(kI:d.am≠0)(J2:q.am=0)(Ic:q.ah≠0){nm:ByteArray}(h1:t'[n]? =some d')(h2:t'[p]? =some q')(h3:∀j,j≠n->j≠p->t'[j]? =t[j]?)(hd:d'.ah=d.ah/\d'.up=d.up/\d'.am=d.am)(Pm:∀e,e∈d'.es↔e∈d.es\/e=(nm,(p:Int)))(hq:q'.ah=q.ah/\q'.am=1/\q'.es=q.es/\q'.up=if q.ah=2 then(n:Int)else q.up):Tree t':=by
 have Eu:n≠p:=fun e=>by subst e;rw[hn]at hp;cases hp;exact kI J2
 have NO:q.es=[]:=h.em p q hp J2;have CU:d.ah≠0:=fun e=>by rw[h.z n d hn e]at kI;exact kI rfl
 have ww:p≠0:=fun e=>by obtain⟨r,a1,a2,a3,a4⟩:=h.r0;rw[e,a1]at hp;cases hp;omega
 have ZX:∀(i:Nat)x e,t[i]? =some x->e∈x.es->e.2≠(p:Int):=fun i x e hx he hc=>by obtain⟨j,y,a1,_,a3,_,a5,_⟩:=h.tr i x e hx he;have:j=p:=om;subst this;rw[hp]at a3;cases a3;omega
 have ot:∀(i:Nat)x,t'[i]? =some x->(i=n/\x=d')\/(i=p/\x=q')\/(i≠n/\i≠p/\t[i]? =some x):=fun i x hx=>by
  by_cases e:i=n
  .subst e;rw[h1]at hx;cases hx;exact .inl ⟨rfl,rfl⟩
  .by_cases e2:i=p
   .subst e2;rw[h2]at hx;cases hx;exact .inr (.inl ⟨rfl,rfl⟩)
   .rw[h3 i e e2]at hx;exact .inr (.inr ⟨e,e2,hx⟩)
 have back:∀(i:Nat)x e,t'[i]? =some x->e∈x.es->(∃y,t[i]? =some y/\e∈y.es)\/(i=n/\e=(nm,(p:Int))):=fun i x e hx he=>by
  rcases ot i x hx with⟨rfl,rfl⟩|⟨rfl,rfl⟩|⟨_,_,hx⟩
  .rcases(Pm e).1 he with he|he
   .exact .inl ⟨d,hn,he⟩
   .exact .inr ⟨rfl,he⟩
  .rw[hq.2.2.1,NO]at he;cases he
  .exact .inl ⟨x,hx,he⟩
 have fwd:∀(i:Nat)x,t[i]? =some x->∃x',t'[i]? =some x'/\x'.ah=x.ah/\∀e,e∈x.es->e∈x'.es:=fun i x hx=>by
  by_cases e:i=n
  .subst e;rw[hn]at hx;cases hx;exact⟨d',h1,hd.1,fun e he=>(Pm e).2 (.inl he)⟩
  .by_cases e2:i=p
   .subst e2;rw[hp]at hx;cases hx;exact⟨q',h2,hq.1,fun e he=>by rw[NO]at he;cases he⟩
   .exact⟨x,by rw[h3 i e e2];exact hx,rfl,fun _ h=>h⟩
 have Mu:∀i,Lk t i->Lk t' i:=fun i hi=>hi.mono fun i x hx _=>by obtain⟨x',a1,_,a2⟩:=fwd i x hx;exact⟨x',a1,a2⟩
 refine⟨fun i x hx hz=>?_,?_,fun i x e hx he=>?_,fun i i' x x' e e' hx th he sh mZ=>?_,fun i x hx Ov=>?_,fun i x hx hz=>?_,fun i x hx=>?_,fun i x hx=>?_⟩
 .rcases ot i x hx with⟨rfl,rfl⟩|⟨rfl,rfl⟩|⟨_,_,hx⟩
  .exact absurd (hd.1▸hz) CU
  .exact absurd (hq.1▸hz) Ic
  .exact h.z i x hx hz
 .obtain⟨r,a1,a2,a3,a4⟩:=h.r0;by_cases e:(0:Nat)=n
  .subst e;rw[a1]at hn;cases hn;exact⟨d',h1,by rw[hd.1];exact a2,by rw[hd.2.2];exact a3,by rw[hd.2.1];exact a4⟩
  .exact⟨r,by rw[h3 0 e (fun e=>ww e.symm)];exact a1,a2,a3,a4⟩
 .rcases back i x e hx he with⟨y,hy,NP⟩|⟨rfl,rfl⟩
  .obtain⟨j,z,a1,a2,a3,a4,a5,a6⟩:=h.tr i y e hy NP;by_cases ej:j=n
   .subst ej;rw[hn]at a3;cases a3;exact⟨j,d',a1,a2,h1,by rw[hd.1];exact a4,by rw[hd.2.2];exact a5,by rw[hd.1,hd.2.1];exact a6⟩
   .have Yv:j≠p:=fun e=>by subst e;rw[hp]at a3;cases a3;omega
    exact⟨j,z,a1,a2,by rw[h3 j ej Yv];exact a3,a4,a5,a6⟩
  .refine⟨p,q',rfl,ww,h2,by rw[hq.1];exact Ic,hq.2.1,fun hk=>?_⟩
   rw[hq.2.2.2,if_pos (by rw[<-hq.1];exact hk)]
 .rcases back i x e hx he with⟨y,hy,NP⟩|⟨rfl,rfl⟩
  .rcases back i' x' e' th sh with⟨y',UF,Lz⟩|⟨rfl,rfl⟩
   .exact h.un i i' y y' e e' hy UF NP Lz mZ
   .exact absurd mZ (ZX i y e hy NP)
  .rcases back i' x' e' th sh with⟨y',UF,Lz⟩|⟨rfl,rfl⟩
   .exact absurd mZ.symm (ZX i' y' e' UF Lz)
   .exact⟨rfl,rfl⟩
 .rcases ot i x hx with⟨rfl,rfl⟩|⟨rfl,rfl⟩|⟨_,_,hx⟩
  .exact Mu _ (h.lk _ d hn kI)
  .exact .step (Mu _ (h.lk _ d hn kI)) h1 ((Pm _).2 (.inr rfl)) rfl
  .exact Mu _ (h.lk i x hx Ov)
 .rcases ot i x hx with⟨rfl,rfl⟩|⟨rfl,rfl⟩|⟨_,_,hx⟩
  .exact absurd (hd.2.2▸hz) kI
  .rw[hq.2.1]at hz;omega
  .exact h.em i x hx hz
 .rcases ot i x hx with⟨rfl,rfl⟩|⟨rfl,rfl⟩|⟨_,_,hx⟩
  .rw[hd.2.2];exact h.lr i d hn
  .exact .inr hq.2.1
  .exact h.lr i x hx
 .have key:∀(i:Nat)(y:Sk),t[i]? =some y->(y.up=i\/y.up=0\/y.ah=2/\∃(u:Nat)(x:Sk)(e:NE),y.up=u/\t'[u]? =some x/\e∈x.es/\e.2=i):=fun i y hy=>by
   rcases h.ux i y hy with a|a|⟨a0,u,z,e,a1,a2,a3,a4⟩
   .exact .inl a
   .exact .inr (.inl a)
   .obtain⟨z',b1,_,b2⟩:=fwd u z a2;exact .inr (.inr ⟨a0,u,z',e,a1,b1,b2 e a3,a4⟩)
  rcases ot i x hx with⟨rfl,rfl⟩|⟨rfl,rfl⟩|⟨_,_,hx⟩
  .rw[hd.2.1,hd.1];exact key i d hn
  .rw[hq.2.2.2,hq.1];by_cases e2:q.ah=2
   .rw[if_pos e2];exact .inr (.inr ⟨e2,n,d',_,rfl,h1,(Pm _).2 (.inr rfl),rfl⟩)
   .rw[if_neg e2];exact key i q hp
  .exact key i x hx
theorem Tree.Ev{t t':List Sk}(h:Tree t){n p:Nat}{d q d' q':Sk}{e0:NE}(hn:t[n]? =some d)(BH:e0∈d.es)(Yw:e0.2=(p:Int))(hp:t[p]? =some q)(NO:q.es=[])(h1:t'[n]? =some d')(h2:t'[p]? =some q')(h3:∀j,j≠n->j≠p->t'[j]? =t[j]?)(hd:d'.ah=d.ah/\d'.up=d.up/\d'.am=d.am)(Pm:∀e,e∈d'.es↔e∈d.es/\e≠e0)(hq:q'.ah=q.ah/\q'.am=0/\q'.es=[]/\q'.up=if q.ah=2 then(p:Int)else q.up):Tree t':=by
 have Eu:n≠p:=fun e=>by subst e;rw[hn]at hp;cases hp;rw[NO]at BH;cases BH
 obtain⟨p',q2,b1,ww,b3,Ic,J2,_⟩:=h.tr n d e0 hn BH;have:p'=p:=om;subst this;rw[hp]at b3;cases b3;have CU:d.ah≠0:=fun e=>by rw[h.z n d hn e]at BH;cases BH
 have ot:∀(i:Nat)x,t'[i]? =some x->(i=n/\x=d')\/(i=p'/\x=q')\/(i≠n/\i≠p'/\t[i]? =some x):=fun i x hx=>by
  by_cases e:i=n
  .subst e;rw[h1]at hx;cases hx;exact .inl ⟨rfl,rfl⟩
  .by_cases e2:i=p'
   .subst e2;rw[h2]at hx;cases hx;exact .inr (.inl ⟨rfl,rfl⟩)
   .rw[h3 i e e2]at hx;exact .inr (.inr ⟨e,e2,hx⟩)
 have back:∀(i:Nat)x e,t'[i]? =some x->e∈x.es->∃y,t[i]? =some y/\e∈y.es/\e≠e0:=fun i x e hx he=>by
  rcases ot i x hx with⟨rfl,rfl⟩|⟨rfl,rfl⟩|⟨c1,_,hx⟩
  .exact⟨d,hn,((Pm e).1 he).1,((Pm e).1 he).2⟩
  .rw[hq.2.2.1]at he;cases he
  .exact⟨x,hx,he,fun e1=>by subst e1;exact c1 (h.un i n x d e e hx hn he BH rfl).1⟩
 have fwd:∀(i:Nat)x,t[i]? =some x->∃x',t'[i]? =some x'/\x'.ah=x.ah/\∀e,e∈x.es->e≠e0->e∈x'.es:=fun i x hx=>by
  by_cases e:i=n
  .subst e;rw[hn]at hx;cases hx;exact⟨d',h1,hd.1,fun e he eL=>(Pm e).2 ⟨he,eL⟩⟩
  .by_cases e2:i=p'
   .subst e2;rw[hp]at hx;cases hx;exact⟨q',h2,hq.1,fun e he=>by rw[NO]at he;cases he⟩
   .exact⟨x,by rw[h3 i e e2];exact hx,rfl,fun _ h _=>h⟩
 have Mu:∀i,Lk t i->i≠p'->Lk t' i:=fun i hi=>by
  induction hi with
  |ap=>exact fun _=>.ap
  | @step i j x e hl hx he hj ih=>
   intro hjp;have RJ:i≠p':=fun e1=>by subst e1;rw[hp]at hx;cases hx;rw[NO]at he;cases he
   obtain⟨x',a1,_,a2⟩:=fwd i x hx;exact .step (ih RJ) a1 (a2 e he fun e1=>hjp (by subst e1;omega)) hj
 refine⟨fun i x hx hz=>?_,?_,fun i x e hx he=>?_,fun i i' x x' e e' hx th he sh mZ=>?_,fun i x hx Ov=>?_,fun i x hx hz=>?_,fun i x hx=>?_,fun i x hx=>?_⟩
 .rcases ot i x hx with⟨rfl,rfl⟩|⟨rfl,rfl⟩|⟨_,_,hx⟩
  .exact absurd (hd.1▸hz) CU
  .exact absurd (hq.1▸hz) Ic
  .exact h.z i x hx hz
 .obtain⟨r,a1,a2,a3,a4⟩:=h.r0;by_cases e:(0:Nat)=n
  .subst e;rw[a1]at hn;cases hn;exact⟨d',h1,by rw[hd.1];exact a2,by rw[hd.2.2];exact a3,by rw[hd.2.1];exact a4⟩
  .exact⟨r,by rw[h3 0 e (fun e=>ww e.symm)];exact a1,a2,a3,a4⟩
 .obtain⟨y,hy,NP,eL⟩:=back i x e hx he;obtain⟨j,z,a1,a2,a3,a4,a5,a6⟩:=h.tr i y e hy NP;by_cases ej:j=n
  .subst ej;rw[hn]at a3;cases a3;exact⟨j,d',a1,a2,h1,by rw[hd.1];exact a4,by rw[hd.2.2];exact a5,by rw[hd.1,hd.2.1];exact a6⟩
  .have Yv:j≠p':=fun e1=>by subst e1;exact eL (h.un i n y d e e0 hy hn NP BH (a1.trans Yw.symm)).2
   exact⟨j,z,a1,a2,by rw[h3 j ej Yv];exact a3,a4,a5,a6⟩
 .obtain⟨y,hy,NP,_⟩:=back i x e hx he;obtain⟨y',UF,Lz,_⟩:=back i' x' e' th sh;exact h.un i i' y y' e e' hy UF NP Lz mZ
 .rcases ot i x hx with⟨rfl,rfl⟩|⟨rfl,rfl⟩|⟨_,c2,hx⟩
  .exact Mu _ (h.lk _ d hn fun e=>by rw[h.em i d hn e]at BH;cases BH) Eu
  .exact absurd hq.2.1 Ov
  .exact Mu _ (h.lk i x hx Ov) c2
 .rcases ot i x hx with⟨rfl,rfl⟩|⟨rfl,rfl⟩|⟨_,_,hx⟩
  .rw[h.em i d hn (hd.2.2▸hz)]at BH;cases BH
  .exact hq.2.2.1
  .exact h.em i x hx hz
 .rcases ot i x hx with⟨rfl,rfl⟩|⟨rfl,rfl⟩|⟨_,_,hx⟩
  .rw[hd.2.2];exact h.lr i d hn
  .exact .inl hq.2.1
  .exact h.lr i x hx
 .have key:∀(i:Nat)(y:Sk),t[i]? =some y->i≠p'->(y.up=i\/y.up=0\/y.ah=2/\∃(u:Nat)(x:Sk)(e:NE),y.up=u/\t'[u]? =some x/\e∈x.es/\e.2=i):=fun i y hy RJ=>by
   rcases h.ux i y hy with a|a|⟨a0,u,z,e,a1,a2,a3,a4⟩
   .exact .inl a
   .exact .inr (.inl a)
   .obtain⟨z',b1,_,b2⟩:=fwd u z a2;exact .inr (.inr ⟨a0,u,z',e,a1,b1,b2 e a3 fun e1=>RJ (by subst e1;omega),a4⟩)
  rcases ot i x hx with⟨rfl,rfl⟩|⟨rfl,rfl⟩|⟨_,c2,hx⟩
  .rw[hd.2.1,hd.1];exact key i d hn Eu
  .rw[hq.2.2.2,hq.1];by_cases e2:q.ah=2
   .rw[if_pos e2];exact .inl rfl
   .rw[if_neg e2];rcases h.ux i q hp with a|a|⟨a0,_⟩
    .exact .inl a
    .exact .inr (.inl a)
    .exact absurd a0 e2
  .exact key i x hx c2
theorem Tree.sub{t t':List Sk}(h:Tree t){M:Nat->Prop}(h0:M 0)(gK:∀(i:Nat)d e(j:Nat),M i->t[i]? =some d->e∈d.es->e.2=(j:Nat)->M j)(h1:∀(i:Nat)d,M i->t[i]? =some d->d.ah≠0->t'[i]? =some d)(h2:∀(i:Nat)d',t'[i]? =some d'->d'=ZW\/t[i]? =some d'/\M i):Tree t':=by
 have hM:∀i,Lk t i->M i:=fun i hi=>by
  induction hi with
  |ap=>exact h0
  |step _ hd he hj ih=>exact gK _ _ _ _ ih hd he hj
 have kE:∀(i:Nat)d e,t[i]? =some d->e∈d.es->d.ah≠0:=fun i d e hd he hz=>by rw[h.z i d hd hz]at he;cases he
 have oE:∀(i:Nat)d e,t[i]? =some d->e∈d.es->M i:=fun i d e hd he=>hM i (h.lk i d hd fun hz=>by rw[h.em i d hd hz]at he;cases he)
 have Mu:∀i,Lk t i->Lk t' i:=fun i hi=>hi.mono fun i d hd hn=>by obtain⟨e,hx⟩:=abJ _ hn;exact⟨d,h1 i d (oE i d e hd hx) hd (kE i d e hd hx),fun _ h=>h⟩
 have bk:∀(i:Nat)d e,t'[i]? =some d->e∈d.es->t[i]? =some d/\M i:=fun i d e hd he=>by
  rcases h2 i d hd with rfl|h
  .cases he
  .exact h
 refine⟨fun i d hd hz=>?_,?_,fun i d e hd hx=>?_,fun i i' d d' e e' hd yk hx th mZ=>h.un i i' d d' e e' (bk i d e hd hx).1 (bk i' d' e' yk th).1 hx th mZ,fun i d hd hn=>?_,fun i d hd hn=>?_,fun i d hd=>?_,fun i d hd=>?_⟩
 .rcases h2 i d hd with h'|⟨h',_⟩
  .exact h'
  .exact h.z i d h' hz
 .obtain⟨d,a1,a2,a3⟩:=h.r0;exact⟨d,h1 0 d h0 a1 om,a2,a3⟩
 .obtain⟨yk,hm⟩:=bk i d e hd hx;obtain⟨j,x,a1,a2,a3,a4,a5⟩:=h.tr i d e yk hx;exact⟨j,x,a1,a2,h1 j x (gK i d e j hm yk hx a1) a3 a4,a4,a5⟩
 .rcases h2 i d hd with rfl|⟨h',_⟩
  .exact absurd rfl hn
  .exact Mu i (h.lk i d h' hn)
 .rcases h2 i d hd with rfl|⟨h',_⟩
  .rfl
  .exact h.em i d h' hn
 .rcases h2 i d hd with rfl|⟨h',_⟩
  .exact .inl rfl
  .exact h.lr i d h'
 .rcases h2 i d hd with rfl|⟨h',_⟩
  .exact .inr (.inl rfl)
  .rcases h.ux i d h' with a|a|⟨a0,u,x,e,a1,a2,a3,a4⟩
   .exact .inl a
   .exact .inr (.inl a)
   .exact .inr (.inr ⟨a0,u,x,e,a1,h1 u x (oE u x e a2 a3) a2 (kE u x e a2 a3),a3,a4⟩)
theorem Tree.take{t:List Sk}(h:Tree t){n:Nat}(hn:1<=n)(hz:∀(i:Nat)d,n<=i->t[i]? =some d->d.ah=0):Tree (t.take n):=by
 have get:∀(i:Nat)d,(t.take n)[i]? =some d->t[i]? =some d:=fun i d hd=>by
  rw[aao]at hd;split at hd
  .exact hd
  .cases hd
 have put:∀(i:Nat)d,t[i]? =some d->d.ah≠0->(t.take n)[i]? =some d:=fun i d hd hk=>by
  rw[aao,if_pos (abX fun hle=>hk (hz i d hle hd))]
  exact hd
 have kE:∀(i:Nat)d e,t[i]? =some d->e∈d.es->d.ah≠0:=fun i d e hd he hz=>by rw[h.z i d hd hz]at he;cases he
 refine⟨fun i d hd hz=>h.z i d (get i d hd) hz,?_,fun i d e hd hx=>?_,fun i i' d d' e e' hd yk hx th mZ=>h.un i i' d d' e e' (get i d hd) (get i' d' yk) hx th mZ,fun i d hd hn=>?_,fun i d hd hn=>h.em i d (get i d hd) hn,fun i d hd=>h.lr i d (get i d hd),fun i d hd=>?_⟩
 .obtain⟨d,a1,a2,a3⟩:=h.r0;exact⟨d,put 0 d a1 om,a2,a3⟩
 .obtain⟨j,x,a1,a2,a3,a4,a5⟩:=h.tr i d e (get i d hd) hx;exact⟨j,x,a1,a2,put j x a3 a4,a4,a5⟩
 .refine(h.lk i d (get i d hd) hn).mono fun i d hd eL=>?_
  obtain⟨e,hx⟩:=abJ _ eL;exact⟨d,put i d hd (kE i d e hd hx),fun _ h=>h⟩
 .rcases h.ux i d (get i d hd)with a|a|⟨a0,u,x,e,a1,a2,a3,a4⟩
  .exact .inl a
  .exact .inr (.inl a)
  .exact .inr (.inr ⟨a0,u,x,e,a1,put u x a2 (kE u x e a2 a3),a3,a4⟩)
end Kn
end Go.Proofs.YthagjdhjmamakaaGreatDoor
