/- Part 35 of 43: what the law stands on. -/
import Derived.Test.YtojhmadmlnfpcaaGreatDoorK16
import Derived.Test.YtojhmadmlnfpcaaGreatDoorK32
import Derived.Test.YtojhmadmlnfpcaaGreatDoorK33
import Derived.Test.YtojhmadmlnfpcaaGreatDoorK34
set_option linter.unusedVariables false
set_option linter.unusedSimpArgs false
set_option linter.unnecessarySimpa false
set_option maxRecDepth 100000
set_option maxHeartbeats 64000000
namespace Go.Proofs.YtojhmadmlnfpcaaGreatDoor
open Go.AM Go.ChangeShapes Go.WideShapes Go.ChangeAt Go.RowKit
def c14:LF:= ⟨22,[.cell true 6 2],(.seq (.ai [qu 1 (.box 0),qu 2 (.alloc [(qd 0),(qd 0),(qd 0),(qd 0),(qd 0),(qd 0)])]) (.seq (.ai [qf 3 1 1,ql 4 3,qu 5 (.aF .and 4 (qi 2147483647)),qf 6 2 1,ql 7 6,qu 8 (.aF .and 7 (qi 2147483647)),qf 9 3 1,ql 10 9,qu 11 (.aF .and 10 (qi 2147483647)),qf 12 4 1,ql 13 12,qu 14 (.aF .and 13 (qi 2147483647)),qf 15 5 1,ql 16 15,qu 17 (.aF .and 16 (qi 2147483647)),qf 18 6 1,ql 19 18,qu 20 (.aF .and 19 (qi 2147483647)),qu 21 (.build [(qd 0),(qd 0),(qd 0),(qd 0),(qd 0),(qd 0)] [(0,1,5),(1,1,8),(2,1,11),(3,1,14),(4,1,17),(5,1,20)]),qw (.store 6 2 21)]) .ret))⟩
def c21:LF:= ⟨116,[.cell true 3 6,.cell true 4 7],(.seq (.ai [qu 4 (.box 1),qu 5 (.box 2),qu 6 (.alloc [.aI,.aI,.aI]),qu 7 (.alloc [(qd 0),(qd 0),(qd 0),.aI])]) (.seq (.block 0 (.seq (.ai [qL 13 3 4,qf 14 0 5,ql 15 14,qu 16 (qc 35 [13,15]),qu 17 (.un .not 16),qm 12 17]) (.cond 12 (.seq (.ai [qL 18 3 4,qu 19 (.build [(qd 0),(qd 0),(qd 0),.aI] [(0,1,(qi 6))]),qw (.store 3 6 18),qw (.store 4 7 19)]) .ret) (.seq (.ai [qf 21 1 5,ql 22 21,qu 23 (.aF .lss 22 (qi 1)),qm 24 23,qg 25 (.bg 1 5) 24 false,qg 26 (.load false 1 25) 24 false,qg 27 (.aF .gtr 26 (qi 22)) 24 false,qu 28 (.pick 24 (qb true) 27),qm 20 28]) (.cond 20 (.seq (.ai [qL 29 3 4,qu 30 (.build [(qd 0),(qd 0),(qd 0),.aI] [(0,1,(qi 1))]),qw (.store 3 6 29),qw (.store 4 7 30)]) .ret) .skip))))) (.cO (.seq (.seq (.ai [qf 31 2 4,ql 32 31,qf 33 0 5,ql 34 33,qu 35 (.bO 4 32 34),qf 36 1 35,ql 37 36]) (.cond 37 (.seq (.ai [qm 39 0,qL 40 9 5,qu 41 (qc 14 [40]),qu 42 (qc 36 [39,41]),qm 38 42,qu 43 (.ext 38 0),qu 44 (.ext 38 1),qm 8 43,qm 9 44]) (.seq (.ai [qm 45 8,qu 46 (.aF .neq 45 (qi 1)),qm 47 46,qg 48 (.bg 1 5) 47 false,qg 49 (.load false 1 48) 47 false,qg 50 (.aF .eql 49 (qi 2)) 47 false,qu 51 (.pick 47 (qb true) 50)]) (.cond 51 (.seq (.ai [qL 52 3 4,qu 53 (.build [(qd 0),(qd 0),(qd 0),.aI] [(0,1,(qi 9))]),qw (.store 3 6 52),qw (.store 4 7 53)]) .ret) .skip))) .skip)) (.cO (.seq (.ai [qL 54 3 4,qf 55 0 5,ql 56 55,qu 57 (.build [.aI,.aI,.aI,(qd 0)] [(0,3,54),(3,1,56)]),qu 58 (.box 57),qm 10 58]) (.seq (.ai [qu 11 (.alloc [(qd 0),(qd 0),(qd 0),.aI])]) (.seq (.seq (.ai [qf 59 1 5,ql 60 59]) (.block 1 (.seq (.seq (.ai [qu 64 (.aF .eql 60 (qi 2)),qm 63 64]) (.cond 63 .skip (.ai [qu 65 (.aF .eql 60 (qi 3)),qm 63 65]))) (.cond 63 (.ai [qm 66 10,qu 67 (qc 37 [66,5]),qw (.store 4 11 67)]) (.seq (.seq (.ai [qu 69 (.aF .eql 60 (qi 4)),qm 68 69]) (.cond 68 .skip (.seq (.ai [qu 70 (.aF .eql 60 (qi 5)),qm 68 70]) (.cond 68 .skip (.ai [qu 71 (.aF .eql 60 (qi 6)),qm 68 71]))))) (.cond 68 (.ai [qm 72 10,qu 73 (qc 38 [72,5]),qw (.store 4 11 73)]) (.seq (.seq (.ai [qu 75 (.aF .eql 60 (qi 7)),qm 74 75]) (.cond 74 .skip (.seq (.ai [qu 76 (.aF .eql 60 (qi 8)),qm 74 76]) (.cond 74 .skip (.ai [qu 77 (.aF .eql 60 (qi 9)),qm 74 77]))))) (.cond 74 (.ai [qm 78 10,qu 79 (qc 39 [78,5]),qw (.store 4 11 79)]) (.seq (.seq (.ai [qu 81 (.aF .eql 60 (qi 10)),qm 80 81]) (.cond 80 .skip (.ai [qu 82 (.aF .eql 60 (qi 11)),qm 80 82]))) (.cond 80 (.ai [qm 83 10,qu 84 (qc 40 [83,5]),qw (.store 4 11 84)]) (.seq (.seq (.ai [qu 86 (.aF .eql 60 (qi 12)),qm 85 86]) (.cond 85 .skip (.seq (.ai [qu 87 (.aF .eql 60 (qi 13)),qm 85 87]) (.cond 85 .skip (.ai [qu 88 (.aF .eql 60 (qi 14)),qm 85 88]))))) (.cond 85 (.ai [qm 89 10,qu 90 (qc 41 [89,5]),qw (.store 4 11 90)]) (.seq (.ai [qu 92 (.aF .eql 60 (qi 15)),qm 91 92]) (.cond 91 (.ai [qm 93 10,qu 94 (qc 42 [93]),qw (.store 4 11 94)]) (.seq (.ai [qu 96 (.aF .eql 60 (qi 16)),qm 95 96]) (.cond 95 (.ai [qm 97 10,qu 98 (qc 43 [97,5]),qw (.store 4 11 98)]) (.seq (.ai [qu 100 (.aF .eql 60 (qi 17)),qm 99 100]) (.cond 99 (.ai [qm 101 10,qu 102 (qc 44 [101,5]),qw (.store 4 11 102)]) (.ai [qm 61 10,qu 62 (qc 45 [61,5]),qw (.store 4 11 62)]))))))))))))))))))) (.cO (.seq (.seq (.ai [qf 103 0 11,ql 104 103,qu 105 (.aF .neq 104 (qi 0))]) (.cond 105 (.seq (.bQ [qL 106 3 4,qf 107 0 11,ql 108 107,qu 109 (.build [(qd 0),(qd 0),(qd 0),.aI] [(0,1,108)]),qw (.store 3 6 106),qw (.store 4 7 109)] [(.cons 0 none (.cons 1 none (.cons 2 none (.cons 3 none (.cons 4 (some [2]) (.cons 5 (some []) .nil))))))]) .ret) .skip)) (.seq (.bQ [qm 110 10,qu 111 (.aW 110),qf 112 0 111,qL 113 3 112,qu 114 (qc 46 [113]),qL 115 4 11,qw (.store 3 6 114),qw (.store 4 7 115)] [(.cons 0 none (.cons 1 none (.cons 2 none (.cons 3 none (.cons 5 none (.cons 4 (some [5]) (.cons 6 (some [5]) (.cons 7 (some []) .nil))))))))]) .ret)))))))))))⟩
namespace Kn
def rV(a:Int):Int:=ln a 2147483647
def jm(c:Cl):oC:=⟨rV c.ah,rV c.fd,rV c.gA,rV c.n,rV c.bx,rV c.a8⟩
def gP(k:Kr)(p:Nat)(c:Cl):Kr×An:=
 if c.ah=2\/c.ah=3 then gN k p c
 else if c.ah=4\/c.ah=5\/c.ah=6 then fZ k p c
 else if c.ah=7\/c.ah=8\/c.ah=9 then oB k p c
 else if c.ah=10\/c.ah=11 then jh k p c
 else if c.ah=12\/c.ah=13\/c.ah=14 then iE k p c
 else if c.ah=15 then lQ k p
 else if c.ah=16 then k6 k p c
 else if c.ah=17 then k7 k p c
 else eS k p c
def Om(k:Kr)(x:Kr×An):Kr×An:=if x.2.iL≠0 then(k,An.no x.2.iL)else(i9 x.1,x.2)
def jj(prog:List dB)(k:Kr)(c:Cl):Kr×An:=
 if ek k.ps c.aL=false then(k,An.no 6)
 else if c.ah<1\/c.ah>22 then(k,An.no 1)
 else if fE k.ps c.aL.toNat=true/\((rI prog (jm c)).1≠1\/c.ah=2)then(k,An.no 9)
 else Om k (gP k c.aL.toNat c)
structure Np(k:Kr)(p:Nat)(c:Cl):Prop where
 w:KW k p
 op:∀ax aA,FH k p c (iD k ax c.cA aA true)
 pr:SP k p (fp k.l)
 q:∀o,o∈k.l->o.ah=5->∃n:Nat,o.aL=n/\n<k.ps.length
 fS:(gP k p c).2.iL=0->dE (gP k p c).1.l (gP k p c).1.ops (gP k p c).1.ps
theorem l14:bs Tryz.prog Tryz.f14=some c14:=by kernel_rfl
theorem ta(c:Cl){m:Mem}{K:CV->Mem->Prop}(h:K (jm c).cv m):ar Tryz.prog 14 [c.cv] m K:=
 bm Tryz.func14 l14 rfl (aak rfl) (show body Tryz.prog c14 [c.cv] [] (fun r m=>r=(jm c).cv)from rfl) rfl rfl h
theorem l21:bs Tryz.prog Tryz.f21=some c21.er:=by kernel_rfl
def ZR:LC:=bK (bK c21.code)
def V4:LC:=pj ZR
def ZS:LC:=bK V4
def V5:LC:=pj ZS
def V6:LC:=bK (bK (bK V5))
def V7:LC:=pj V6
def V8(x:Kr×An):CV:= .bF [iQ x.1,x.2.rv]
def QD(x:Kr×An):Ex->St->Prop:=nG Tryz.prog c21.lj (fun r m=>cJ m r (V8 x))
def rT:Bk:= .var [.aI,.aI,.aI]
theorem zh{m:Mem}{k:Kr}{e n x:Int}:cJ m (.bF [iQ k,.agg [.aa (.val (.int .i64 e)),.aa (.val (.int .i64 n)),.aa (.val (.int .i64 x)),.aI]]) (V8 (k,⟨e,n,x,[]⟩)):=by
 refine .bF rfl fun i r r' h1 h2=>?_
 match i,h1,h2 with
 |0,h1,h2=>cases h1;cases h2;exact eP.self rfl
 |1,h1,h2=>
  cases h1;cases h2;refine .agg rfl fun i c c' h1 h2=>?_
  match i,h1,h2 with
  |0,h1,h2=>cases h1;cases h2;exact .self rfl
  |1,h1,h2=>cases h1;cases h2;exact .self rfl
  |2,h1,h2=>cases h1;cases h2;exact .self rfl
  |3,h1,h2=>cases h1;cases h2;exact .aI 1
  |n+4,h1,h2=>simp at h1
 |n+2,h1,h2=>simp at h1
theorem PL(k:Kr)(p:Nat)(c:Cl)(x:Kr×An)(hx:x.2.iL=0->dE x.1.l x.1.ops x.1.ps):
  aw Tryz.prog 0 V7 (QD (Om k x))
   ⟨mg 116 [(4,.rv (.one (.ptr 0 0))),(6,.rv (.one (.ptr 1 0))),(7,.rv (.one (.ptr 2 0))),(10,.rv (.one (.ptr 3 0))),(11,.rv (.one (.ptr 4 0)))],[kB k,rT,bY,xB x.1 p,.var (x.2.enc.map .aa)]⟩:=by
 obtain⟨k',⟨iL,n,mm,data⟩⟩:=x;refine br (fun he=>?_) (fun he=>?_)
 .have he:iL≠0:=he;rw[Om,if_pos he];refine⟨⟨rfl,trivial⟩,trivial,?_⟩;exact zh
 .have he:iL=0:=he;subst he;rw[Om,if_neg aG];refine I1 k' (hx rfl) ?_;refine⟨⟨rfl,trivial⟩,⟨rfl,trivial⟩,trivial,?_⟩;exact cJ.self rfl
theorem SS(k:Kr)(p:Nat)(dg:p<k.ps.length)(c:Cl)(hc:c.aL=p)(hk:¬(c.ah<1\/c.ah>22))(hi:Np k p c)(hd:c.data.length<=4194304):
  aw Tryz.prog 0 V5 (QD (Om k (gP k p c)))
   ⟨mg 116 [(4,.rv (.one (.ptr 0 0))),(5,.rv (.one (.ptr 1 0))),(6,.rv (.one (.ptr 2 0))),(7,.rv (.one (.ptr 3 0)))],[kB k,cB c,rT,bY]⟩:=by
 have hs:=fun(x:Kr×An)(h:gP k p c=x)=>PL k p c x (by rw[<-h];exact hi.fS)
 obtain⟨aL,ah,fd,gA,n,bx,a8,cA,data⟩:=c;have hc:aL=(p:Nat):=hc;subst hc;have hr:ah=1\/ah=2\/ah=3\/ah=4\/ah=5\/ah=6\/ah=7\/ah=8\/ah=9\/ah=10\/ah=11\/ah=12\/ah=13\/ah=14\/ah=15\/ah=16\/ah=17\/ah=18\/ah=19\/ah=20\/ah=21\/ah=22:=by have hk:¬(ah<1\/ah>22):=hk;omega
 rcases hr with h|h|h|h|h|h|h|h|h|h|h|h|h|h|h|h|h|h|h|h|h|h
 .subst h;have dH:gP k p ⟨(p:Nat),1,fd,gA,n,bx,a8,cA,data⟩=eS k p ⟨(p:Nat),1,fd,gA,n,bx,a8,cA,data⟩:=by rw[gP,if_neg aG,if_neg aG,if_neg aG,if_neg aG,if_neg aG,if_neg aG,if_neg aG,if_neg aG]
  rw[dH];refine dS (ji k p hi.w _ (by simp[p0]) hi.q) 4 1 rfl rfl rfl rfl ?_
  refine⟨_,View.o1 6 [0,2,3,4,5] [] ?_,hs _ dH⟩
  .exact .pt rfl rfl (.eq rfl (cR _)) (.pt rfl rfl (.eq rfl (by simp[rT])) (.pt rfl rfl (.eq rfl (by simp[bY])) (.pt rfl rfl (.eq rfl (bD _ _)) (.pm rfl rfl rfl))))
 .subst h;have dH:gP k p ⟨(p:Nat),2,fd,gA,n,bx,a8,cA,data⟩=gN k p ⟨(p:Nat),2,fd,gA,n,bx,a8,cA,data⟩:=by rw[gP,if_pos aG]
  rw[dH];refine dS (zc k p hi.w _ hi.op) 4 1 rfl rfl rfl rfl ?_;refine⟨_,View.o1 6 [0,2,3,4,5] [] ?_,hs _ dH⟩
  .exact .pt rfl rfl (.eq rfl (cR _)) (.pt rfl rfl (.eq rfl (by simp[rT])) (.pt rfl rfl (.eq rfl (by simp[bY])) (.pt rfl rfl (.eq rfl (bD _ _)) (.pm rfl rfl rfl))))
 .subst h;have dH:gP k p ⟨(p:Nat),3,fd,gA,n,bx,a8,cA,data⟩=gN k p ⟨(p:Nat),3,fd,gA,n,bx,a8,cA,data⟩:=by rw[gP,if_pos aG]
  rw[dH];refine dS (zc k p hi.w _ hi.op) 4 1 rfl rfl rfl rfl ?_;refine⟨_,View.o1 6 [0,2,3,4,5] [] ?_,hs _ dH⟩
  .exact .pt rfl rfl (.eq rfl (cR _)) (.pt rfl rfl (.eq rfl (by simp[rT])) (.pt rfl rfl (.eq rfl (by simp[bY])) (.pt rfl rfl (.eq rfl (bD _ _)) (.pm rfl rfl rfl))))
 .subst h;have dH:gP k p ⟨(p:Nat),4,fd,gA,n,bx,a8,cA,data⟩=fZ k p ⟨(p:Nat),4,fd,gA,n,bx,a8,cA,data⟩:=by rw[gP,if_neg aG,if_pos aG]
  rw[dH];refine dS (pZ k p hi.w _ (.inl rfl) hd) 4 1 rfl rfl rfl rfl ?_;refine⟨_,View.o1 6 [0,2,3,4,5] [] ?_,hs _ dH⟩
  .exact .pt rfl rfl (.eq rfl (cR _)) (.pt rfl rfl (.eq rfl (by simp[rT])) (.pt rfl rfl (.eq rfl (by simp[bY])) (.pt rfl rfl (.eq rfl (bD _ _)) (.pm rfl rfl rfl))))
 .subst h;have dH:gP k p ⟨(p:Nat),5,fd,gA,n,bx,a8,cA,data⟩=fZ k p ⟨(p:Nat),5,fd,gA,n,bx,a8,cA,data⟩:=by rw[gP,if_neg aG,if_pos aG]
  rw[dH];refine dS (pZ k p hi.w _ (.inr (.inl rfl)) hd) 4 1 rfl rfl rfl rfl ?_;refine⟨_,View.o1 6 [0,2,3,4,5] [] ?_,hs _ dH⟩
  .exact .pt rfl rfl (.eq rfl (cR _)) (.pt rfl rfl (.eq rfl (by simp[rT])) (.pt rfl rfl (.eq rfl (by simp[bY])) (.pt rfl rfl (.eq rfl (bD _ _)) (.pm rfl rfl rfl))))
 .subst h;have dH:gP k p ⟨(p:Nat),6,fd,gA,n,bx,a8,cA,data⟩=fZ k p ⟨(p:Nat),6,fd,gA,n,bx,a8,cA,data⟩:=by rw[gP,if_neg aG,if_pos aG]
  rw[dH];refine dS (pZ k p hi.w _ (.inr (.inr rfl)) hd) 4 1 rfl rfl rfl rfl ?_;refine⟨_,View.o1 6 [0,2,3,4,5] [] ?_,hs _ dH⟩
  .exact .pt rfl rfl (.eq rfl (cR _)) (.pt rfl rfl (.eq rfl (by simp[rT])) (.pt rfl rfl (.eq rfl (by simp[bY])) (.pt rfl rfl (.eq rfl (bD _ _)) (.pm rfl rfl rfl))))
 .subst h;have dH:gP k p ⟨(p:Nat),7,fd,gA,n,bx,a8,cA,data⟩=oB k p ⟨(p:Nat),7,fd,gA,n,bx,a8,cA,data⟩:=by rw[gP,if_neg aG,if_neg aG,if_pos aG]
  rw[dH];refine dS (sY k p hi.w _) 4 1 rfl rfl rfl rfl ?_;refine⟨_,View.o1 6 [0,2,3,4,5] [] ?_,hs _ dH⟩
  .exact .pt rfl rfl (.eq rfl (cR _)) (.pt rfl rfl (.eq rfl (by simp[rT])) (.pt rfl rfl (.eq rfl (by simp[bY])) (.pt rfl rfl (.eq rfl (bD _ _)) (.pm rfl rfl rfl))))
 .subst h;have dH:gP k p ⟨(p:Nat),8,fd,gA,n,bx,a8,cA,data⟩=oB k p ⟨(p:Nat),8,fd,gA,n,bx,a8,cA,data⟩:=by rw[gP,if_neg aG,if_neg aG,if_pos aG]
  rw[dH];refine dS (sY k p hi.w _) 4 1 rfl rfl rfl rfl ?_;refine⟨_,View.o1 6 [0,2,3,4,5] [] ?_,hs _ dH⟩
  .exact .pt rfl rfl (.eq rfl (cR _)) (.pt rfl rfl (.eq rfl (by simp[rT])) (.pt rfl rfl (.eq rfl (by simp[bY])) (.pt rfl rfl (.eq rfl (bD _ _)) (.pm rfl rfl rfl))))
 .subst h;have dH:gP k p ⟨(p:Nat),9,fd,gA,n,bx,a8,cA,data⟩=oB k p ⟨(p:Nat),9,fd,gA,n,bx,a8,cA,data⟩:=by rw[gP,if_neg aG,if_neg aG,if_pos aG]
  rw[dH];refine dS (sY k p hi.w _) 4 1 rfl rfl rfl rfl ?_;refine⟨_,View.o1 6 [0,2,3,4,5] [] ?_,hs _ dH⟩
  .exact .pt rfl rfl (.eq rfl (cR _)) (.pt rfl rfl (.eq rfl (by simp[rT])) (.pt rfl rfl (.eq rfl (by simp[bY])) (.pt rfl rfl (.eq rfl (bD _ _)) (.pm rfl rfl rfl))))
 .subst h;have dH:gP k p ⟨(p:Nat),10,fd,gA,n,bx,a8,cA,data⟩=jh k p ⟨(p:Nat),10,fd,gA,n,bx,a8,cA,data⟩:=by rw[gP,if_neg aG,if_neg aG,if_neg aG,if_pos aG]
  rw[dH];refine dS (wJ k p hi.w _) 4 1 rfl rfl rfl rfl ?_;refine⟨_,View.o1 6 [0,2,3,4,5] [] ?_,hs _ dH⟩
  .exact .pt rfl rfl (.eq rfl (cR _)) (.pt rfl rfl (.eq rfl (by simp[rT])) (.pt rfl rfl (.eq rfl (by simp[bY])) (.pt rfl rfl (.eq rfl (bD _ _)) (.pm rfl rfl rfl))))
 .subst h;have dH:gP k p ⟨(p:Nat),11,fd,gA,n,bx,a8,cA,data⟩=jh k p ⟨(p:Nat),11,fd,gA,n,bx,a8,cA,data⟩:=by rw[gP,if_neg aG,if_neg aG,if_neg aG,if_pos aG]
  rw[dH];refine dS (wJ k p hi.w _) 4 1 rfl rfl rfl rfl ?_;refine⟨_,View.o1 6 [0,2,3,4,5] [] ?_,hs _ dH⟩
  .exact .pt rfl rfl (.eq rfl (cR _)) (.pt rfl rfl (.eq rfl (by simp[rT])) (.pt rfl rfl (.eq rfl (by simp[bY])) (.pt rfl rfl (.eq rfl (bD _ _)) (.pm rfl rfl rfl))))
 .subst h;have dH:gP k p ⟨(p:Nat),12,fd,gA,n,bx,a8,cA,data⟩=iE k p ⟨(p:Nat),12,fd,gA,n,bx,a8,cA,data⟩:=by rw[gP,if_neg aG,if_neg aG,if_neg aG,if_neg aG,if_pos aG]
  rw[dH];refine dS (sZ k p hi.w _) 4 1 rfl rfl rfl rfl ?_;refine⟨_,View.o1 6 [0,2,3,4,5] [] ?_,hs _ dH⟩
  .exact .pt rfl rfl (.eq rfl (cR _)) (.pt rfl rfl (.eq rfl (by simp[rT])) (.pt rfl rfl (.eq rfl (by simp[bY])) (.pt rfl rfl (.eq rfl (bD _ _)) (.pm rfl rfl rfl))))
 .subst h;have dH:gP k p ⟨(p:Nat),13,fd,gA,n,bx,a8,cA,data⟩=iE k p ⟨(p:Nat),13,fd,gA,n,bx,a8,cA,data⟩:=by rw[gP,if_neg aG,if_neg aG,if_neg aG,if_neg aG,if_pos aG]
  rw[dH];refine dS (sZ k p hi.w _) 4 1 rfl rfl rfl rfl ?_;refine⟨_,View.o1 6 [0,2,3,4,5] [] ?_,hs _ dH⟩
  .exact .pt rfl rfl (.eq rfl (cR _)) (.pt rfl rfl (.eq rfl (by simp[rT])) (.pt rfl rfl (.eq rfl (by simp[bY])) (.pt rfl rfl (.eq rfl (bD _ _)) (.pm rfl rfl rfl))))
 .subst h;have dH:gP k p ⟨(p:Nat),14,fd,gA,n,bx,a8,cA,data⟩=iE k p ⟨(p:Nat),14,fd,gA,n,bx,a8,cA,data⟩:=by rw[gP,if_neg aG,if_neg aG,if_neg aG,if_neg aG,if_pos aG]
  rw[dH];refine dS (sZ k p hi.w _) 4 1 rfl rfl rfl rfl ?_;refine⟨_,View.o1 6 [0,2,3,4,5] [] ?_,hs _ dH⟩
  .exact .pt rfl rfl (.eq rfl (cR _)) (.pt rfl rfl (.eq rfl (by simp[rT])) (.pt rfl rfl (.eq rfl (by simp[bY])) (.pt rfl rfl (.eq rfl (bD _ _)) (.pm rfl rfl rfl))))
 .subst h;have dH:gP k p ⟨(p:Nat),15,fd,gA,n,bx,a8,cA,data⟩=lQ k p:=by rw[gP,if_neg aG,if_neg aG,if_neg aG,if_neg aG,if_neg aG,if_pos aG]
  rw[dH];refine Nh k p hi.w hi.pr 4 rfl ?_;refine⟨_,View.o1 6 [0,2,3,4,5] [] ?_,hs _ dH⟩
  .exact .pt rfl rfl (.eq rfl (cR _)) (.pt rfl rfl (.eq rfl (by simp[rT])) (.pt rfl rfl (.eq rfl (by simp[bY])) (.pt rfl rfl (.eq rfl (bD _ _)) (.pm rfl rfl rfl))))
 .subst h;have dH:gP k p ⟨(p:Nat),16,fd,gA,n,bx,a8,cA,data⟩=k6 k p ⟨(p:Nat),16,fd,gA,n,bx,a8,cA,data⟩:=by rw[gP,if_neg aG,if_neg aG,if_neg aG,if_neg aG,if_neg aG,if_neg aG,if_pos aG]
  rw[dH];refine dS (JJ k p hi.w _ hd) 4 1 rfl rfl rfl rfl ?_;refine⟨_,View.o1 6 [0,2,3,4,5] [] ?_,hs _ dH⟩
  .exact .pt rfl rfl (.eq rfl (cR _)) (.pt rfl rfl (.eq rfl (by simp[rT])) (.pt rfl rfl (.eq rfl (by simp[bY])) (.pt rfl rfl (.eq rfl (bD _ _)) (.pm rfl rfl rfl))))
 .subst h;have dH:gP k p ⟨(p:Nat),17,fd,gA,n,bx,a8,cA,data⟩=k7 k p ⟨(p:Nat),17,fd,gA,n,bx,a8,cA,data⟩:=by rw[gP,if_neg aG,if_neg aG,if_neg aG,if_neg aG,if_neg aG,if_neg aG,if_neg aG,if_pos aG]
  rw[dH];refine dS (JK k p hi.w _) 4 1 rfl rfl rfl rfl ?_;refine⟨_,View.o1 6 [0,2,3,4,5] [] ?_,hs _ dH⟩
  .exact .pt rfl rfl (.eq rfl (cR _)) (.pt rfl rfl (.eq rfl (by simp[rT])) (.pt rfl rfl (.eq rfl (by simp[bY])) (.pt rfl rfl (.eq rfl (bD _ _)) (.pm rfl rfl rfl))))
 .subst h;have dH:gP k p ⟨(p:Nat),18,fd,gA,n,bx,a8,cA,data⟩=eS k p ⟨(p:Nat),18,fd,gA,n,bx,a8,cA,data⟩:=by rw[gP,if_neg aG,if_neg aG,if_neg aG,if_neg aG,if_neg aG,if_neg aG,if_neg aG,if_neg aG]
  rw[dH];refine dS (ji k p hi.w _ (by simp[p0]) hi.q) 4 1 rfl rfl rfl rfl ?_
  refine⟨_,View.o1 6 [0,2,3,4,5] [] ?_,hs _ dH⟩
  .exact .pt rfl rfl (.eq rfl (cR _)) (.pt rfl rfl (.eq rfl (by simp[rT])) (.pt rfl rfl (.eq rfl (by simp[bY])) (.pt rfl rfl (.eq rfl (bD _ _)) (.pm rfl rfl rfl))))
 .subst h;have dH:gP k p ⟨(p:Nat),19,fd,gA,n,bx,a8,cA,data⟩=eS k p ⟨(p:Nat),19,fd,gA,n,bx,a8,cA,data⟩:=by rw[gP,if_neg aG,if_neg aG,if_neg aG,if_neg aG,if_neg aG,if_neg aG,if_neg aG,if_neg aG]
  rw[dH];refine dS (ji k p hi.w _ (by simp[p0]) hi.q) 4 1 rfl rfl rfl rfl ?_
  refine⟨_,View.o1 6 [0,2,3,4,5] [] ?_,hs _ dH⟩
  .exact .pt rfl rfl (.eq rfl (cR _)) (.pt rfl rfl (.eq rfl (by simp[rT])) (.pt rfl rfl (.eq rfl (by simp[bY])) (.pt rfl rfl (.eq rfl (bD _ _)) (.pm rfl rfl rfl))))
 .subst h;have dH:gP k p ⟨(p:Nat),20,fd,gA,n,bx,a8,cA,data⟩=eS k p ⟨(p:Nat),20,fd,gA,n,bx,a8,cA,data⟩:=by rw[gP,if_neg aG,if_neg aG,if_neg aG,if_neg aG,if_neg aG,if_neg aG,if_neg aG,if_neg aG]
  rw[dH];refine dS (ji k p hi.w _ (by simp[p0]) hi.q) 4 1 rfl rfl rfl rfl ?_
  refine⟨_,View.o1 6 [0,2,3,4,5] [] ?_,hs _ dH⟩
  .exact .pt rfl rfl (.eq rfl (cR _)) (.pt rfl rfl (.eq rfl (by simp[rT])) (.pt rfl rfl (.eq rfl (by simp[bY])) (.pt rfl rfl (.eq rfl (bD _ _)) (.pm rfl rfl rfl))))
 .subst h;have dH:gP k p ⟨(p:Nat),21,fd,gA,n,bx,a8,cA,data⟩=eS k p ⟨(p:Nat),21,fd,gA,n,bx,a8,cA,data⟩:=by rw[gP,if_neg aG,if_neg aG,if_neg aG,if_neg aG,if_neg aG,if_neg aG,if_neg aG,if_neg aG]
  rw[dH];refine dS (ji k p hi.w _ (by simp[p0]) hi.q) 4 1 rfl rfl rfl rfl ?_
  refine⟨_,View.o1 6 [0,2,3,4,5] [] ?_,hs _ dH⟩
  .exact .pt rfl rfl (.eq rfl (cR _)) (.pt rfl rfl (.eq rfl (by simp[rT])) (.pt rfl rfl (.eq rfl (by simp[bY])) (.pt rfl rfl (.eq rfl (bD _ _)) (.pm rfl rfl rfl))))
 .subst h;have dH:gP k p ⟨(p:Nat),22,fd,gA,n,bx,a8,cA,data⟩=eS k p ⟨(p:Nat),22,fd,gA,n,bx,a8,cA,data⟩:=by rw[gP,if_neg aG,if_neg aG,if_neg aG,if_neg aG,if_neg aG,if_neg aG,if_neg aG,if_neg aG]
  rw[dH];refine dS (ji k p hi.w _ (by simp[p0]) hi.q) 4 1 rfl rfl rfl rfl ?_
  refine⟨_,View.o1 6 [0,2,3,4,5] [] ?_,hs _ dH⟩
  .exact .pt rfl rfl (.eq rfl (cR _)) (.pt rfl rfl (.eq rfl (by simp[rT])) (.pt rfl rfl (.eq rfl (by simp[bY])) (.pt rfl rfl (.eq rfl (bD _ _)) (.pm rfl rfl rfl))))
theorem SU(prog:List dB)(k:Kr)(p:Nat)(hp:p<k.ps.length)(c:Cl)(hc:c.aL=p)(hk:¬(c.ah<1\/c.ah>22))(hi:Np k p c)(hd:c.data.length<=4194304)(R:Kr×An)(hR:R=if fE k.ps p=true/\((rI prog (jm c)).1≠1\/c.ah=2)then(k,An.no 9)else Om k (gP k p c)):
  aw Tryz.prog 0 V4 (QD R)
   ⟨mg 116 [(0,rH prog),(4,.rv (.one (.ptr 0 0))),(5,.rv (.one (.ptr 1 0))),(6,.rv (.one (.ptr 2 0))),(7,.rv (.one (.ptr 3 0)))],[kB k,cB c,rT,bY]⟩:=by
 have hs:=SS k p hp c hc hk hi hd;have hf:fE k.ps p=k.ps[p].fenced:=by rw[fE,aab hp]
 refine ag (x:=[.val (.bool k.ps[p].aV),.val (.bool k.ps[p].fenced),.val (.int .i64 k.ps[p].code),xZ k.ps[p].aU]) (by rw[hc];exact d5 hp) ?_
 rw[hf]at hR;generalize k.ps[p].fenced=V9 at hR;cases V9 with
 |false=>
  rw[if_neg aG]at hR;subst hR;refine⟨_,View.o1 4 [0,1,2,3] [] ?_,hs⟩
  .exact .pt rfl rfl (.eq rfl (cR _)) (.pt rfl rfl (.eq rfl (b7 _)) (.pt rfl rfl (.eq rfl (by simp[rT])) (.pt rfl rfl (.eq rfl (by simp[bY])) (.nil _))))
 |true=>
  refine ta c ?_;refine s9 prog (jm c) ?_;generalize rI prog (jm c)=rr at hR;obtain⟨n,st⟩:=rr;refine br (fun hn=>?_) (fun hn=>?_)
  .have hn:n≠1:=hn;rw[if_pos ⟨rfl,.inl hn⟩]at hR;subst hR;exact zh
  have hn:¬n≠1:=fun h=>h hn
  refine bH (fun h2=>?_) (fun h2=>?_)
  .have h2:c.ah=2:=h2;rw[if_pos ⟨rfl,.inr h2⟩]at hR;subst hR;exact zh
  have h2:¬c.ah=2:=h2;rw[if_neg (fun h=>h.2.elim hn h2)]at hR
  subst hR;refine⟨_,View.o1 4 [0,1,2,3] [] ?_,hs⟩
  .exact .pt rfl rfl (.eq rfl (cR _)) (.pt rfl rfl (.eq rfl (b7 _)) (.pt rfl rfl (.eq rfl (by simp[rT])) (.pt rfl rfl (.eq rfl (by simp[bY])) (.nil _))))
theorem PM(prog:List dB)(k:Kr)(c:Cl)(hi:∀(p:Nat)(hp:p<k.ps.length),c.aL=p->k.ps[p].aV=true->Np k p c)(hd:c.data.length<=4194304):
  body Tryz.prog c21 [rH prog,dJ k.l k.ops k.ps,c.cv] [] (fun r m=>cJ m r (V8 (jj prog k c))):=by
 refine ol k.l k.ops k.ps c.aL ?_;cases hl:ek k.ps c.aL with
 |false=>
  rw[jj,if_pos hl];exact zh
 |true=>
  obtain⟨p,hc,hp,dh⟩:=oo hl;have e0:jj prog k c=if c.ah<1\/c.ah>22 then(k,An.no 1)
   else if fE k.ps p=true/\((rI prog (jm c)).1≠1\/c.ah=2)then(k,An.no 9)else Om k (gP k p c):=by
   rw[jj,if_neg (by rw[hl];simp),hc,aaw]
  rw[e0];refine aB (fun h1=>?_) (fun h1=>?_)
  .have h1:c.ah<1:=h1;rw[if_pos (.inl h1)];exact zh
  have h1:¬c.ah<1:=h1;refine aB (fun h2=>?_) (fun h2=>?_)
  .have h2:c.ah>22:=h2;rw[if_pos (.inr h2)];exact zh
  have h2:¬c.ah>22:=h2;rw[if_neg om];refine⟨_,View.o1 4 [0,1,2,3] [] ?_,SU prog k p hp c hc om (hi p hp hc dh) hd _ rfl⟩
  .exact .pt rfl rfl (.eq rfl (cR _)) (.pt rfl rfl (.eq rfl (b7 _)) (.pt rfl rfl (.eq rfl (by simp[rT])) (.pt rfl rfl (.eq rfl (by simp[bY])) (.nil _))))
theorem Wa(prog:List dB)(k:Kr)(c:Cl)(hi:∀(p:Nat)(hp:p<k.ps.length),c.aL=p->k.ps[p].aV=true->Np k p c)(hd:c.data.length<=4194304){m:Mem}{K:CV->Mem->Prop}(h:K (V8 (jj prog k c)) m):
  ar Tryz.prog 21 [rH prog,dJ k.l k.ops k.ps,c.cv] m K:=
 bb (cm Tryz.func21 l21 (PM prog k c hi hd)) (by simp[dJ,cX,eA,fC,rH,Cl.cv,Cl.enc,CV.dx,CC.dx,RV.dx]) fun r m1 hf=>⟨_,hf,h⟩
end Kn
namespace Kn
def eh(o:Obj):List NE:=o.ak.map nu
structure Sk where
 ah:Int
 up:Int
 am:Int
 es:List NE
def uB(o:Obj):Sk:=⟨o.ah,o.up,o.am,eh o⟩
def skZ:Sk:=⟨0,0,0,[]⟩
inductive Lk(t:List Sk):Nat->Prop
 |au:Lk t 0
 |step {i j:Nat} {d:Sk} {e:NE} (h:Lk t i) (hd:t[i]? =some d) (he:e∈d.es) (hj:e.2=(j:Nat)):Lk t j
structure Tree(t:List Sk):Prop where
 z:∀(i:Nat)d,t[i]? =some d->d.ah=0->d=skZ
 r0:∃d,t[0]? =some d/\d.ah=2/\d.am=1/\d.up=0
 tr:∀(i:Nat)d e,t[i]? =some d->e∈d.es->∃(j:Nat)(x:Sk),e.2=j/\j≠0/\t[j]? =some x/\x.ah≠0/\x.am=1/\(x.ah=2->x.up=i)
 un:∀(i i':Nat)d d' e e',t[i]? =some d->t[i']? =some d'->e∈d.es->e'∈d'.es->e.2=e'.2->i=i'/\e=e'
 lk:∀(i:Nat)d,t[i]? =some d->d.am≠0->Lk t i
 em:∀(i:Nat)d,t[i]? =some d->d.am=0->d.es=[]
 lr:∀(i:Nat)d,t[i]? =some d->d.am=0\/d.am=1
 ux:∀(i:Nat)d,t[i]? =some d->d.up=i\/d.up=0\/d.ah=2/\∃(u:Nat)(x:Sk)(e:NE),d.up=u/\t[u]? =some x/\e∈x.es/\e.2=i
theorem Tree.Wb{t:List Sk}(h:Tree t){i:Nat}{d:Sk}(hd:t[i]? =some d):0<=d.up/\d.up<t.length:=by
 have hi:=(aac.1 hd).1;rcases h.ux i d hd with h1|h1|⟨_,u,x,e,h1,h2,_⟩
 .omega
 .omega
 .have:=(aac.1 h2).1;omega
theorem Lk.mono{t t':List Sk}(h:∀(i:Nat)d,t[i]? =some d->d.es≠[]->∃d',t'[i]? =some d'/\∀e,e∈d.es->e∈d'.es){i:Nat}(hl:Lk t i):Lk t' i:=by
 induction hl with
 |au=>exact .au
 |step _ hd he hj ih=>
  obtain⟨d',h1,h2⟩:=h _ _ hd (fun e=>by rw[e]at he;cases he)
  exact .step ih h1 (h2 _ he) hj
theorem Tree.new{t t':List Sk}(h:Tree t){k:Nat}{s:Sk}(hs:s.ah≠0/\s.am=0/\s.es=[]/\(s.up=0\/s.up=k))(h1:t'[k]? =some s)(h2:∀j,j≠k->t'[j]? =t[j]?)(h3:∀d,t[k]? =some d->d.ah=0):Tree t':=by
 obtain⟨hk,hl,he,hu⟩:=hs;have old:∀(i:Nat)d,t[i]? =some d->d.ah≠0->t'[i]? =some d:=fun i d hd hn=>by rw[h2 i fun e=>hn (h3 d (e▸hd))];exact hd
 have Wc:∀(i:Nat)d e,t[i]? =some d->e∈d.es->t'[i]? =some d:=fun i d e hd he=>old i d hd fun hz=>by rw[h.z i d hd hz]at he;cases he
 have o6:∀(i:Nat)d,t'[i]? =some d->(i=k/\d=s)\/t[i]? =some d:=fun i d hd=>by
  by_cases e:i=k
  .subst e;rw[h1]at hd;cases hd;exact .inl ⟨rfl,rfl⟩
  .rw[h2 i e]at hd;exact .inr hd
 have hE:∀(i:Nat)d e,t'[i]? =some d->e∈d.es->t[i]? =some d:=fun i d e hd hx=>by
  rcases o6 i d hd with⟨_,rfl⟩|h
  .rw[he]at hx;cases hx
  .exact h
 have JN:∀i,Lk t i->Lk t' i:=fun i hi=>hi.mono fun i d hd hn=>by obtain⟨e,hx⟩:=ab8 _ hn;exact⟨d,Wc i d e hd hx,fun _ h=>h⟩
 refine⟨fun i d hd hz=>?_,?_,fun i d e hd hx=>?_,fun i i' d d' e e' hd zK hx rQ nM=>h.un i i' d d' e e' (hE i d e hd hx) (hE i' d' e' zK rQ) hx rQ nM,fun i d hd hn=>?_,fun i d hd hn=>?_,fun i d hd=>?_,fun i d hd=>?_⟩
 .rcases o6 i d hd with⟨_,rfl⟩|h'
  .exact absurd hz hk
  .exact h.z i d h' hz
 .obtain⟨d,a1,a2,a3⟩:=h.r0;exact⟨d,old 0 d a1 om,a2,a3⟩
 .obtain⟨j,x,a1,a2,a3,a4,a5⟩:=h.tr i d e (hE i d e hd hx) hx;exact⟨j,x,a1,a2,old j x a3 a4,a4,a5⟩
 .rcases o6 i d hd with⟨_,rfl⟩|h'
  .exact absurd hl hn
  .exact JN i (h.lk i d h' hn)
 .rcases o6 i d hd with⟨_,rfl⟩|h'
  .exact he
  .exact h.em i d h' hn
 .rcases o6 i d hd with⟨_,rfl⟩|h'
  .exact .inl hl
  .exact h.lr i d h'
 .rcases o6 i d hd with⟨rfl,rfl⟩|h'
  .exact hu.elim (fun e=>.inr (.inl e)) .inl
  .rcases h.ux i d h' with a|a|⟨a0,u,x,e,a1,a2,a3,a4⟩
   .exact .inl a
   .exact .inr (.inl a)
   .exact .inr (.inr ⟨a0,u,x,e,a1,Wc u x e a2 a3,a3,a4⟩)
theorem Tree.enter{t t':List Sk}(h:Tree t){n p:Nat}{d q d' q':Sk}(hn:t[n]? =some d)(hp:t[p]? =some q)(lJ:d.am≠0)(Bq:q.am=0)(JO:q.ah≠0){nm:ByteArray}(h1:t'[n]? =some d')(h2:t'[p]? =some q')(h3:∀j,j≠n->j≠p->t'[j]? =t[j]?)(hd:d'.ah=d.ah/\d'.up=d.up/\d'.am=d.am)(Rf:∀e,e∈d'.es↔e∈d.es\/e=(nm,(p:Int)))(hq:q'.ah=q.ah/\q'.am=1/\q'.es=q.es/\q'.up=if q.ah=2 then(n:Int)else q.up):Tree t':=by
 have F5:n≠p:=fun e=>by subst e;rw[hn]at hp;cases hp;exact lJ Bq
 have PN:q.es=[]:=h.em p q hp Bq;have Ek:d.ah≠0:=fun e=>by rw[h.z n d hn e]at lJ;exact lJ rfl
 have x5:p≠0:=fun e=>by obtain⟨r,a1,a2,a3,a4⟩:=h.r0;rw[e,a1]at hp;cases hp;omega
 have nop:∀(i:Nat)x e,t[i]? =some x->e∈x.es->e.2≠(p:Int):=fun i x e hx he hc=>by obtain⟨j,y,a1,_,a3,_,a5,_⟩:=h.tr i x e hx he;have:j=p:=om;subst this;rw[hp]at a3;cases a3;omega
 have o6:∀(i:Nat)x,t'[i]? =some x->(i=n/\x=d')\/(i=p/\x=q')\/(i≠n/\i≠p/\t[i]? =some x):=fun i x hx=>by
  by_cases e:i=n
  .subst e;rw[h1]at hx;cases hx;exact .inl ⟨rfl,rfl⟩
  .by_cases e2:i=p
   .subst e2;rw[h2]at hx;cases hx;exact .inr (.inl ⟨rfl,rfl⟩)
   .rw[h3 i e e2]at hx;exact .inr (.inr ⟨e,e2,hx⟩)
 have back:∀(i:Nat)x e,t'[i]? =some x->e∈x.es->(∃y,t[i]? =some y/\e∈y.es)\/(i=n/\e=(nm,(p:Int))):=fun i x e hx he=>by
  rcases o6 i x hx with⟨rfl,rfl⟩|⟨rfl,rfl⟩|⟨_,_,hx⟩
  .rcases(Rf e).1 he with he|he
   .exact .inl ⟨d,hn,he⟩
   .exact .inr ⟨rfl,he⟩
  .rw[hq.2.2.1,PN]at he;cases he
  .exact .inl ⟨x,hx,he⟩
 have fwd:∀(i:Nat)x,t[i]? =some x->∃x',t'[i]? =some x'/\x'.ah=x.ah/\∀e,e∈x.es->e∈x'.es:=fun i x hx=>by
  by_cases e:i=n
  .subst e;rw[hn]at hx;cases hx;exact⟨d',h1,hd.1,fun e he=>(Rf e).2 (.inl he)⟩
  .by_cases e2:i=p
   .subst e2;rw[hp]at hx;cases hx;exact⟨q',h2,hq.1,fun e he=>by rw[PN]at he;cases he⟩
   .exact⟨x,by rw[h3 i e e2];exact hx,rfl,fun _ h=>h⟩
 have JN:∀i,Lk t i->Lk t' i:=fun i hi=>hi.mono fun i x hx _=>by obtain⟨x',a1,_,a2⟩:=fwd i x hx;exact⟨x',a1,a2⟩
 refine⟨fun i x hx hz=>?_,?_,fun i x e hx he=>?_,fun i i' x x' e e' hx rQ he tE nM=>?_,fun i x hx N4=>?_,fun i x hx hz=>?_,fun i x hx=>?_,fun i x hx=>?_⟩
 .rcases o6 i x hx with⟨rfl,rfl⟩|⟨rfl,rfl⟩|⟨_,_,hx⟩
  .exact absurd (hd.1▸hz) Ek
  .exact absurd (hq.1▸hz) JO
  .exact h.z i x hx hz
 .obtain⟨r,a1,a2,a3,a4⟩:=h.r0;by_cases e:(0:Nat)=n
  .subst e;rw[a1]at hn;cases hn;exact⟨d',h1,by rw[hd.1];exact a2,by rw[hd.2.2];exact a3,by rw[hd.2.1];exact a4⟩
  .exact⟨r,by rw[h3 0 e (fun e=>x5 e.symm)];exact a1,a2,a3,a4⟩
 .rcases back i x e hx he with⟨y,hy,PQ⟩|⟨rfl,rfl⟩
  .obtain⟨j,z,a1,a2,a3,a4,a5,a6⟩:=h.tr i y e hy PQ;by_cases ej:j=n
   .subst ej;rw[hn]at a3;cases a3;exact⟨j,d',a1,a2,h1,by rw[hd.1];exact a4,by rw[hd.2.2];exact a5,by rw[hd.1,hd.2.1];exact a6⟩
   .have ZT:j≠p:=fun e=>by subst e;rw[hp]at a3;cases a3;omega
    exact⟨j,z,a1,a2,by rw[h3 j ej ZT];exact a3,a4,a5,a6⟩
  .refine⟨p,q',rfl,x5,h2,by rw[hq.1];exact JO,hq.2.1,fun hk=>?_⟩
   rw[hq.2.2.2,if_pos (by rw[<-hq.1];exact hk)]
 .rcases back i x e hx he with⟨y,hy,PQ⟩|⟨rfl,rfl⟩
  .rcases back i' x' e' rQ tE with⟨y',SV,Nq⟩|⟨rfl,rfl⟩
   .exact h.un i i' y y' e e' hy SV PQ Nq nM
   .exact absurd nM (nop i y e hy PQ)
  .rcases back i' x' e' rQ tE with⟨y',SV,Nq⟩|⟨rfl,rfl⟩
   .exact absurd nM.symm (nop i' y' e' SV Nq)
   .exact⟨rfl,rfl⟩
 .rcases o6 i x hx with⟨rfl,rfl⟩|⟨rfl,rfl⟩|⟨_,_,hx⟩
  .exact JN _ (h.lk _ d hn lJ)
  .exact .step (JN _ (h.lk _ d hn lJ)) h1 ((Rf _).2 (.inr rfl)) rfl
  .exact JN _ (h.lk i x hx N4)
 .rcases o6 i x hx with⟨rfl,rfl⟩|⟨rfl,rfl⟩|⟨_,_,hx⟩
  .exact absurd (hd.2.2▸hz) lJ
  .rw[hq.2.1]at hz;omega
  .exact h.em i x hx hz
 .rcases o6 i x hx with⟨rfl,rfl⟩|⟨rfl,rfl⟩|⟨_,_,hx⟩
  .rw[hd.2.2];exact h.lr i d hn
  .exact .inr hq.2.1
  .exact h.lr i x hx
 .have key:∀(i:Nat)(y:Sk),t[i]? =some y->(y.up=i\/y.up=0\/y.ah=2/\∃(u:Nat)(x:Sk)(e:NE),y.up=u/\t'[u]? =some x/\e∈x.es/\e.2=i):=fun i y hy=>by
   rcases h.ux i y hy with a|a|⟨a0,u,z,e,a1,a2,a3,a4⟩
   .exact .inl a
   .exact .inr (.inl a)
   .obtain⟨z',b1,_,b2⟩:=fwd u z a2;exact .inr (.inr ⟨a0,u,z',e,a1,b1,b2 e a3,a4⟩)
  rcases o6 i x hx with⟨rfl,rfl⟩|⟨rfl,rfl⟩|⟨_,_,hx⟩
  .rw[hd.2.1,hd.1];exact key i d hn
  .rw[hq.2.2.2,hq.1];by_cases e2:q.ah=2
   .rw[if_pos e2];exact .inr (.inr ⟨e2,n,d',_,rfl,h1,(Rf _).2 (.inr rfl),rfl⟩)
   .rw[if_neg e2];exact key i q hp
  .exact key i x hx
theorem Tree.F6{t t':List Sk}(h:Tree t){n p:Nat}{d q d' q':Sk}{e0:NE}(hn:t[n]? =some d)(C8:e0∈d.es)(ZU:e0.2=(p:Int))(hp:t[p]? =some q)(PN:q.es=[])(h1:t'[n]? =some d')(h2:t'[p]? =some q')(h3:∀j,j≠n->j≠p->t'[j]? =t[j]?)(hd:d'.ah=d.ah/\d'.up=d.up/\d'.am=d.am)(Rf:∀e,e∈d'.es↔e∈d.es/\e≠e0)(hq:q'.ah=q.ah/\q'.am=0/\q'.es=[]/\q'.up=if q.ah=2 then(p:Int)else q.up):Tree t':=by
 have F5:n≠p:=fun e=>by subst e;rw[hn]at hp;cases hp;rw[PN]at C8;cases C8
 obtain⟨p',q2,b1,x5,b3,JO,Bq,_⟩:=h.tr n d e0 hn C8;have:p'=p:=om;subst this;rw[hp]at b3;cases b3;have Ek:d.ah≠0:=fun e=>by rw[h.z n d hn e]at C8;cases C8
 have o6:∀(i:Nat)x,t'[i]? =some x->(i=n/\x=d')\/(i=p'/\x=q')\/(i≠n/\i≠p'/\t[i]? =some x):=fun i x hx=>by
  by_cases e:i=n
  .subst e;rw[h1]at hx;cases hx;exact .inl ⟨rfl,rfl⟩
  .by_cases e2:i=p'
   .subst e2;rw[h2]at hx;cases hx;exact .inr (.inl ⟨rfl,rfl⟩)
   .rw[h3 i e e2]at hx;exact .inr (.inr ⟨e,e2,hx⟩)
 have back:∀(i:Nat)x e,t'[i]? =some x->e∈x.es->∃y,t[i]? =some y/\e∈y.es/\e≠e0:=fun i x e hx he=>by
  rcases o6 i x hx with⟨rfl,rfl⟩|⟨rfl,rfl⟩|⟨c1,_,hx⟩
  .exact⟨d,hn,((Rf e).1 he).1,((Rf e).1 he).2⟩
  .rw[hq.2.2.1]at he;cases he
  .exact⟨x,hx,he,fun e1=>by subst e1;exact c1 (h.un i n x d e e hx hn he C8 rfl).1⟩
 have fwd:∀(i:Nat)x,t[i]? =some x->∃x',t'[i]? =some x'/\x'.ah=x.ah/\∀e,e∈x.es->e≠e0->e∈x'.es:=fun i x hx=>by
  by_cases e:i=n
  .subst e;rw[hn]at hx;cases hx;exact⟨d',h1,hd.1,fun e he eW=>(Rf e).2 ⟨he,eW⟩⟩
  .by_cases e2:i=p'
   .subst e2;rw[hp]at hx;cases hx;exact⟨q',h2,hq.1,fun e he=>by rw[PN]at he;cases he⟩
   .exact⟨x,by rw[h3 i e e2];exact hx,rfl,fun _ h _=>h⟩
 have JN:∀i,Lk t i->i≠p'->Lk t' i:=fun i hi=>by
  induction hi with
  |au=>exact fun _=>.au
  | @step i j x e hl hx he hj ih=>
   intro hjp;have Tp:i≠p':=fun e1=>by subst e1;rw[hp]at hx;cases hx;rw[PN]at he;cases he
   obtain⟨x',a1,_,a2⟩:=fwd i x hx;exact .step (ih Tp) a1 (a2 e he fun e1=>hjp (by subst e1;omega)) hj
 refine⟨fun i x hx hz=>?_,?_,fun i x e hx he=>?_,fun i i' x x' e e' hx rQ he tE nM=>?_,fun i x hx N4=>?_,fun i x hx hz=>?_,fun i x hx=>?_,fun i x hx=>?_⟩
 .rcases o6 i x hx with⟨rfl,rfl⟩|⟨rfl,rfl⟩|⟨_,_,hx⟩
  .exact absurd (hd.1▸hz) Ek
  .exact absurd (hq.1▸hz) JO
  .exact h.z i x hx hz
 .obtain⟨r,a1,a2,a3,a4⟩:=h.r0;by_cases e:(0:Nat)=n
  .subst e;rw[a1]at hn;cases hn;exact⟨d',h1,by rw[hd.1];exact a2,by rw[hd.2.2];exact a3,by rw[hd.2.1];exact a4⟩
  .exact⟨r,by rw[h3 0 e (fun e=>x5 e.symm)];exact a1,a2,a3,a4⟩
 .obtain⟨y,hy,PQ,eW⟩:=back i x e hx he;obtain⟨j,z,a1,a2,a3,a4,a5,a6⟩:=h.tr i y e hy PQ;by_cases ej:j=n
  .subst ej;rw[hn]at a3;cases a3;exact⟨j,d',a1,a2,h1,by rw[hd.1];exact a4,by rw[hd.2.2];exact a5,by rw[hd.1,hd.2.1];exact a6⟩
  .have ZT:j≠p':=fun e1=>by subst e1;exact eW (h.un i n y d e e0 hy hn PQ C8 (a1.trans ZU.symm)).2
   exact⟨j,z,a1,a2,by rw[h3 j ej ZT];exact a3,a4,a5,a6⟩
 .obtain⟨y,hy,PQ,_⟩:=back i x e hx he;obtain⟨y',SV,Nq,_⟩:=back i' x' e' rQ tE;exact h.un i i' y y' e e' hy SV PQ Nq nM
 .rcases o6 i x hx with⟨rfl,rfl⟩|⟨rfl,rfl⟩|⟨_,c2,hx⟩
  .exact JN _ (h.lk _ d hn fun e=>by rw[h.em i d hn e]at C8;cases C8) F5
  .exact absurd hq.2.1 N4
  .exact JN _ (h.lk i x hx N4) c2
 .rcases o6 i x hx with⟨rfl,rfl⟩|⟨rfl,rfl⟩|⟨_,_,hx⟩
  .rw[h.em i d hn (hd.2.2▸hz)]at C8;cases C8
  .exact hq.2.2.1
  .exact h.em i x hx hz
 .rcases o6 i x hx with⟨rfl,rfl⟩|⟨rfl,rfl⟩|⟨_,_,hx⟩
  .rw[hd.2.2];exact h.lr i d hn
  .exact .inl hq.2.1
  .exact h.lr i x hx
 .have key:∀(i:Nat)(y:Sk),t[i]? =some y->i≠p'->(y.up=i\/y.up=0\/y.ah=2/\∃(u:Nat)(x:Sk)(e:NE),y.up=u/\t'[u]? =some x/\e∈x.es/\e.2=i):=fun i y hy Tp=>by
   rcases h.ux i y hy with a|a|⟨a0,u,z,e,a1,a2,a3,a4⟩
   .exact .inl a
   .exact .inr (.inl a)
   .obtain⟨z',b1,_,b2⟩:=fwd u z a2;exact .inr (.inr ⟨a0,u,z',e,a1,b1,b2 e a3 fun e1=>Tp (by subst e1;omega),a4⟩)
  rcases o6 i x hx with⟨rfl,rfl⟩|⟨rfl,rfl⟩|⟨_,c2,hx⟩
  .rw[hd.2.1,hd.1];exact key i d hn F5
  .rw[hq.2.2.2,hq.1];by_cases e2:q.ah=2
   .rw[if_pos e2];exact .inl rfl
   .rw[if_neg e2];rcases h.ux i q hp with a|a|⟨a0,_⟩
    .exact .inl a
    .exact .inr (.inl a)
    .exact absurd a0 e2
  .exact key i x hx c2
theorem Tree.sub{t t':List Sk}(h:Tree t){M:Nat->Prop}(h0:M 0)(gZ:∀(i:Nat)d e(j:Nat),M i->t[i]? =some d->e∈d.es->e.2=(j:Nat)->M j)(h1:∀(i:Nat)d,M i->t[i]? =some d->d.ah≠0->t'[i]? =some d)(h2:∀(i:Nat)d',t'[i]? =some d'->d'=skZ\/t[i]? =some d'/\M i):Tree t':=by
 have hM:∀i,Lk t i->M i:=fun i hi=>by
  induction hi with
  |au=>exact h0
  |step _ hd he hj ih=>exact gZ _ _ _ _ ih hd he hj
 have kE:∀(i:Nat)d e,t[i]? =some d->e∈d.es->d.ah≠0:=fun i d e hd he hz=>by rw[h.z i d hd hz]at he;cases he
 have oE:∀(i:Nat)d e,t[i]? =some d->e∈d.es->M i:=fun i d e hd he=>hM i (h.lk i d hd fun hz=>by rw[h.em i d hd hz]at he;cases he)
 have JN:∀i,Lk t i->Lk t' i:=fun i hi=>hi.mono fun i d hd hn=>by obtain⟨e,hx⟩:=ab8 _ hn;exact⟨d,h1 i d (oE i d e hd hx) hd (kE i d e hd hx),fun _ h=>h⟩
 have bk:∀(i:Nat)d e,t'[i]? =some d->e∈d.es->t[i]? =some d/\M i:=fun i d e hd he=>by
  rcases h2 i d hd with rfl|h
  .cases he
  .exact h
 refine⟨fun i d hd hz=>?_,?_,fun i d e hd hx=>?_,fun i i' d d' e e' hd zK hx rQ nM=>h.un i i' d d' e e' (bk i d e hd hx).1 (bk i' d' e' zK rQ).1 hx rQ nM,fun i d hd hn=>?_,fun i d hd hn=>?_,fun i d hd=>?_,fun i d hd=>?_⟩
 .rcases h2 i d hd with h'|⟨h',_⟩
  .exact h'
  .exact h.z i d h' hz
 .obtain⟨d,a1,a2,a3⟩:=h.r0;exact⟨d,h1 0 d h0 a1 om,a2,a3⟩
 .obtain⟨zK,hm⟩:=bk i d e hd hx;obtain⟨j,x,a1,a2,a3,a4,a5⟩:=h.tr i d e zK hx;exact⟨j,x,a1,a2,h1 j x (gZ i d e j hm zK hx a1) a3 a4,a4,a5⟩
 .rcases h2 i d hd with rfl|⟨h',_⟩
  .exact absurd rfl hn
  .exact JN i (h.lk i d h' hn)
 .rcases h2 i d hd with rfl|⟨h',_⟩
  .rfl
  .exact h.em i d h' hn
 .rcases h2 i d hd with rfl|⟨h',_⟩
  .exact .inl rfl
  .exact h.lr i d h'
 .rcases h2 i d hd with rfl|⟨h',_⟩
  .exact .inr (.inl rfl)
  .rcases h.ux i d h' with a|a|⟨a0,u,x,e,a1,a2,a3,a4⟩
   .exact .inl a
   .exact .inr (.inl a)
   .exact .inr (.inr ⟨a0,u,x,e,a1,h1 u x (oE u x e a2 a3) a2 (kE u x e a2 a3),a3,a4⟩)
theorem Tree.take{t:List Sk}(h:Tree t){n:Nat}(hn:1<=n)(hz:∀(i:Nat)d,n<=i->t[i]? =some d->d.ah=0):Tree (t.take n):=by
 have get:∀(i:Nat)d,(t.take n)[i]? =some d->t[i]? =some d:=fun i d hd=>by
  rw[aaK]at hd;split at hd
  .exact hd
  .cases hd
 have put:∀(i:Nat)d,t[i]? =some d->d.ah≠0->(t.take n)[i]? =some d:=fun i d hd hk=>by
  rw[aaK,if_pos (acn fun hle=>hk (hz i d hle hd))]
  exact hd
 have kE:∀(i:Nat)d e,t[i]? =some d->e∈d.es->d.ah≠0:=fun i d e hd he hz=>by rw[h.z i d hd hz]at he;cases he
 refine⟨fun i d hd hz=>h.z i d (get i d hd) hz,?_,fun i d e hd hx=>?_,fun i i' d d' e e' hd zK hx rQ nM=>h.un i i' d d' e e' (get i d hd) (get i' d' zK) hx rQ nM,fun i d hd hn=>?_,fun i d hd hn=>h.em i d (get i d hd) hn,fun i d hd=>h.lr i d (get i d hd),fun i d hd=>?_⟩
 .obtain⟨d,a1,a2,a3⟩:=h.r0;exact⟨d,put 0 d a1 om,a2,a3⟩
 .obtain⟨j,x,a1,a2,a3,a4,a5⟩:=h.tr i d e (get i d hd) hx;exact⟨j,x,a1,a2,put j x a3 a4,a4,a5⟩
 .refine(h.lk i d (get i d hd) hn).mono fun i d hd eW=>?_
  obtain⟨e,hx⟩:=ab8 _ eW;exact⟨d,put i d hd (kE i d e hd hx),fun _ h=>h⟩
 .rcases h.ux i d (get i d hd)with a|a|⟨a0,u,x,e,a1,a2,a3,a4⟩
  .exact .inl a
  .exact .inr (.inl a)
  .exact .inr (.inr ⟨a0,u,x,e,a1,put u x a2 (kE u x e a2 a3),a3,a4⟩)
end Kn
end Go.Proofs.YtojhmadmlnfpcaaGreatDoor
