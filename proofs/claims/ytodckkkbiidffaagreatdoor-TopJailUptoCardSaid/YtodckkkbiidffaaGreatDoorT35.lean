/- Part 35 of 39: what the law stands on. -/
import Derived.Test.YtodckkkbiidffaaGreatDoorT16
import Derived.Test.YtodckkkbiidffaaGreatDoorT32
import Derived.Test.YtodckkkbiidffaaGreatDoorT33
import Derived.Test.YtodckkkbiidffaaGreatDoorT34
set_option linter.unusedVariables false
set_option linter.unusedSimpArgs false
set_option linter.unnecessarySimpa false
set_option maxRecDepth 100000
set_option maxHeartbeats 64000000
namespace Go.Proofs.YtodckkkbiidffaaGreatDoor
open Go.AM Go.ChangeShapes Go.WideShapes Go.ChangeAt Go.RowKit
def c19:LF:= ⟨116,[.cell true 3 6,.cell true 4 7],(.seq (.ai [qu 4 (.box 1),qu 5 (.box 2),qu 6 (.alloc [.aB,.aB,.aB]),qu 7 (.alloc [(qd 0),(qd 0),(qd 0),.aB])]) (.seq (.block 0 (.seq (.ai [qL 13 3 4,qf 14 0 5,ql 15 14,qu 16 (qc 29 [13,15]),qu 17 (.un .not 16),qm 12 17]) (.cond 12 (.seq (.ai [qL 18 3 4,qu 19 (.build [(qd 0),(qd 0),(qd 0),.aB] [(0,1,(qi 6))]),qw (.store 3 6 18),qw (.store 4 7 19)]) .ret) (.seq (.ai [qf 21 1 5,ql 22 21,qu 23 (.aH .lss 22 (qi 1)),qm 24 23,qg 25 (.bX 1 5) 24 false,qg 26 (.load false 1 25) 24 false,qg 27 (.aH .gtr 26 (qi 22)) 24 false,qu 28 (.pick 24 (qb true) 27),qm 20 28]) (.cond 20 (.seq (.ai [qL 29 3 4,qu 30 (.build [(qd 0),(qd 0),(qd 0),.aB] [(0,1,(qi 1))]),qw (.store 3 6 29),qw (.store 4 7 30)]) .ret) .skip))))) (.cI (.seq (.seq (.ai [qf 31 2 4,ql 32 31,qf 33 0 5,ql 34 33,qu 35 (.cr 4 32 34),qf 36 1 35,ql 37 36]) (.cond 37 (.seq (.ai [qm 39 0,qL 40 9 5,qu 41 (qc 31 [40]),qu 42 (qc 30 [39,41]),qm 38 42,qu 43 (.ext 38 0),qu 44 (.ext 38 1),qm 8 43,qm 9 44]) (.seq (.ai [qm 45 8,qu 46 (.aH .neq 45 (qi 1)),qm 47 46,qg 48 (.bX 1 5) 47 false,qg 49 (.load false 1 48) 47 false,qg 50 (.aH .eql 49 (qi 2)) 47 false,qu 51 (.pick 47 (qb true) 50)]) (.cond 51 (.seq (.ai [qL 52 3 4,qu 53 (.build [(qd 0),(qd 0),(qd 0),.aB] [(0,1,(qi 9))]),qw (.store 3 6 52),qw (.store 4 7 53)]) .ret) .skip))) .skip)) (.cI (.seq (.ai [qL 54 3 4,qf 55 0 5,ql 56 55,qu 57 (.build [.aB,.aB,.aB,(qd 0)] [(0,3,54),(3,1,56)]),qu 58 (.box 57),qm 10 58]) (.seq (.ai [qu 11 (.alloc [(qd 0),(qd 0),(qd 0),.aB])]) (.seq (.seq (.ai [qf 59 1 5,ql 60 59]) (.block 1 (.seq (.seq (.ai [qu 64 (.aH .eql 60 (qi 2)),qm 63 64]) (.cond 63 .skip (.ai [qu 65 (.aH .eql 60 (qi 3)),qm 63 65]))) (.cond 63 (.ai [qm 66 10,qu 67 (qc 32 [66,5]),qw (.store 4 11 67)]) (.seq (.seq (.ai [qu 69 (.aH .eql 60 (qi 4)),qm 68 69]) (.cond 68 .skip (.seq (.ai [qu 70 (.aH .eql 60 (qi 5)),qm 68 70]) (.cond 68 .skip (.ai [qu 71 (.aH .eql 60 (qi 6)),qm 68 71]))))) (.cond 68 (.ai [qm 72 10,qu 73 (qc 33 [72,5]),qw (.store 4 11 73)]) (.seq (.seq (.ai [qu 75 (.aH .eql 60 (qi 7)),qm 74 75]) (.cond 74 .skip (.seq (.ai [qu 76 (.aH .eql 60 (qi 8)),qm 74 76]) (.cond 74 .skip (.ai [qu 77 (.aH .eql 60 (qi 9)),qm 74 77]))))) (.cond 74 (.ai [qm 78 10,qu 79 (qc 34 [78,5]),qw (.store 4 11 79)]) (.seq (.seq (.ai [qu 81 (.aH .eql 60 (qi 10)),qm 80 81]) (.cond 80 .skip (.ai [qu 82 (.aH .eql 60 (qi 11)),qm 80 82]))) (.cond 80 (.ai [qm 83 10,qu 84 (qc 35 [83,5]),qw (.store 4 11 84)]) (.seq (.seq (.ai [qu 86 (.aH .eql 60 (qi 12)),qm 85 86]) (.cond 85 .skip (.seq (.ai [qu 87 (.aH .eql 60 (qi 13)),qm 85 87]) (.cond 85 .skip (.ai [qu 88 (.aH .eql 60 (qi 14)),qm 85 88]))))) (.cond 85 (.ai [qm 89 10,qu 90 (qc 36 [89,5]),qw (.store 4 11 90)]) (.seq (.ai [qu 92 (.aH .eql 60 (qi 15)),qm 91 92]) (.cond 91 (.ai [qm 93 10,qu 94 (qc 37 [93]),qw (.store 4 11 94)]) (.seq (.ai [qu 96 (.aH .eql 60 (qi 16)),qm 95 96]) (.cond 95 (.ai [qm 97 10,qu 98 (qc 38 [97,5]),qw (.store 4 11 98)]) (.seq (.ai [qu 100 (.aH .eql 60 (qi 17)),qm 99 100]) (.cond 99 (.ai [qm 101 10,qu 102 (qc 39 [101,5]),qw (.store 4 11 102)]) (.ai [qm 61 10,qu 62 (qc 40 [61,5]),qw (.store 4 11 62)]))))))))))))))))))) (.cI (.seq (.seq (.ai [qf 103 0 11,ql 104 103,qu 105 (.aH .neq 104 (qi 0))]) (.cond 105 (.seq (.bU [qL 106 3 4,qf 107 0 11,ql 108 107,qu 109 (.build [(qd 0),(qd 0),(qd 0),.aB] [(0,1,108)]),qw (.store 3 6 106),qw (.store 4 7 109)] [(.cons 0 none (.cons 1 none (.cons 2 none (.cons 3 none (.cons 4 (some [2]) (.cons 5 (some []) .nil))))))]) .ret) .skip)) (.seq (.bU [qm 110 10,qu 111 (.aT 110),qf 112 0 111,qL 113 3 112,qu 114 (qc 41 [113]),qL 115 4 11,qw (.store 3 6 114),qw (.store 4 7 115)] [(.cons 0 none (.cons 1 none (.cons 2 none (.cons 3 none (.cons 5 none (.cons 4 (some [5]) (.cons 6 (some [5]) (.cons 7 (some []) .nil))))))))]) .ret)))))))))))⟩
def c31:LF:= ⟨22,[.cell true 6 2],(.seq (.ai [qu 1 (.box 0),qu 2 (.alloc [(qd 0),(qd 0),(qd 0),(qd 0),(qd 0),(qd 0)])]) (.seq (.ai [qf 3 1 1,ql 4 3,qu 5 (.aH .and 4 (qi 2147483647)),qf 6 2 1,ql 7 6,qu 8 (.aH .and 7 (qi 2147483647)),qf 9 3 1,ql 10 9,qu 11 (.aH .and 10 (qi 2147483647)),qf 12 4 1,ql 13 12,qu 14 (.aH .and 13 (qi 2147483647)),qf 15 5 1,ql 16 15,qu 17 (.aH .and 16 (qi 2147483647)),qf 18 6 1,ql 19 18,qu 20 (.aH .and 19 (qi 2147483647)),qu 21 (.build [(qd 0),(qd 0),(qd 0),(qd 0),(qd 0),(qd 0)] [(0,1,5),(1,1,8),(2,1,11),(3,1,14),(4,1,17),(5,1,20)]),qw (.store 6 2 21)]) .ret))⟩
namespace Kn
def p5(a:Int):Int:=iK a 2147483647
def lZ(c:Cl):wM:=⟨p5 c.ah,p5 c.fd,p5 c.fM,p5 c.n,p5 c.bi,p5 c.aR⟩
def g9(k:Kr)(p:Nat)(c:Cl):Kr×An:=
 if c.ah=2\/c.ah=3 then gY k p c
 else if c.ah=4\/c.ah=5\/c.ah=6 then iM k p c
 else if c.ah=7\/c.ah=8\/c.ah=9 then nc k p c
 else if c.ah=10\/c.ah=11 then jM k p c
 else if c.ah=12\/c.ah=13\/c.ah=14 then kz k p c
 else if c.ah=15 then mr k p
 else if c.ah=16 then ml k p c
 else if c.ah=17 then mq k p c
 else fp k p c
def u4(k:Kr)(x:Kr×An):Kr×An:=if x.2.f4≠0 then(k,An.no x.2.f4)else(ox x.1,x.2)
def nI(prog:List dS)(k:Kr)(c:Cl):Kr×An:=
 if eU k.ps c.aM=false then(k,An.no 6)
 else if c.ah<1\/c.ah>22 then(k,An.no 1)
 else if ji k.ps c.aM.toNat=true/\((vu prog (lZ c)).1≠1\/c.ah=2)then(k,An.no 9)
 else u4 k (g9 k c.aM.toNat c)
structure Kf(k:Kr)(p:Nat)(c:Cl):Prop where
 w:KW k p
 op:∀au ax,C1 k p c (fW k au c.bm ax true)
 pr:PE k p (e8 k.l)
 q:∀o,o∈k.l->o.ah=5->∃n:Nat,o.aM=n/\n<k.ps.length
 iu:(g9 k p c).2.f4=0->dz (g9 k p c).1.l (g9 k p c).1.ops (g9 k p c).1.ps
theorem l31:bs Tryz.prog Tryz.f31=some c31:=by kernel_rfl
theorem GR(c:Cl){m:Mem}{K:CV->Mem->Prop}(h:K (lZ c).cv m):aq Tryz.prog 31 [c.cv] m K:=
 bu Tryz.func31 l31 rfl (V5 rfl) (show body Tryz.prog c31 [c.cv] [] (fun r m=>r=(lZ c).cv)from rfl) rfl rfl h
theorem l19:bs Tryz.prog Tryz.f19=some c19.er:=by kernel_rfl
def W0:LC:=bH (bH c19.code)
def S8:LC:=ov W0
def W4:LC:=bH S8
def S9:LC:=ov W4
def Ta:LC:=bH (bH (bH S9))
def Tc:LC:=ov Ta
def Td(x:Kr×An):CV:= .bF [gW x.1,x.2.rv]
def QD(x:Kr×An):Ex->St->Prop:=mJ Tryz.prog c19.jW (fun r m=>cw m r (Td x))
def p4:Bk:= .var [.aB,.aB,.aB]
theorem wO{m:Mem}{k:Kr}{e n x:Int}:cw m (.bF [gW k,.agg [.aa (.val (.int .i64 e)),.aa (.val (.int .i64 n)),.aa (.val (.int .i64 x)),.aB]]) (Td (k,⟨e,n,x,[]⟩)):=by
 refine .bF rfl fun i r r' h1 h2=>?_
 match i,h1,h2 with
 |0,h1,h2=>cases h1;cases h2;exact d8.self rfl
 |1,h1,h2=>
  cases h1;cases h2;refine .agg rfl fun i c c' h1 h2=>?_
  match i,h1,h2 with
  |0,h1,h2=>cases h1;cases h2;exact .self rfl
  |1,h1,h2=>cases h1;cases h2;exact .self rfl
  |2,h1,h2=>cases h1;cases h2;exact .self rfl
  |3,h1,h2=>cases h1;cases h2;exact .aB 1
  |n+4,h1,h2=>simp at h1
 |n+2,h1,h2=>simp at h1
theorem Mw(k:Kr)(p:Nat)(c:Cl)(x:Kr×An)(hx:x.2.f4=0->dz x.1.l x.1.ops x.1.ps):
  aw Tryz.prog 0 Tc (QD (u4 k x))
   ⟨kR 116 [(4,.rv (.one (.ptr 0 0))),(6,.rv (.one (.ptr 1 0))),(7,.rv (.one (.ptr 2 0))),(10,.rv (.one (.ptr 3 0))),(11,.rv (.one (.ptr 4 0)))],[kB k,p4,bQ,xB x.1 p,.var (x.2.enc.map .aa)]⟩:=by
 obtain⟨k',⟨f4,n,mm,data⟩⟩:=x;refine bt (fun he=>?_) (fun he=>?_)
 .have he:f4≠0:=he;rw[u4,if_pos he];refine⟨⟨rfl,trivial⟩,trivial,?_⟩;exact wO
 .have he:f4=0:=he;subst he;rw[u4,if_neg aI];refine F7 k' (hx rfl) ?_;refine⟨⟨rfl,trivial⟩,⟨rfl,trivial⟩,trivial,?_⟩;exact cw.self rfl
theorem PM(k:Kr)(p:Nat)(cP:p<k.ps.length)(c:Cl)(hc:c.aM=p)(hk:¬(c.ah<1\/c.ah>22))(hi:Kf k p c)(hd:c.data.length<=4194304):
  aw Tryz.prog 0 S9 (QD (u4 k (g9 k p c)))
   ⟨kR 116 [(4,.rv (.one (.ptr 0 0))),(5,.rv (.one (.ptr 1 0))),(6,.rv (.one (.ptr 2 0))),(7,.rv (.one (.ptr 3 0)))],[kB k,cB c,p4,bQ]⟩:=by
 have hs:=fun(x:Kr×An)(h:g9 k p c=x)=>Mw k p c x (by rw[<-h];exact hi.iu)
 obtain⟨aM,ah,fd,fM,n,bi,aR,bm,data⟩:=c;have hc:aM=(p:Nat):=hc;subst hc;have hr:ah=1\/ah=2\/ah=3\/ah=4\/ah=5\/ah=6\/ah=7\/ah=8\/ah=9\/ah=10\/ah=11\/ah=12\/ah=13\/ah=14\/ah=15\/ah=16\/ah=17\/ah=18\/ah=19\/ah=20\/ah=21\/ah=22:=by have hk:¬(ah<1\/ah>22):=hk;omega
 rcases hr with h|h|h|h|h|h|h|h|h|h|h|h|h|h|h|h|h|h|h|h|h|h
 .subst h;have dy:g9 k p ⟨(p:Nat),1,fd,fM,n,bi,aR,bm,data⟩=fp k p ⟨(p:Nat),1,fd,fM,n,bi,aR,bm,data⟩:=by rw[g9,if_neg aI,if_neg aI,if_neg aI,if_neg aI,if_neg aI,if_neg aI,if_neg aI,if_neg aI]
  rw[dy];refine dm (iq k p hi.w _ (by simp[oJ]) hi.q) 4 1 rfl rfl rfl rfl ?_
  refine⟨_,View.o1 6 [0,2,3,4,5] [] ?_,hs _ dy⟩
  .exact .pt rfl rfl (.eq rfl (eX _)) (.pt rfl rfl (.eq rfl (by simp[p4])) (.pt rfl rfl (.eq rfl (by simp[bQ])) (.pt rfl rfl (.eq rfl (bx _ _)) (.pm rfl rfl rfl))))
 .subst h;have dy:g9 k p ⟨(p:Nat),2,fd,fM,n,bi,aR,bm,data⟩=gY k p ⟨(p:Nat),2,fd,fM,n,bi,aR,bm,data⟩:=by rw[g9,if_pos aI]
  rw[dy];refine dm (wH k p hi.w _ hi.op) 4 1 rfl rfl rfl rfl ?_;refine⟨_,View.o1 6 [0,2,3,4,5] [] ?_,hs _ dy⟩
  .exact .pt rfl rfl (.eq rfl (eX _)) (.pt rfl rfl (.eq rfl (by simp[p4])) (.pt rfl rfl (.eq rfl (by simp[bQ])) (.pt rfl rfl (.eq rfl (bx _ _)) (.pm rfl rfl rfl))))
 .subst h;have dy:g9 k p ⟨(p:Nat),3,fd,fM,n,bi,aR,bm,data⟩=gY k p ⟨(p:Nat),3,fd,fM,n,bi,aR,bm,data⟩:=by rw[g9,if_pos aI]
  rw[dy];refine dm (wH k p hi.w _ hi.op) 4 1 rfl rfl rfl rfl ?_;refine⟨_,View.o1 6 [0,2,3,4,5] [] ?_,hs _ dy⟩
  .exact .pt rfl rfl (.eq rfl (eX _)) (.pt rfl rfl (.eq rfl (by simp[p4])) (.pt rfl rfl (.eq rfl (by simp[bQ])) (.pt rfl rfl (.eq rfl (bx _ _)) (.pm rfl rfl rfl))))
 .subst h;have dy:g9 k p ⟨(p:Nat),4,fd,fM,n,bi,aR,bm,data⟩=iM k p ⟨(p:Nat),4,fd,fM,n,bi,aR,bm,data⟩:=by rw[g9,if_neg aI,if_pos aI]
  rw[dy];refine dm (oI k p hi.w _ (.inl rfl) hd) 4 1 rfl rfl rfl rfl ?_;refine⟨_,View.o1 6 [0,2,3,4,5] [] ?_,hs _ dy⟩
  .exact .pt rfl rfl (.eq rfl (eX _)) (.pt rfl rfl (.eq rfl (by simp[p4])) (.pt rfl rfl (.eq rfl (by simp[bQ])) (.pt rfl rfl (.eq rfl (bx _ _)) (.pm rfl rfl rfl))))
 .subst h;have dy:g9 k p ⟨(p:Nat),5,fd,fM,n,bi,aR,bm,data⟩=iM k p ⟨(p:Nat),5,fd,fM,n,bi,aR,bm,data⟩:=by rw[g9,if_neg aI,if_pos aI]
  rw[dy];refine dm (oI k p hi.w _ (.inr (.inl rfl)) hd) 4 1 rfl rfl rfl rfl ?_;refine⟨_,View.o1 6 [0,2,3,4,5] [] ?_,hs _ dy⟩
  .exact .pt rfl rfl (.eq rfl (eX _)) (.pt rfl rfl (.eq rfl (by simp[p4])) (.pt rfl rfl (.eq rfl (by simp[bQ])) (.pt rfl rfl (.eq rfl (bx _ _)) (.pm rfl rfl rfl))))
 .subst h;have dy:g9 k p ⟨(p:Nat),6,fd,fM,n,bi,aR,bm,data⟩=iM k p ⟨(p:Nat),6,fd,fM,n,bi,aR,bm,data⟩:=by rw[g9,if_neg aI,if_pos aI]
  rw[dy];refine dm (oI k p hi.w _ (.inr (.inr rfl)) hd) 4 1 rfl rfl rfl rfl ?_;refine⟨_,View.o1 6 [0,2,3,4,5] [] ?_,hs _ dy⟩
  .exact .pt rfl rfl (.eq rfl (eX _)) (.pt rfl rfl (.eq rfl (by simp[p4])) (.pt rfl rfl (.eq rfl (by simp[bQ])) (.pt rfl rfl (.eq rfl (bx _ _)) (.pm rfl rfl rfl))))
 .subst h;have dy:g9 k p ⟨(p:Nat),7,fd,fM,n,bi,aR,bm,data⟩=nc k p ⟨(p:Nat),7,fd,fM,n,bi,aR,bm,data⟩:=by rw[g9,if_neg aI,if_neg aI,if_pos aI]
  rw[dy];refine dm (rc k p hi.w _) 4 1 rfl rfl rfl rfl ?_;refine⟨_,View.o1 6 [0,2,3,4,5] [] ?_,hs _ dy⟩
  .exact .pt rfl rfl (.eq rfl (eX _)) (.pt rfl rfl (.eq rfl (by simp[p4])) (.pt rfl rfl (.eq rfl (by simp[bQ])) (.pt rfl rfl (.eq rfl (bx _ _)) (.pm rfl rfl rfl))))
 .subst h;have dy:g9 k p ⟨(p:Nat),8,fd,fM,n,bi,aR,bm,data⟩=nc k p ⟨(p:Nat),8,fd,fM,n,bi,aR,bm,data⟩:=by rw[g9,if_neg aI,if_neg aI,if_pos aI]
  rw[dy];refine dm (rc k p hi.w _) 4 1 rfl rfl rfl rfl ?_;refine⟨_,View.o1 6 [0,2,3,4,5] [] ?_,hs _ dy⟩
  .exact .pt rfl rfl (.eq rfl (eX _)) (.pt rfl rfl (.eq rfl (by simp[p4])) (.pt rfl rfl (.eq rfl (by simp[bQ])) (.pt rfl rfl (.eq rfl (bx _ _)) (.pm rfl rfl rfl))))
 .subst h;have dy:g9 k p ⟨(p:Nat),9,fd,fM,n,bi,aR,bm,data⟩=nc k p ⟨(p:Nat),9,fd,fM,n,bi,aR,bm,data⟩:=by rw[g9,if_neg aI,if_neg aI,if_pos aI]
  rw[dy];refine dm (rc k p hi.w _) 4 1 rfl rfl rfl rfl ?_;refine⟨_,View.o1 6 [0,2,3,4,5] [] ?_,hs _ dy⟩
  .exact .pt rfl rfl (.eq rfl (eX _)) (.pt rfl rfl (.eq rfl (by simp[p4])) (.pt rfl rfl (.eq rfl (by simp[bQ])) (.pt rfl rfl (.eq rfl (bx _ _)) (.pm rfl rfl rfl))))
 .subst h;have dy:g9 k p ⟨(p:Nat),10,fd,fM,n,bi,aR,bm,data⟩=jM k p ⟨(p:Nat),10,fd,fM,n,bi,aR,bm,data⟩:=by rw[g9,if_neg aI,if_neg aI,if_neg aI,if_pos aI]
  rw[dy];refine dm (uH k p hi.w _) 4 1 rfl rfl rfl rfl ?_;refine⟨_,View.o1 6 [0,2,3,4,5] [] ?_,hs _ dy⟩
  .exact .pt rfl rfl (.eq rfl (eX _)) (.pt rfl rfl (.eq rfl (by simp[p4])) (.pt rfl rfl (.eq rfl (by simp[bQ])) (.pt rfl rfl (.eq rfl (bx _ _)) (.pm rfl rfl rfl))))
 .subst h;have dy:g9 k p ⟨(p:Nat),11,fd,fM,n,bi,aR,bm,data⟩=jM k p ⟨(p:Nat),11,fd,fM,n,bi,aR,bm,data⟩:=by rw[g9,if_neg aI,if_neg aI,if_neg aI,if_pos aI]
  rw[dy];refine dm (uH k p hi.w _) 4 1 rfl rfl rfl rfl ?_;refine⟨_,View.o1 6 [0,2,3,4,5] [] ?_,hs _ dy⟩
  .exact .pt rfl rfl (.eq rfl (eX _)) (.pt rfl rfl (.eq rfl (by simp[p4])) (.pt rfl rfl (.eq rfl (by simp[bQ])) (.pt rfl rfl (.eq rfl (bx _ _)) (.pm rfl rfl rfl))))
 .subst h;have dy:g9 k p ⟨(p:Nat),12,fd,fM,n,bi,aR,bm,data⟩=kz k p ⟨(p:Nat),12,fd,fM,n,bi,aR,bm,data⟩:=by rw[g9,if_neg aI,if_neg aI,if_neg aI,if_neg aI,if_pos aI]
  rw[dy];refine dm (rd k p hi.w _) 4 1 rfl rfl rfl rfl ?_;refine⟨_,View.o1 6 [0,2,3,4,5] [] ?_,hs _ dy⟩
  .exact .pt rfl rfl (.eq rfl (eX _)) (.pt rfl rfl (.eq rfl (by simp[p4])) (.pt rfl rfl (.eq rfl (by simp[bQ])) (.pt rfl rfl (.eq rfl (bx _ _)) (.pm rfl rfl rfl))))
 .subst h;have dy:g9 k p ⟨(p:Nat),13,fd,fM,n,bi,aR,bm,data⟩=kz k p ⟨(p:Nat),13,fd,fM,n,bi,aR,bm,data⟩:=by rw[g9,if_neg aI,if_neg aI,if_neg aI,if_neg aI,if_pos aI]
  rw[dy];refine dm (rd k p hi.w _) 4 1 rfl rfl rfl rfl ?_;refine⟨_,View.o1 6 [0,2,3,4,5] [] ?_,hs _ dy⟩
  .exact .pt rfl rfl (.eq rfl (eX _)) (.pt rfl rfl (.eq rfl (by simp[p4])) (.pt rfl rfl (.eq rfl (by simp[bQ])) (.pt rfl rfl (.eq rfl (bx _ _)) (.pm rfl rfl rfl))))
 .subst h;have dy:g9 k p ⟨(p:Nat),14,fd,fM,n,bi,aR,bm,data⟩=kz k p ⟨(p:Nat),14,fd,fM,n,bi,aR,bm,data⟩:=by rw[g9,if_neg aI,if_neg aI,if_neg aI,if_neg aI,if_pos aI]
  rw[dy];refine dm (rd k p hi.w _) 4 1 rfl rfl rfl rfl ?_;refine⟨_,View.o1 6 [0,2,3,4,5] [] ?_,hs _ dy⟩
  .exact .pt rfl rfl (.eq rfl (eX _)) (.pt rfl rfl (.eq rfl (by simp[p4])) (.pt rfl rfl (.eq rfl (by simp[bQ])) (.pt rfl rfl (.eq rfl (bx _ _)) (.pm rfl rfl rfl))))
 .subst h;have dy:g9 k p ⟨(p:Nat),15,fd,fM,n,bi,aR,bm,data⟩=mr k p:=by rw[g9,if_neg aI,if_neg aI,if_neg aI,if_neg aI,if_neg aI,if_pos aI]
  rw[dy];refine Ka k p hi.w hi.pr 4 rfl ?_;refine⟨_,View.o1 6 [0,2,3,4,5] [] ?_,hs _ dy⟩
  .exact .pt rfl rfl (.eq rfl (eX _)) (.pt rfl rfl (.eq rfl (by simp[p4])) (.pt rfl rfl (.eq rfl (by simp[bQ])) (.pt rfl rfl (.eq rfl (bx _ _)) (.pm rfl rfl rfl))))
 .subst h;have dy:g9 k p ⟨(p:Nat),16,fd,fM,n,bi,aR,bm,data⟩=ml k p ⟨(p:Nat),16,fd,fM,n,bi,aR,bm,data⟩:=by rw[g9,if_neg aI,if_neg aI,if_neg aI,if_neg aI,if_neg aI,if_neg aI,if_pos aI]
  rw[dy];refine dm (GM k p hi.w _ hd) 4 1 rfl rfl rfl rfl ?_;refine⟨_,View.o1 6 [0,2,3,4,5] [] ?_,hs _ dy⟩
  .exact .pt rfl rfl (.eq rfl (eX _)) (.pt rfl rfl (.eq rfl (by simp[p4])) (.pt rfl rfl (.eq rfl (by simp[bQ])) (.pt rfl rfl (.eq rfl (bx _ _)) (.pm rfl rfl rfl))))
 .subst h;have dy:g9 k p ⟨(p:Nat),17,fd,fM,n,bi,aR,bm,data⟩=mq k p ⟨(p:Nat),17,fd,fM,n,bi,aR,bm,data⟩:=by rw[g9,if_neg aI,if_neg aI,if_neg aI,if_neg aI,if_neg aI,if_neg aI,if_neg aI,if_pos aI]
  rw[dy];refine dm (GN k p hi.w _) 4 1 rfl rfl rfl rfl ?_;refine⟨_,View.o1 6 [0,2,3,4,5] [] ?_,hs _ dy⟩
  .exact .pt rfl rfl (.eq rfl (eX _)) (.pt rfl rfl (.eq rfl (by simp[p4])) (.pt rfl rfl (.eq rfl (by simp[bQ])) (.pt rfl rfl (.eq rfl (bx _ _)) (.pm rfl rfl rfl))))
 .subst h;have dy:g9 k p ⟨(p:Nat),18,fd,fM,n,bi,aR,bm,data⟩=fp k p ⟨(p:Nat),18,fd,fM,n,bi,aR,bm,data⟩:=by rw[g9,if_neg aI,if_neg aI,if_neg aI,if_neg aI,if_neg aI,if_neg aI,if_neg aI,if_neg aI]
  rw[dy];refine dm (iq k p hi.w _ (by simp[oJ]) hi.q) 4 1 rfl rfl rfl rfl ?_
  refine⟨_,View.o1 6 [0,2,3,4,5] [] ?_,hs _ dy⟩
  .exact .pt rfl rfl (.eq rfl (eX _)) (.pt rfl rfl (.eq rfl (by simp[p4])) (.pt rfl rfl (.eq rfl (by simp[bQ])) (.pt rfl rfl (.eq rfl (bx _ _)) (.pm rfl rfl rfl))))
 .subst h;have dy:g9 k p ⟨(p:Nat),19,fd,fM,n,bi,aR,bm,data⟩=fp k p ⟨(p:Nat),19,fd,fM,n,bi,aR,bm,data⟩:=by rw[g9,if_neg aI,if_neg aI,if_neg aI,if_neg aI,if_neg aI,if_neg aI,if_neg aI,if_neg aI]
  rw[dy];refine dm (iq k p hi.w _ (by simp[oJ]) hi.q) 4 1 rfl rfl rfl rfl ?_
  refine⟨_,View.o1 6 [0,2,3,4,5] [] ?_,hs _ dy⟩
  .exact .pt rfl rfl (.eq rfl (eX _)) (.pt rfl rfl (.eq rfl (by simp[p4])) (.pt rfl rfl (.eq rfl (by simp[bQ])) (.pt rfl rfl (.eq rfl (bx _ _)) (.pm rfl rfl rfl))))
 .subst h;have dy:g9 k p ⟨(p:Nat),20,fd,fM,n,bi,aR,bm,data⟩=fp k p ⟨(p:Nat),20,fd,fM,n,bi,aR,bm,data⟩:=by rw[g9,if_neg aI,if_neg aI,if_neg aI,if_neg aI,if_neg aI,if_neg aI,if_neg aI,if_neg aI]
  rw[dy];refine dm (iq k p hi.w _ (by simp[oJ]) hi.q) 4 1 rfl rfl rfl rfl ?_
  refine⟨_,View.o1 6 [0,2,3,4,5] [] ?_,hs _ dy⟩
  .exact .pt rfl rfl (.eq rfl (eX _)) (.pt rfl rfl (.eq rfl (by simp[p4])) (.pt rfl rfl (.eq rfl (by simp[bQ])) (.pt rfl rfl (.eq rfl (bx _ _)) (.pm rfl rfl rfl))))
 .subst h;have dy:g9 k p ⟨(p:Nat),21,fd,fM,n,bi,aR,bm,data⟩=fp k p ⟨(p:Nat),21,fd,fM,n,bi,aR,bm,data⟩:=by rw[g9,if_neg aI,if_neg aI,if_neg aI,if_neg aI,if_neg aI,if_neg aI,if_neg aI,if_neg aI]
  rw[dy];refine dm (iq k p hi.w _ (by simp[oJ]) hi.q) 4 1 rfl rfl rfl rfl ?_
  refine⟨_,View.o1 6 [0,2,3,4,5] [] ?_,hs _ dy⟩
  .exact .pt rfl rfl (.eq rfl (eX _)) (.pt rfl rfl (.eq rfl (by simp[p4])) (.pt rfl rfl (.eq rfl (by simp[bQ])) (.pt rfl rfl (.eq rfl (bx _ _)) (.pm rfl rfl rfl))))
 .subst h;have dy:g9 k p ⟨(p:Nat),22,fd,fM,n,bi,aR,bm,data⟩=fp k p ⟨(p:Nat),22,fd,fM,n,bi,aR,bm,data⟩:=by rw[g9,if_neg aI,if_neg aI,if_neg aI,if_neg aI,if_neg aI,if_neg aI,if_neg aI,if_neg aI]
  rw[dy];refine dm (iq k p hi.w _ (by simp[oJ]) hi.q) 4 1 rfl rfl rfl rfl ?_
  refine⟨_,View.o1 6 [0,2,3,4,5] [] ?_,hs _ dy⟩
  .exact .pt rfl rfl (.eq rfl (eX _)) (.pt rfl rfl (.eq rfl (by simp[p4])) (.pt rfl rfl (.eq rfl (by simp[bQ])) (.pt rfl rfl (.eq rfl (bx _ _)) (.pm rfl rfl rfl))))
theorem PN(prog:List dS)(k:Kr)(p:Nat)(hp:p<k.ps.length)(c:Cl)(hc:c.aM=p)(hk:¬(c.ah<1\/c.ah>22))(hi:Kf k p c)(hd:c.data.length<=4194304)(R:Kr×An)(hR:R=if ji k.ps p=true/\((vu prog (lZ c)).1≠1\/c.ah=2)then(k,An.no 9)else u4 k (g9 k p c)):
  aw Tryz.prog 0 S8 (QD R)
   ⟨kR 116 [(0,pT prog),(4,.rv (.one (.ptr 0 0))),(5,.rv (.one (.ptr 1 0))),(6,.rv (.one (.ptr 2 0))),(7,.rv (.one (.ptr 3 0)))],[kB k,cB c,p4,bQ]⟩:=by
 have hs:=PM k p hp c hc hk hi hd;have hf:ji k.ps p=k.ps[p].fenced:=by rw[ji,sA hp]
 refine ag (x:=[.val (.bool k.ps[p].a7),.val (.bool k.ps[p].fenced),.val (.int .i64 k.ps[p].code),vp k.ps[p].bd]) (by rw[hc];exact dM hp) ?_
 rw[hf]at hR;generalize k.ps[p].fenced=Te at hR;cases Te with
 |false=>
  rw[if_neg aI]at hR;subst hR;refine⟨_,View.o1 4 [0,1,2,3] [] ?_,hs⟩
  .exact .pt rfl rfl (.eq rfl (eX _)) (.pt rfl rfl (.eq rfl (ct _)) (.pt rfl rfl (.eq rfl (by simp[p4])) (.pt rfl rfl (.eq rfl (by simp[bQ])) (.nil _))))
 |true=>
  refine GR c ?_;refine PL prog (lZ c) ?_;generalize vu prog (lZ c)=rr at hR;obtain⟨n,st⟩:=rr;refine bt (fun hn=>?_) (fun hn=>?_)
  .have hn:n≠1:=hn;rw[if_pos ⟨rfl,.inl hn⟩]at hR;subst hR;exact wO
  have hn:¬n≠1:=fun h=>h hn
  refine bA (fun h2=>?_) (fun h2=>?_)
  .have h2:c.ah=2:=h2;rw[if_pos ⟨rfl,.inr h2⟩]at hR;subst hR;exact wO
  have h2:¬c.ah=2:=h2;rw[if_neg (fun h=>h.2.elim hn h2)]at hR
  subst hR;refine⟨_,View.o1 4 [0,1,2,3] [] ?_,hs⟩
  .exact .pt rfl rfl (.eq rfl (eX _)) (.pt rfl rfl (.eq rfl (ct _)) (.pt rfl rfl (.eq rfl (by simp[p4])) (.pt rfl rfl (.eq rfl (by simp[bQ])) (.nil _))))
theorem Mx(prog:List dS)(k:Kr)(c:Cl)(hi:∀(p:Nat)(hp:p<k.ps.length),c.aM=p->k.ps[p].a7=true->Kf k p c)(hd:c.data.length<=4194304):
  body Tryz.prog c19 [pT prog,dR k.l k.ops k.ps,c.cv] [] (fun r m=>cw m r (Td (nI prog k c))):=by
 refine mY k.l k.ops k.ps c.aM ?_;cases hl:eU k.ps c.aM with
 |false=>
  rw[nI,if_pos hl];exact wO
 |true=>
  obtain⟨p,hc,hp,dD⟩:=pH hl;have e0:nI prog k c=if c.ah<1\/c.ah>22 then(k,An.no 1)
   else if ji k.ps p=true/\((vu prog (lZ c)).1≠1\/c.ah=2)then(k,An.no 9)else u4 k (g9 k p c):=by
   rw[nI,if_neg (by rw[hl];simp),hc,Wk]
  rw[e0];refine aJ (fun h1=>?_) (fun h1=>?_)
  .have h1:c.ah<1:=h1;rw[if_pos (.inl h1)];exact wO
  have h1:¬c.ah<1:=h1;refine aJ (fun h2=>?_) (fun h2=>?_)
  .have h2:c.ah>22:=h2;rw[if_pos (.inr h2)];exact wO
  have h2:¬c.ah>22:=h2;rw[if_neg om];refine⟨_,View.o1 4 [0,1,2,3] [] ?_,PN prog k p hp c hc om (hi p hp hc dD) hd _ rfl⟩
  .exact .pt rfl rfl (.eq rfl (eX _)) (.pt rfl rfl (.eq rfl (ct _)) (.pt rfl rfl (.eq rfl (by simp[p4])) (.pt rfl rfl (.eq rfl (by simp[bQ])) (.nil _))))
theorem Tf(prog:List dS)(k:Kr)(c:Cl)(hi:∀(p:Nat)(hp:p<k.ps.length),c.aM=p->k.ps[p].a7=true->Kf k p c)(hd:c.data.length<=4194304){m:Mem}{K:CV->Mem->Prop}(h:K (Td (nI prog k c)) m):
  aq Tryz.prog 19 [pT prog,dR k.l k.ops k.ps,c.cv] m K:=
 aY (ce Tryz.func19 l19 (Mx prog k c hi hd)) (by simp[dR,c7,eB,fE,pT,Cl.cv,Cl.enc,CV.c6,CC.c6,RV.c6]) fun r m1 hf=>⟨_,hf,h⟩
end Kn
namespace Kn
def dF(o:Obj):List NE:=o.aj.map ma
structure Sk where
 ah:Int
 up:Int
 am:Int
 es:List NE
def sD(o:Obj):Sk:=⟨o.ah,o.up,o.am,dF o⟩
def Yr:Sk:=⟨0,0,0,[]⟩
inductive Lk(t:List Sk):Nat->Prop
 |ap:Lk t 0
 |step {i j:Nat} {d:Sk} {e:NE} (h:Lk t i) (hd:t[i]? =some d) (he:e∈d.es) (hj:e.2=(j:Nat)):Lk t j
structure Tree(t:List Sk):Prop where
 z:∀(i:Nat)d,t[i]? =some d->d.ah=0->d=Yr
 r0:∃d,t[0]? =some d/\d.ah=2/\d.am=1/\d.up=0
 tr:∀(i:Nat)d e,t[i]? =some d->e∈d.es->∃(j:Nat)(x:Sk),e.2=j/\j≠0/\t[j]? =some x/\x.ah≠0/\x.am=1/\(x.ah=2->x.up=i)
 un:∀(i i':Nat)d d' e e',t[i]? =some d->t[i']? =some d'->e∈d.es->e'∈d'.es->e.2=e'.2->i=i'/\e=e'
 lk:∀(i:Nat)d,t[i]? =some d->d.am≠0->Lk t i
 em:∀(i:Nat)d,t[i]? =some d->d.am=0->d.es=[]
 lr:∀(i:Nat)d,t[i]? =some d->d.am=0\/d.am=1
 ux:∀(i:Nat)d,t[i]? =some d->d.up=i\/d.up=0\/d.ah=2/\∃(u:Nat)(x:Sk)(e:NE),d.up=u/\t[u]? =some x/\e∈x.es/\e.2=i
theorem Tree.Tg{t:List Sk}(h:Tree t){i:Nat}{d:Sk}(hd:t[i]? =some d):0<=d.up/\d.up<t.length:=by
 have hi:=(Gf.1 hd).1;rcases h.ux i d hd with h1|h1|⟨_,u,x,e,h1,h2,_⟩
 .omega
 .omega
 .have:=(Gf.1 h2).1;omega
theorem Lk.mono{t t':List Sk}(h:∀(i:Nat)d,t[i]? =some d->d.es≠[]->∃d',t'[i]? =some d'/\∀e,e∈d.es->e∈d'.es){i:Nat}(hl:Lk t i):Lk t' i:=by
 induction hl with
 |ap=>exact .ap
 |step _ hd he hj ih=>
  obtain⟨d',h1,h2⟩:=h _ _ hd (fun e=>by rw[e]at he;cases he)
  exact .step ih h1 (h2 _ he) hj
theorem Tree.new{t t':List Sk}(h:Tree t){k:Nat}{s:Sk}(hs:s.ah≠0/\s.am=0/\s.es=[]/\(s.up=0\/s.up=k))(h1:t'[k]? =some s)(h2:∀j,j≠k->t'[j]? =t[j]?)(h3:∀d,t[k]? =some d->d.ah=0):Tree t':=by
 obtain⟨hk,hl,he,hu⟩:=hs;have old:∀(i:Nat)d,t[i]? =some d->d.ah≠0->t'[i]? =some d:=fun i d hd hn=>by rw[h2 i fun e=>hn (h3 d (e▸hd))];exact hd
 have Th:∀(i:Nat)d e,t[i]? =some d->e∈d.es->t'[i]? =some d:=fun i d e hd he=>old i d hd fun hz=>by rw[h.z i d hd hz]at he;cases he
 have nJ:∀(i:Nat)d,t'[i]? =some d->(i=k/\d=s)\/t[i]? =some d:=fun i d hd=>by
  by_cases e:i=k
  .subst e;rw[h1]at hd;cases hd;exact .inl ⟨rfl,rfl⟩
  .rw[h2 i e]at hd;exact .inr hd
 have hE:∀(i:Nat)d e,t'[i]? =some d->e∈d.es->t[i]? =some d:=fun i d e hd hx=>by
  rcases nJ i d hd with⟨_,rfl⟩|h
  .rw[he]at hx;cases hx
  .exact h
 have K5:∀i,Lk t i->Lk t' i:=fun i hi=>hi.mono fun i d hd hn=>by obtain⟨e,hx⟩:=abA _ hn;exact⟨d,Th i d e hd hx,fun _ h=>h⟩
 refine⟨fun i d hd hz=>?_,?_,fun i d e hd hx=>?_,fun i i' d d' e e' hd xq hx sn mC=>h.un i i' d d' e e' (hE i d e hd hx) (hE i' d' e' xq sn) hx sn mC,fun i d hd hn=>?_,fun i d hd hn=>?_,fun i d hd=>?_,fun i d hd=>?_⟩
 .rcases nJ i d hd with⟨_,rfl⟩|h'
  .exact absurd hz hk
  .exact h.z i d h' hz
 .obtain⟨d,a1,a2,a3⟩:=h.r0;exact⟨d,old 0 d a1 om,a2,a3⟩
 .obtain⟨j,x,a1,a2,a3,a4,a5⟩:=h.tr i d e (hE i d e hd hx) hx;exact⟨j,x,a1,a2,old j x a3 a4,a4,a5⟩
 .rcases nJ i d hd with⟨_,rfl⟩|h'
  .exact absurd hl hn
  .exact K5 i (h.lk i d h' hn)
 .rcases nJ i d hd with⟨_,rfl⟩|h'
  .exact he
  .exact h.em i d h' hn
 .rcases nJ i d hd with⟨_,rfl⟩|h'
  .exact .inl hl
  .exact h.lr i d h'
 .rcases nJ i d hd with⟨rfl,rfl⟩|h'
  .exact hu.elim (fun e=>.inr (.inl e)) .inl
  .rcases h.ux i d h' with a|a|⟨a0,u,x,e,a1,a2,a3,a4⟩
   .exact .inl a
   .exact .inr (.inl a)
   .exact .inr (.inr ⟨a0,u,x,e,a1,Th u x e a2 a3,a3,a4⟩)
theorem Tree.enter{t t':List Sk}(h:Tree t){n p:Nat}{d q d' q':Sk}(hn:t[n]? =some d)(hp:t[p]? =some q)(kj:d.am≠0)(IK:q.am=0)(GS:q.ah≠0){nm:ByteArray}(h1:t'[n]? =some d')(h2:t'[p]? =some q')(h3:∀j,j≠n->j≠p->t'[j]? =t[j]?)(hd:d'.ah=d.ah/\d'.up=d.up/\d'.am=d.am)(N3:∀e,e∈d'.es↔e∈d.es\/e=(nm,(p:Int)))(hq:q'.ah=q.ah/\q'.am=1/\q'.es=q.es/\q'.up=if q.ah=2 then(n:Int)else q.up):Tree t':=by
 have Dn:n≠p:=fun e=>by subst e;rw[hn]at hp;cases hp;exact kj IK
 have My:q.es=[]:=h.em p q hp IK;have BN:d.ah≠0:=fun e=>by rw[h.z n d hn e]at kj;exact kj rfl
 have sM:p≠0:=fun e=>by obtain⟨r,a1,a2,a3,a4⟩:=h.r0;rw[e,a1]at hp;cases hp;omega
 have Ys:∀(i:Nat)x e,t[i]? =some x->e∈x.es->e.2≠(p:Int):=fun i x e hx he hc=>by obtain⟨j,y,a1,_,a3,_,a5,_⟩:=h.tr i x e hx he;have:j=p:=om;subst this;rw[hp]at a3;cases a3;omega
 have nJ:∀(i:Nat)x,t'[i]? =some x->(i=n/\x=d')\/(i=p/\x=q')\/(i≠n/\i≠p/\t[i]? =some x):=fun i x hx=>by
  by_cases e:i=n
  .subst e;rw[h1]at hx;cases hx;exact .inl ⟨rfl,rfl⟩
  .by_cases e2:i=p
   .subst e2;rw[h2]at hx;cases hx;exact .inr (.inl ⟨rfl,rfl⟩)
   .rw[h3 i e e2]at hx;exact .inr (.inr ⟨e,e2,hx⟩)
 have back:∀(i:Nat)x e,t'[i]? =some x->e∈x.es->(∃y,t[i]? =some y/\e∈y.es)\/(i=n/\e=(nm,(p:Int))):=fun i x e hx he=>by
  rcases nJ i x hx with⟨rfl,rfl⟩|⟨rfl,rfl⟩|⟨_,_,hx⟩
  .rcases(N3 e).1 he with he|he
   .exact .inl ⟨d,hn,he⟩
   .exact .inr ⟨rfl,he⟩
  .rw[hq.2.2.1,My]at he;cases he
  .exact .inl ⟨x,hx,he⟩
 have fwd:∀(i:Nat)x,t[i]? =some x->∃x',t'[i]? =some x'/\x'.ah=x.ah/\∀e,e∈x.es->e∈x'.es:=fun i x hx=>by
  by_cases e:i=n
  .subst e;rw[hn]at hx;cases hx;exact⟨d',h1,hd.1,fun e he=>(N3 e).2 (.inl he)⟩
  .by_cases e2:i=p
   .subst e2;rw[hp]at hx;cases hx;exact⟨q',h2,hq.1,fun e he=>by rw[My]at he;cases he⟩
   .exact⟨x,by rw[h3 i e e2];exact hx,rfl,fun _ h=>h⟩
 have K5:∀i,Lk t i->Lk t' i:=fun i hi=>hi.mono fun i x hx _=>by obtain⟨x',a1,_,a2⟩:=fwd i x hx;exact⟨x',a1,a2⟩
 refine⟨fun i x hx hz=>?_,?_,fun i x e hx he=>?_,fun i i' x x' e e' hx sn he rz mC=>?_,fun i x hx Nc=>?_,fun i x hx hz=>?_,fun i x hx=>?_,fun i x hx=>?_⟩
 .rcases nJ i x hx with⟨rfl,rfl⟩|⟨rfl,rfl⟩|⟨_,_,hx⟩
  .exact absurd (hd.1▸hz) BN
  .exact absurd (hq.1▸hz) GS
  .exact h.z i x hx hz
 .obtain⟨r,a1,a2,a3,a4⟩:=h.r0;by_cases e:(0:Nat)=n
  .subst e;rw[a1]at hn;cases hn;exact⟨d',h1,by rw[hd.1];exact a2,by rw[hd.2.2];exact a3,by rw[hd.2.1];exact a4⟩
  .exact⟨r,by rw[h3 0 e (fun e=>sM e.symm)];exact a1,a2,a3,a4⟩
 .rcases back i x e hx he with⟨y,hy,Mz⟩|⟨rfl,rfl⟩
  .obtain⟨j,z,a1,a2,a3,a4,a5,a6⟩:=h.tr i y e hy Mz;by_cases ej:j=n
   .subst ej;rw[hn]at a3;cases a3;exact⟨j,d',a1,a2,h1,by rw[hd.1];exact a4,by rw[hd.2.2];exact a5,by rw[hd.1,hd.2.1];exact a6⟩
   .have W5:j≠p:=fun e=>by subst e;rw[hp]at a3;cases a3;omega
    exact⟨j,z,a1,a2,by rw[h3 j ej W5];exact a3,a4,a5,a6⟩
  .refine⟨p,q',rfl,sM,h2,by rw[hq.1];exact GS,hq.2.1,fun hk=>?_⟩
   rw[hq.2.2.2,if_pos (by rw[<-hq.1];exact hk)]
 .rcases back i x e hx he with⟨y,hy,Mz⟩|⟨rfl,rfl⟩
  .rcases back i' x' e' sn rz with⟨y',Ti,Kg⟩|⟨rfl,rfl⟩
   .exact h.un i i' y y' e e' hy Ti Mz Kg mC
   .exact absurd mC (Ys i y e hy Mz)
  .rcases back i' x' e' sn rz with⟨y',Ti,Kg⟩|⟨rfl,rfl⟩
   .exact absurd mC.symm (Ys i' y' e' Ti Kg)
   .exact⟨rfl,rfl⟩
 .rcases nJ i x hx with⟨rfl,rfl⟩|⟨rfl,rfl⟩|⟨_,_,hx⟩
  .exact K5 _ (h.lk _ d hn kj)
  .exact .step (K5 _ (h.lk _ d hn kj)) h1 ((N3 _).2 (.inr rfl)) rfl
  .exact K5 _ (h.lk i x hx Nc)
 .rcases nJ i x hx with⟨rfl,rfl⟩|⟨rfl,rfl⟩|⟨_,_,hx⟩
  .exact absurd (hd.2.2▸hz) kj
  .rw[hq.2.1]at hz;omega
  .exact h.em i x hx hz
 .rcases nJ i x hx with⟨rfl,rfl⟩|⟨rfl,rfl⟩|⟨_,_,hx⟩
  .rw[hd.2.2];exact h.lr i d hn
  .exact .inr hq.2.1
  .exact h.lr i x hx
 .have key:∀(i:Nat)(y:Sk),t[i]? =some y->(y.up=i\/y.up=0\/y.ah=2/\∃(u:Nat)(x:Sk)(e:NE),y.up=u/\t'[u]? =some x/\e∈x.es/\e.2=i):=fun i y hy=>by
   rcases h.ux i y hy with a|a|⟨a0,u,z,e,a1,a2,a3,a4⟩
   .exact .inl a
   .exact .inr (.inl a)
   .obtain⟨z',b1,_,b2⟩:=fwd u z a2;exact .inr (.inr ⟨a0,u,z',e,a1,b1,b2 e a3,a4⟩)
  rcases nJ i x hx with⟨rfl,rfl⟩|⟨rfl,rfl⟩|⟨_,_,hx⟩
  .rw[hd.2.1,hd.1];exact key i d hn
  .rw[hq.2.2.2,hq.1];by_cases e2:q.ah=2
   .rw[if_pos e2];exact .inr (.inr ⟨e2,n,d',_,rfl,h1,(N3 _).2 (.inr rfl),rfl⟩)
   .rw[if_neg e2];exact key i q hp
  .exact key i x hx
theorem Tree.Dp{t t':List Sk}(h:Tree t){n p:Nat}{d q d' q':Sk}{e0:NE}(hn:t[n]? =some d)(AL:e0∈d.es)(W6:e0.2=(p:Int))(hp:t[p]? =some q)(My:q.es=[])(h1:t'[n]? =some d')(h2:t'[p]? =some q')(h3:∀j,j≠n->j≠p->t'[j]? =t[j]?)(hd:d'.ah=d.ah/\d'.up=d.up/\d'.am=d.am)(N3:∀e,e∈d'.es↔e∈d.es/\e≠e0)(hq:q'.ah=q.ah/\q'.am=0/\q'.es=[]/\q'.up=if q.ah=2 then(p:Int)else q.up):Tree t':=by
 have Dn:n≠p:=fun e=>by subst e;rw[hn]at hp;cases hp;rw[My]at AL;cases AL
 obtain⟨p',q2,b1,sM,b3,GS,IK,_⟩:=h.tr n d e0 hn AL;have:p'=p:=om;subst this;rw[hp]at b3;cases b3;have BN:d.ah≠0:=fun e=>by rw[h.z n d hn e]at AL;cases AL
 have nJ:∀(i:Nat)x,t'[i]? =some x->(i=n/\x=d')\/(i=p'/\x=q')\/(i≠n/\i≠p'/\t[i]? =some x):=fun i x hx=>by
  by_cases e:i=n
  .subst e;rw[h1]at hx;cases hx;exact .inl ⟨rfl,rfl⟩
  .by_cases e2:i=p'
   .subst e2;rw[h2]at hx;cases hx;exact .inr (.inl ⟨rfl,rfl⟩)
   .rw[h3 i e e2]at hx;exact .inr (.inr ⟨e,e2,hx⟩)
 have back:∀(i:Nat)x e,t'[i]? =some x->e∈x.es->∃y,t[i]? =some y/\e∈y.es/\e≠e0:=fun i x e hx he=>by
  rcases nJ i x hx with⟨rfl,rfl⟩|⟨rfl,rfl⟩|⟨c1,_,hx⟩
  .exact⟨d,hn,((N3 e).1 he).1,((N3 e).1 he).2⟩
  .rw[hq.2.2.1]at he;cases he
  .exact⟨x,hx,he,fun e1=>by subst e1;exact c1 (h.un i n x d e e hx hn he AL rfl).1⟩
 have fwd:∀(i:Nat)x,t[i]? =some x->∃x',t'[i]? =some x'/\x'.ah=x.ah/\∀e,e∈x.es->e≠e0->e∈x'.es:=fun i x hx=>by
  by_cases e:i=n
  .subst e;rw[hn]at hx;cases hx;exact⟨d',h1,hd.1,fun e he eG=>(N3 e).2 ⟨he,eG⟩⟩
  .by_cases e2:i=p'
   .subst e2;rw[hp]at hx;cases hx;exact⟨q',h2,hq.1,fun e he=>by rw[My]at he;cases he⟩
   .exact⟨x,by rw[h3 i e e2];exact hx,rfl,fun _ h _=>h⟩
 have K5:∀i,Lk t i->i≠p'->Lk t' i:=fun i hi=>by
  induction hi with
  |ap=>exact fun _=>.ap
  | @step i j x e hl hx he hj ih=>
   intro hjp;have Qh:i≠p':=fun e1=>by subst e1;rw[hp]at hx;cases hx;rw[My]at he;cases he
   obtain⟨x',a1,_,a2⟩:=fwd i x hx;exact .step (ih Qh) a1 (a2 e he fun e1=>hjp (by subst e1;omega)) hj
 refine⟨fun i x hx hz=>?_,?_,fun i x e hx he=>?_,fun i i' x x' e e' hx sn he rz mC=>?_,fun i x hx Nc=>?_,fun i x hx hz=>?_,fun i x hx=>?_,fun i x hx=>?_⟩
 .rcases nJ i x hx with⟨rfl,rfl⟩|⟨rfl,rfl⟩|⟨_,_,hx⟩
  .exact absurd (hd.1▸hz) BN
  .exact absurd (hq.1▸hz) GS
  .exact h.z i x hx hz
 .obtain⟨r,a1,a2,a3,a4⟩:=h.r0;by_cases e:(0:Nat)=n
  .subst e;rw[a1]at hn;cases hn;exact⟨d',h1,by rw[hd.1];exact a2,by rw[hd.2.2];exact a3,by rw[hd.2.1];exact a4⟩
  .exact⟨r,by rw[h3 0 e (fun e=>sM e.symm)];exact a1,a2,a3,a4⟩
 .obtain⟨y,hy,Mz,eG⟩:=back i x e hx he;obtain⟨j,z,a1,a2,a3,a4,a5,a6⟩:=h.tr i y e hy Mz;by_cases ej:j=n
  .subst ej;rw[hn]at a3;cases a3;exact⟨j,d',a1,a2,h1,by rw[hd.1];exact a4,by rw[hd.2.2];exact a5,by rw[hd.1,hd.2.1];exact a6⟩
  .have W5:j≠p':=fun e1=>by subst e1;exact eG (h.un i n y d e e0 hy hn Mz AL (a1.trans W6.symm)).2
   exact⟨j,z,a1,a2,by rw[h3 j ej W5];exact a3,a4,a5,a6⟩
 .obtain⟨y,hy,Mz,_⟩:=back i x e hx he;obtain⟨y',Ti,Kg,_⟩:=back i' x' e' sn rz;exact h.un i i' y y' e e' hy Ti Mz Kg mC
 .rcases nJ i x hx with⟨rfl,rfl⟩|⟨rfl,rfl⟩|⟨_,c2,hx⟩
  .exact K5 _ (h.lk _ d hn fun e=>by rw[h.em i d hn e]at AL;cases AL) Dn
  .exact absurd hq.2.1 Nc
  .exact K5 _ (h.lk i x hx Nc) c2
 .rcases nJ i x hx with⟨rfl,rfl⟩|⟨rfl,rfl⟩|⟨_,_,hx⟩
  .rw[h.em i d hn (hd.2.2▸hz)]at AL;cases AL
  .exact hq.2.2.1
  .exact h.em i x hx hz
 .rcases nJ i x hx with⟨rfl,rfl⟩|⟨rfl,rfl⟩|⟨_,_,hx⟩
  .rw[hd.2.2];exact h.lr i d hn
  .exact .inl hq.2.1
  .exact h.lr i x hx
 .have key:∀(i:Nat)(y:Sk),t[i]? =some y->i≠p'->(y.up=i\/y.up=0\/y.ah=2/\∃(u:Nat)(x:Sk)(e:NE),y.up=u/\t'[u]? =some x/\e∈x.es/\e.2=i):=fun i y hy Qh=>by
   rcases h.ux i y hy with a|a|⟨a0,u,z,e,a1,a2,a3,a4⟩
   .exact .inl a
   .exact .inr (.inl a)
   .obtain⟨z',b1,_,b2⟩:=fwd u z a2;exact .inr (.inr ⟨a0,u,z',e,a1,b1,b2 e a3 fun e1=>Qh (by subst e1;omega),a4⟩)
  rcases nJ i x hx with⟨rfl,rfl⟩|⟨rfl,rfl⟩|⟨_,c2,hx⟩
  .rw[hd.2.1,hd.1];exact key i d hn Dn
  .rw[hq.2.2.2,hq.1];by_cases e2:q.ah=2
   .rw[if_pos e2];exact .inl rfl
   .rw[if_neg e2];rcases h.ux i q hp with a|a|⟨a0,_⟩
    .exact .inl a
    .exact .inr (.inl a)
    .exact absurd a0 e2
  .exact key i x hx c2
theorem Tree.sub{t t':List Sk}(h:Tree t){M:Nat->Prop}(h0:M 0)(gT:∀(i:Nat)d e(j:Nat),M i->t[i]? =some d->e∈d.es->e.2=(j:Nat)->M j)(h1:∀(i:Nat)d,M i->t[i]? =some d->d.ah≠0->t'[i]? =some d)(h2:∀(i:Nat)d',t'[i]? =some d'->d'=Yr\/t[i]? =some d'/\M i):Tree t':=by
 have hM:∀i,Lk t i->M i:=fun i hi=>by
  induction hi with
  |ap=>exact h0
  |step _ hd he hj ih=>exact gT _ _ _ _ ih hd he hj
 have kE:∀(i:Nat)d e,t[i]? =some d->e∈d.es->d.ah≠0:=fun i d e hd he hz=>by rw[h.z i d hd hz]at he;cases he
 have oE:∀(i:Nat)d e,t[i]? =some d->e∈d.es->M i:=fun i d e hd he=>hM i (h.lk i d hd fun hz=>by rw[h.em i d hd hz]at he;cases he)
 have K5:∀i,Lk t i->Lk t' i:=fun i hi=>hi.mono fun i d hd hn=>by obtain⟨e,hx⟩:=abA _ hn;exact⟨d,h1 i d (oE i d e hd hx) hd (kE i d e hd hx),fun _ h=>h⟩
 have bk:∀(i:Nat)d e,t'[i]? =some d->e∈d.es->t[i]? =some d/\M i:=fun i d e hd he=>by
  rcases h2 i d hd with rfl|h
  .cases he
  .exact h
 refine⟨fun i d hd hz=>?_,?_,fun i d e hd hx=>?_,fun i i' d d' e e' hd xq hx sn mC=>h.un i i' d d' e e' (bk i d e hd hx).1 (bk i' d' e' xq sn).1 hx sn mC,fun i d hd hn=>?_,fun i d hd hn=>?_,fun i d hd=>?_,fun i d hd=>?_⟩
 .rcases h2 i d hd with h'|⟨h',_⟩
  .exact h'
  .exact h.z i d h' hz
 .obtain⟨d,a1,a2,a3⟩:=h.r0;exact⟨d,h1 0 d h0 a1 om,a2,a3⟩
 .obtain⟨xq,hm⟩:=bk i d e hd hx;obtain⟨j,x,a1,a2,a3,a4,a5⟩:=h.tr i d e xq hx;exact⟨j,x,a1,a2,h1 j x (gT i d e j hm xq hx a1) a3 a4,a4,a5⟩
 .rcases h2 i d hd with rfl|⟨h',_⟩
  .exact absurd rfl hn
  .exact K5 i (h.lk i d h' hn)
 .rcases h2 i d hd with rfl|⟨h',_⟩
  .rfl
  .exact h.em i d h' hn
 .rcases h2 i d hd with rfl|⟨h',_⟩
  .exact .inl rfl
  .exact h.lr i d h'
 .rcases h2 i d hd with rfl|⟨h',_⟩
  .exact .inr (.inl rfl)
  .rcases h.ux i d h' with a|a|⟨a0,u,x,e,a1,a2,a3,a4⟩
   .exact .inl a
   .exact .inr (.inl a)
   .exact .inr (.inr ⟨a0,u,x,e,a1,h1 u x (oE u x e a2 a3) a2 (kE u x e a2 a3),a3,a4⟩)
theorem Tree.take{t:List Sk}(h:Tree t){n:Nat}(hn:1<=n)(hz:∀(i:Nat)d,n<=i->t[i]? =some d->d.ah=0):Tree (t.take n):=by
 have get:∀(i:Nat)d,(t.take n)[i]? =some d->t[i]? =some d:=fun i d hd=>by
  rw[aaj]at hd;split at hd
  .exact hd
  .cases hd
 have put:∀(i:Nat)d,t[i]? =some d->d.ah≠0->(t.take n)[i]? =some d:=fun i d hd hk=>by
  rw[aaj,if_pos (abP fun hle=>hk (hz i d hle hd))]
  exact hd
 have kE:∀(i:Nat)d e,t[i]? =some d->e∈d.es->d.ah≠0:=fun i d e hd he hz=>by rw[h.z i d hd hz]at he;cases he
 refine⟨fun i d hd hz=>h.z i d (get i d hd) hz,?_,fun i d e hd hx=>?_,fun i i' d d' e e' hd xq hx sn mC=>h.un i i' d d' e e' (get i d hd) (get i' d' xq) hx sn mC,fun i d hd hn=>?_,fun i d hd hn=>h.em i d (get i d hd) hn,fun i d hd=>h.lr i d (get i d hd),fun i d hd=>?_⟩
 .obtain⟨d,a1,a2,a3⟩:=h.r0;exact⟨d,put 0 d a1 om,a2,a3⟩
 .obtain⟨j,x,a1,a2,a3,a4,a5⟩:=h.tr i d e (get i d hd) hx;exact⟨j,x,a1,a2,put j x a3 a4,a4,a5⟩
 .refine(h.lk i d (get i d hd) hn).mono fun i d hd eG=>?_
  obtain⟨e,hx⟩:=abA _ eG;exact⟨d,put i d hd (kE i d e hd hx),fun _ h=>h⟩
 .rcases h.ux i d (get i d hd)with a|a|⟨a0,u,x,e,a1,a2,a3,a4⟩
  .exact .inl a
  .exact .inr (.inl a)
  .exact .inr (.inr ⟨a0,u,x,e,a1,put u x a2 (kE u x e a2 a3),a3,a4⟩)
end Kn
end Go.Proofs.YtodckkkbiidffaaGreatDoor
