/- Part 17 of 18. -/
import Derived.Test.YtojhmadmlnfpcaaGreatDoorS10
import Derived.Test.YtojhmadmlnfpcaaGreatDoorS11
import Derived.Test.YtojhmadmlnfpcaaGreatDoorS12
import Derived.Test.YtojhmadmlnfpcaaGreatDoorS13
import Derived.Test.YtojhmadmlnfpcaaGreatDoorS14
import Derived.Test.YtojhmadmlnfpcaaGreatDoorS16
set_option linter.unusedVariables false
set_option linter.unusedSimpArgs false
set_option linter.unnecessarySimpa false
set_option maxRecDepth 100000
set_option maxHeartbeats 0
namespace Go.Proofs.YtojhmadmlnfpcaaGreatDoor
open Go.AM Go.ChangeShapes Go.WideShapes Go.ChangeAt Go.RowKit
def c20:LF:= ⟨22,[.tmp 2,.cell true 2 3],(.seq (.ai [qu 2 (.aH qe),qu 3 (.alloc [qd 0,qd 0])]) (.seq (.seq (.ai [qm 6 0,qu 7 (qc 29 [6]),qu 4 (.alloc [qd 0,qd 0]),qw (.store 2 4 7)]) (.seq (.ai [qf 8 0 4,ql 9 8,qu 10 (.aF .neq 9 (qi 0))]) (.cond 10 (.seq (.bX [qL 11 2 4,qu 2 (.aH qe),qw (.store 2 3 11)] [(.cons 0 none (.cons 1 none (.cons 2 (some []) .nil)))]) .ret) .skip))) (.seq (.ai [qm 12 0,qu 13 (qc 30 [12]),qm 5 13]) (.seq (.ai [qm 14 5,qu 15 (qc 31 [14,(.c (.rv (.one (.fn 32 []))))])]) (.seq (.ai [qu 16 (.build [qd 0,qd 0,qd 0,qd 0] [(0,1,qi 1)]),qu 17 (.ln 4 [qd 0,qd 0,qd 0,qd 0] 1 [(0,16)]),qm 18 5,qu 19 (qc 34 [18]),qu 20 (.ni 4 32 17 19),qu 21 (.build [qd 0,qd 0] []),qm 2 20,qw (.store 2 3 21)]) .ret)))))⟩
def c30:LF:= ⟨8,[.tmp 2],(.seq (.ai [qu 2 (.aH qe)]) (.seq (.seq (.ai [qm 3 0,qu 4 (.xb false 3)]) (.cond 4 (.seq (.ai [qu 2 (.aH qe)]) .ret) .skip)) (.seq (.ai [qu 5 (.ln 2 [qd 0,.aI] 0 []),qm 6 0,qu 7 (.ni 2 32 5 6),qm 2 7]) .ret)))⟩
def c31:LF:= ⟨14,[],(.seq (.ai [qm 5 0,qu 6 (.len 1 5),qm 4 6]) (.ai [qm 7 0,qm 8 4,qm 9 4,qu 10 (.conv .u64 9),qu 11 (qc 57 [10]),qm 12 1,qu 13 (qc 56 [7,qi 0,8,11,12])]))⟩
def c56:LF:= ⟨148,[],(.seq (.ai [qu 10 (.aH (qb true))]) (.seq (.ai [qu 11 (.aH (qb true))]) (.block 0 (.loop (.block 1 (.seq (.ai [qm 21 2,qm 22 1,qu 23 (.aF .sub 21 22),qm 12 23]) (.seq (.seq (.ai [qm 24 12,qu 25 (.aF .leq 24 (qi 12))]) (.cond 25 (.seq (.ai [qm 26 0,qm 27 1,qm 28 2,qm 29 4,qu 30 (qc 92 [26,27,28,29])]) .ret) .skip)) (.seq (.seq (.ai [qm 31 3,qu 32 (.aF .eql 31 (qi 0))]) (.cond 32 (.seq (.ai [qm 33 0,qm 34 1,qm 35 2,qm 36 4,qu 37 (qc 93 [33,34,35,36])]) .ret) .skip)) (.seq (.seq (.ai [qm 38 10,qu 39 (.un .not 38)]) (.cond 39 (.seq (.ai [qm 40 0,qm 41 1,qm 42 2,qm 43 4,qu 44 (qc 94 [40,41,42,43])]) (.ai [qm 45 3,qu 46 (.aF .sub 45 (qi 1)),qm 3 46])) .skip)) (.seq (.ai [qm 48 0,qm 49 1,qm 50 2,qm 51 4,qu 52 (qc 95 [48,49,50,51]),qm 47 52,qu 53 (.ext 47 0),qu 54 (.ext 47 1),qm 13 53,qm 14 54]) (.seq (.seq (.ai [qm 55 14,qu 56 (.aF .eql 55 (qi 2))]) (.cond 56 (.seq (.ai [qm 57 0,qm 58 1,qm 59 2,qm 60 4,qu 61 (qc 96 [57,58,59,60])]) (.seq (.ai [qm 62 2,qu 63 (.aF .sub 62 (qi 1)),qm 64 13,qm 65 1,qu 66 (.aF .sub 64 65),qu 67 (.aF .sub 63 66),qm 13 67]) (.ai [qu 14 (.aH (qi 1))]))) .skip)) (.seq (.seq (.ai [qm 68 10,qm 69 68,qg 70 (.aH 11) 69 true,qu 71 (.pick 69 70 (qb false)),qm 72 71,qg 73 (.aH 14) 72 true,qg 74 (.aF .eql 73 (qi 1)) 72 true,qu 75 (.pick 72 74 (qb false))]) (.cond 75 (.seq (.ai [qm 76 0,qm 77 1,qm 78 2,qm 79 4,qu 80 (qc 97 [76,77,78,79])]) (.cond 80 .ret .skip)) .skip)) (.seq (.seq (.bX [qm 81 1,qu 82 (.aF .gtr 81 (qi 0)),qm 83 82,qg 84 (.aH 4) 83 true,qg 85 (.aH 0) 83 true,qg 86 (.aH 1) 83 true,qg 87 (.aF .sub 86 (qi 1)) 83 true,qg 88 (.bW 2 85 87) 83 true,qg 89 (.load true 2 88) 83 true,qg 90 (.aH 0) 83 true,qg 91 (.aH 13) 83 true,qg 92 (.bW 2 90 91) 83 true,qg 93 (.load true 2 92) 83 true,qg 94 (.call 84 [89,93]) 83 true,qg 95 (.aF .lss 94 (qi 0)) 83 true,qg 96 (.un .not 95) 83 true,qu 97 (.pick 83 96 (qb false))] [(.cons 0 none (.cons 1 none (.cons 2 none (.cons 3 none (.cons 4 none (.cons 5 none (.cons 6 none (.cons 7 none (.cons 8 none (.cons 9 none (.cons 10 none (.cons 11 none (.cons 12 none (.cons 13 (some []) (.cons 14 none (.cons 15 none (.cons 16 none .nil)))))))))))))))))]) (.cond 97 (.seq (.ai [qm 98 0,qm 99 1,qm 100 2,qm 101 13,qm 102 4,qu 103 (qc 98 [98,99,100,101,102]),qm 15 103]) (.seq (.ai [qm 104 15,qm 1 104]) (.exit 1))) .skip)) (.seq (.ai [qm 106 0,qm 107 1,qm 108 2,qm 109 13,qm 110 4,qu 111 (qc 99 [106,107,108,109,110]),qm 105 111,qu 112 (.ext 105 0),qu 113 (.ext 105 1),qm 16 112,qm 17 113]) (.seq (.ai [qm 114 17,qm 11 114]) (.seq (.ai [qm 115 16,qm 116 1,qu 117 (.aF .sub 115 116),qm 118 2,qm 119 16,qu 120 (.aF .sub 118 119),qm 18 117,qm 19 120]) (.seq (.ai [qm 121 12,qu 122 (.aF .quo 121 (qi 8)),qm 20 122]) (.seq (.ai [qm 123 18,qm 124 19,qu 125 (.aF .lss 123 124)]) (.cond 125 (.seq (.ai [qm 126 18,qm 127 20,qu 128 (.aF .geq 126 127),qm 10 128]) (.seq (.ai [qm 129 0,qm 130 1,qm 131 16,qm 132 3,qm 133 4,qu 134 (qc 56 [129,130,131,132,133])]) (.ai [qm 135 16,qu 136 (.aF .add 135 (qi 1)),qm 1 136]))) (.seq (.ai [qm 137 19,qm 138 20,qu 139 (.aF .geq 137 138),qm 10 139]) (.seq (.ai [qm 140 0,qm 141 16,qu 142 (.aF .add 141 (qi 1)),qm 143 2,qm 144 3,qm 145 4,qu 146 (qc 56 [140,142,143,144,145])]) (.ai [qm 147 16,qm 2 147]))))))))))))))))))))))⟩
def c57:LF:= ⟨8,[.tmp 2],(.seq (.ai [qu 2 (.aH (qi 0))]) (.seq (.cond (qb false) (.seq (.ai [qm 3 0,qu 4 (.conv .u32 3),qu 5 (qc 100 [4]),qm 2 5]) .ret) .skip) (.seq (.ai [qm 6 0,qu 7 (qc 101 [6]),qm 2 7]) .ret)))⟩
def c92:LF:= ⟨53,[],(.seq (.ai [qm 10 1,qu 11 (.aF .add 10 (qi 1)),qm 8 11]) (.block 0 (.loop (.seq (.seq (.ai [qm 12 8,qm 13 2,qu 14 (.aF .lss 12 13)]) (.cond 14 .skip (.exit 0))) (.seq (.block 1 (.seq (.ai [qm 17 8,qm 9 17]) (.block 2 (.loop (.seq (.seq (.bX [qm 18 9,qm 19 1,qu 20 (.aF .gtr 18 19),qm 21 20,qg 22 (.aH 3) 21 true,qg 23 (.aH 0) 21 true,qg 24 (.aH 9) 21 true,qg 25 (.bW 2 23 24) 21 true,qg 26 (.load true 2 25) 21 true,qg 27 (.aH 0) 21 true,qg 28 (.aH 9) 21 true,qg 29 (.aF .sub 28 (qi 1)) 21 true,qg 30 (.bW 2 27 29) 21 true,qg 31 (.load true 2 30) 21 true,qg 32 (.call 22 [26,31]) 21 true,qg 33 (.aF .lss 32 (qi 0)) 21 true,qu 34 (.pick 21 33 (qb false))] [(.cons 0 none (.cons 1 none (.cons 2 none (.cons 3 none (.cons 4 none (.cons 5 none (.cons 6 none (.cons 7 none (.cons 8 none (.cons 9 none (.cons 10 none (.cons 11 none (.cons 12 none (.cons 13 none (.cons 14 (some []) (.cons 15 none (.cons 16 none .nil)))))))))))))))))]) (.cond 34 .skip (.exit 2))) (.seq (.block 3 (.bX [qm 37 0,qm 38 9,qm 39 0,qm 40 9,qu 41 (.aF .sub 40 (qi 1)),qm 42 0,qm 43 9,qu 44 (.aF .sub 43 (qi 1)),qu 45 (.bW 2 42 44),qL 46 2 45,qm 47 0,qm 48 9,qu 49 (.bW 2 47 48),qL 50 2 49,qu 51 (.bW 2 37 38),qw (.store 2 51 46),qu 52 (.bW 2 39 41),qw (.store 2 52 50)] [(.cons 0 none (.cons 1 none (.cons 2 none (.cons 3 none (.cons 4 none (.cons 5 none (.cons 6 none (.cons 7 none (.cons 8 none (.cons 9 none (.cons 10 none (.cons 11 none (.cons 12 none (.cons 13 none (.cons 14 none (.cons 15 (some []) (.cons 16 none (.cons 17 (some []) .nil))))))))))))))))))])) (.ai [qm 35 9,qu 36 (.aF .sub 35 (qi 1)),qm 9 36]))))))) (.ai [qm 15 8,qu 16 (.aF .add 15 (qi 1)),qm 8 16]))))))⟩
def c101:LF:= ⟨25,[.tmp 2],(.seq (.ai [qu 2 (.aH (qi 0))]) (.seq (.seq (.ai [qm 3 0,qu 4 (.aF .geq 3 (.c (.rv (.one (.aa (.val (.int .u64 (4294967296))))))))]) (.cond 4 (.seq (.ai [qm 5 0,qu 6 (.aF .shr 5 (.c (.rv (.one (.aa (.val (.int .u64 (32)))))))),qm 0 6]) (.ai [qu 2 (.aH (qi 32))])) .skip)) (.seq (.seq (.ai [qm 7 0,qu 8 (.aF .geq 7 (.c (.rv (.one (.aa (.val (.int .u64 (65536))))))))]) (.cond 8 (.seq (.ai [qm 9 0,qu 10 (.aF .shr 9 (.c (.rv (.one (.aa (.val (.int .u64 (16)))))))),qm 0 10]) (.ai [qm 11 2,qu 12 (.aF .add 11 (qi 16)),qm 2 12])) .skip)) (.seq (.seq (.ai [qm 13 0,qu 14 (.aF .geq 13 (.c (.rv (.one (.aa (.val (.int .u64 (256))))))))]) (.cond 14 (.seq (.ai [qm 15 0,qu 16 (.aF .shr 15 (.c (.rv (.one (.aa (.val (.int .u64 (8)))))))),qm 0 16]) (.ai [qm 17 2,qu 18 (.aF .add 17 (qi 8)),qm 2 18])) .skip)) (.seq (.ai [qm 19 2,qm 20 0,qu 21 (.conv .u8 20),qu 22 (.A3 (.c (.rv (.one (.aa (.val (.string ⟨#[0,1,2,2,3,3,3,3,4,4,4,4,4,4,4,4,5,5,5,5,5,5,5,5,5,5,5,5,5,5,5,5,6,6,6,6,6,6,6,6,6,6,6,6,6,6,6,6,6,6,6,6,6,6,6,6,6,6,6,6,6,6,6,6,7,7,7,7,7,7,7,7,7,7,7,7,7,7,7,7,7,7,7,7,7,7,7,7,7,7,7,7,7,7,7,7,7,7,7,7,7,7,7,7,7,7,7,7,7,7,7,7,7,7,7,7,7,7,7,7,7,7,7,7,7,7,7,7,8,8,8,8,8,8,8,8,8,8,8,8,8,8,8,8,8,8,8,8,8,8,8,8,8,8,8,8,8,8,8,8,8,8,8,8,8,8,8,8,8,8,8,8,8,8,8,8,8,8,8,8,8,8,8,8,8,8,8,8,8,8,8,8,8,8,8,8,8,8,8,8,8,8,8,8,8,8,8,8,8,8,8,8,8,8,8,8,8,8,8,8,8,8,8,8,8,8,8,8,8,8,8,8,8,8,8,8,8,8,8,8,8,8,8,8,8,8,8,8,8,8,8,8,8,8,8,8]⟩)))))) 21),qu 23 (.conv .i64 22),qu 24 (.aF .add 19 23),qm 2 24]) .ret)))))⟩
theorem l30:bx Tryz.prog Tryz.f30=some c30:=by kernel_rfl
theorem l31:bx Tryz.prog Tryz.f31=some c31:=by kernel_rfl
theorem l56:bx Tryz.prog Tryz.f56=some c56:=by kernel_rfl
theorem l57:bx Tryz.prog Tryz.f57=some c57:=by kernel_rfl
theorem l92:bx Tryz.prog Tryz.f92=some c92:=by kernel_rfl
theorem l101:bx Tryz.prog Tryz.f101=some c101:=by kernel_rfl
theorem l20:bx Tryz.prog Tryz.f20=some c20:=by kernel_rfl
theorem PS{m:Mem}{K:CV->Mem->Prop}(h:K (an .i64 0) m):au Tryz.prog 101 [an .u64 0] m K:=
 bs (r0:=an .i64 0) Tryz.func101 l101 rfl (X5 rfl) (show body Tryz.prog c101 [an .u64 0] [] (fun r m=>r=an .i64 0)from rfl) rfl rfl h
theorem Tr{m:Mem}{K:CV->Mem->Prop}(h:K (an .i64 0) m):au Tryz.prog 57 [an .u64 0] m K:=
 bs (r0:=an .i64 0) Tryz.func57 l57 rfl (X5 rfl) (show body Tryz.prog c57 [an .u64 0] [] (fun r m=>r=an .i64 0)from PS rfl) rfl rfl h
theorem Xg{m:Mem}{K:CV->Mem->Prop}(h:K (.bK []) m):au Tryz.prog 92 [dD [],an .i64 0,an .i64 0,.rv (.one (.fn 32 []))] m K:=by
 refine bs (r0:= .bK []) Tryz.func92 l92 rfl (X5 rfl) ?_ rfl rfl h;refine aK (fun _:Nat=>True) [0,1,2,3,8] (fun _=>[]) (fun _=>[]) (fun _=>0) 0 trivial ?_ (fun _ _=>?_)
 .refine View.o 0 [] [] ?_ (.nil _);repeat(first|exact .nil|refine .aq ?_|refine .eq rfl ?_)
 .rfl
theorem Xh{m:Mem}{K:CV->Mem->Prop}(h:K (.bK []) m):au Tryz.prog 56 [dD [],an .i64 0,an .i64 0,an .i64 0,.rv (.one (.fn 32 []))] m K:=by
 refine bs (r0:= .bK []) Tryz.func56 l56 rfl (X5 rfl) ?_ rfl rfl h;refine aK (fun _:Nat=>True) [0,1,2,3,4,10,11] (fun _=>[]) (fun _=>[]) (fun _=>0) 0 trivial ?_ (fun _ _=>?_)
 .refine View.o 0 [] [] ?_ (.nil _);repeat(first|exact .nil|refine .aq ?_|refine .eq rfl ?_)
 .refine Xg ?_;rfl
theorem PT{m:Mem}{K:CV->Mem->Prop}(h:K (.bK []) m):au Tryz.prog 31 [dD [],.rv (.one (.fn 32 []))] m K:=by refine bs (r0:= .bK []) Tryz.func31 l31 rfl (X5 rfl) ?_ rfl rfl h;refine Tr ?_;refine Xh ?_;rfl
theorem CT(l:List cO)(hl:l.length<=4194304):body Tryz.prog c30 [dD l] [] (fun r m=>cJ m r (dD l)):=by
 have lJ:((([]:List (List CC)).length+((l.map cO.enc).map fun ds=>ds.map CC.aa).length)*32)<=140737488355328:=by simp;omega
 refine aC (fun h=>?_) (fun h=>?_)
 .have hd:l=[]:=Z1 (by simpa using Z2 h)
  subst hd;exact⟨.rv (.one (.aI 2)),lJ,.rv (.one (d9.dJ rfl 0 none))⟩
 .exact⟨lJ,.rv (.one (d9.dJ rfl 0 none))⟩
theorem JA(l:List cO)(hl:l.length<=4194304){m:Mem}{K:CV->Mem->Prop}(h:K (dD l) m):au Tryz.prog 30 [dD l] m K:=
 be (aX Tryz.func30 l30 (CT l hl)) (by simp[dD,CV.dm,CC.dm]) fun r m1 hf=>⟨_,hf,h⟩
theorem Ay(l:List cO)(fc:l≠[])(hl:l.length<=4194304):body Tryz.prog c30 [dD l] [] (fun r m=>∃r' m',View 0 ⟨[r],m⟩ ⟨[r'],m'⟩/\r'= .rv (.one (.row 0 2 0 none))/\m'=[.row 2 (af (l.map cO.enc))]):=by
 have lJ:((([]:List (List CC)).length+((l.map cO.enc).map fun ds=>ds.map CC.aa).length)*32)<=140737488355328:=by simp;omega
 refine dU ?_ ?_
 .have:(l.map cO.enc).length≠0:=by simp[fc]
  cases h:Nat.beq (l.map cO.enc).length 0 with
  |false=>rfl
  |true=>exact absurd (Z2 h) this
 .refine⟨lJ,_,_,View.o 2 [1] [] (.eq rfl .nil) (.pt rfl rfl (.bM (by simp[af,cD])) (.nil _)),rfl,rfl⟩
theorem FI(l:List cO)(fc:l≠[])(hl:l.length<=4194304){m:Mem}{K:CV->Mem->Prop}(h:K (.rv (.one (.row m.length 2 0 none))) (m++ [.row 2 (af (l.map cO.enc))])):au Tryz.prog 30 [dD l] m K:=by
 refine bu [] m.length rfl rfl rfl rfl (args0:=[dD l]) rfl (fun i b' hi=>by simp at hi) (K0:=fun r m=>r= .rv (.one (.row 0 2 0 none))/\m=[.row 2 (af (l.map cO.enc))])
  (bJ (aX Tryz.func30 l30 (Ay l fc hl)) fun r m1 h=>h) (fun r m1 hr=>?_)
 obtain⟨rfl,rfl⟩:=hr;refine⟨Wi _,?_⟩;show K (.rv (.one (.row (m.length+(0-0)) 2 0 none))) (gh m [Bk.aO _ _]);rw[b9,Bk.kn];exact h
theorem Nr{m:Mem}{a b:RV}{f:Int×Int}(h:eT m a b):cJ m (.bK [a,.agg [.aa (.val (.int .i64 f.1)),.aa (.val (.int .i64 f.2))]]) (.bK [b,.agg [.aa (.val (.int .i64 f.1)),.aa (.val (.int .i64 f.2))]]):=by
 refine .bK rfl fun i r r' h1 h2=>?_
 match i,h1,h2 with
 |0,h1,h2=>cases h1;cases h2;exact h
 |1,h1,h2=>cases h1;cases h2;exact eT.self rfl
def PU(l:List dX)(f:Int×Int):CV:= .bK [.one (.aa (WM l)),.agg [.aa (.val (.int .i64 f.1)),.aa (.val (.int .i64 f.2))]]
theorem JB(l:List cO):body Tryz.prog c20 [dD l] [] (fun r m=>((cF l).1≠0->cJ m r (PU [] (cF l)))/\((cF l).1=0->∃l',l'.Perm l/\l7 l'/\cJ m r (PU (gm l') (0,0)))):=by
 refine Nl l ?_;refine bG (fun h=>?_) (fun h=>?_)
 .refine⟨trivial,?_⟩;have h:(cF l).1≠0:=h;exact⟨fun _=>Nr (.one (.aI 4)),fun h0=>absurd h0 h⟩
 have h:(cF l).1=0:=h;obtain⟨h30,hg,hd⟩:=CQ h;have ni:∀l':List cO,l'.Perm l->(1+(((gI l'.length l').map dX.enc).map fun ds=>ds.map CC.aa).length)*32<=140737488355328:=by
  intro l' hp;have:=qv (n:=l'.length) (l:=l') (fun p RS=>(hg p (hp.mem_iff.1 RS)).2.2.1) (by rw[hp.length_eq];exact h30) (SS _)
  simp;omega
 by_cases fc:l=[]
 .subst fc;refine JA [] (by decide) ?_
  refine PT ?_;refine Hd 0 [] (by decide) (by decide) aG ?_
  refine⟨by decide,fun h0=>absurd h h0,fun _=>⟨[],.refl _,.nil,Nr (f:=(0,0)) (.one (d9.dJ (ds:=(gm []).map dX.enc) rfl 0 none))⟩⟩
 .refine FI l fc om ?_;refine Np l fc om rfl fun l' hp hs=>?_
  have hr:=Jy hs (xz hp hd);have Bi:l'.length<=30:=by rw[hp.length_eq];exact h30
  refine my (lI:=[dD l']) (m':=[.var [.aa (.val (.int .i64 0)),.aa (.val (.int .i64 0))],.var [.aa (.val (.int .i64 (cF l).1)),.aa (.val (.int .i64 (cF l).2))],.aW,.row 4 [[.aa (.val (.int .i64 1)),.aa (.val (.int .i64 0)),.aa (.val (.int .i64 0)),.aa (.val (.int .i64 0))]]])
   (View.o 4 [0,1,2,3] [2] (.put (pW.e8 2 (l'.map cO.enc) rfl rfl) .nil) (.pe rfl rfl rfl (.pe rfl rfl rfl (.aW (.pm rfl rfl rfl))))) ?_
  refine Hd l'.length l' (SS _) Bi (fun p RS=>(hg p (hp.mem_iff.1 RS)).2.2.1) ?_
  refine⟨ni l' hp,fun h0=>absurd h h0,fun _=>⟨l',hp,hr,Nr (f:=(0,0)) (.one (d9.dJ (ds:=(gm l').map dX.enc) ?_ 0 none))⟩⟩
  rfl
theorem He(l:List cO){m:Mem}{K:CV->Mem->Prop}(h1:(cF l).1≠0->K (PU [] (cF l)) m)(h2:(cF l).1=0->∀l':List cO,l'.Perm l->l7 l'->K (PU (gm l') (0,0)) m):au Tryz.prog 20 [dD l] m K:=by
 refine be (aX Tryz.func20 l20 (JB l)) (by simp[dD,CV.dm,CC.dm]) fun r m1 hf=>?_
 by_cases h:(cF l).1=0
 .obtain⟨l',hp,hr,hz⟩:=hf.2 h;exact⟨_,hz,h2 h l' hp hr⟩
 .exact⟨_,hf.1 h,h1 h⟩
def c28:LF:= ⟨10,[.cell true 3 0],(.seq (.ai [qu 0 (.alloc [.aI,.aI,.aI])]) (.seq (.ai [qu 1 (qc 51 []),qu 2 (.build [qd 0,qd 0] []),qu 3 (.ln 2 [qd 0,qd 0] 1 [(0,2)]),qu 4 (.build [qd 0,qd 0] [(1,1,qi 4095)]),qu 5 (.build [(.aa (.val (.bool false))),qd 0,qd 0] [(0,1,qb true),(1,2,4)]),qu 6 (.ln 3 [(.aa (.val (.bool false))),qd 0,qd 0] 1 [(0,5)]),qu 7 (.build [(.aa (.val (.bool false))),(.aa (.val (.bool false))),qd 0,.aI] [(0,1,qb true),(3,1,6)]),qu 8 (.ln 4 [(.aa (.val (.bool false))),(.aa (.val (.bool false))),qd 0,.aI] 1 [(0,7)]),qu 9 (.build [.aI,.aI,.aI] [(0,1,1),(1,1,3),(2,1,8)]),qw (.store 3 0 9)]) .ret))⟩
theorem l28:bx Tryz.prog Tryz.f28=some c28:=by kernel_rfl
def gJ:Obj:=⟨2,[],[],⟨#[]⟩,-1,[],-1,1,0⟩
def bR:Kr:=⟨[gJ],[⟨0,0⟩],[⟨true,false,0,[⟨true,0,4095⟩]⟩]⟩
theorem Ts{m:Mem}{Z:Nat->Prop}{p:Option Nat}:jL m Z p [.aa (.val (.int .i64 2)),.aI,.aI,.aa (.val (.string ⟨#[]⟩)),.aa (.val (.int .i64 (-1))),.aI,.aa (.val (.int .i64 (-1))),.aa (.val (.int .i64 1)),.aa (.val (.int .i64 0))] gJ.enc:=
 .cons (.aa _) (.cons (.aI 1) (.cons (.aI 2) (.cons (.aa _) (.cons (.aa _) (.cons (.aI 4) (.cons (.aa _) (.cons (.aa _) (.cons (.aa _) .nil))))))))
theorem Ns:body Tryz.prog c51 [] [] (fun r m=>∃r' m',View 0 ⟨[r],m⟩ ⟨[r'],m'⟩/\r'=b8 [gJ]/\m'=[]):=
 ⟨_,[],View.o 1 [] [0] (.put (.rv (.one (.e8 (gv.e8 (Z:=fun k=>bz [0] k=true) (.cons Ts .nil) rfl rfl)))) .nil) (.nil _),rfl,rfl⟩
theorem Tt{m:Mem}{K:CV->Mem->Prop}(h:K (b8 [gJ]) m):au Tryz.prog 51 [] m K:=by
 refine be (K0:=fun r m=>r=b8 [gJ]/\m=[]) (bJ (aX Tryz.func51 l51 Ns) fun r m1 h=>h) aG fun r m1 hr=>?_
 obtain⟨rfl,rfl⟩:=hr;exact⟨_,cJ.self rfl,h⟩
theorem JC:body Tryz.prog c28 [] [] (fun r m=>∃r' m',View 0 ⟨[r],m⟩ ⟨[r'],m'⟩/\r'=cP bR.l bR.ops bR.ps/\m'=[]):=by
 refine Tt ?_;refine⟨_,[],View.o 4 [] [1,2,3] (.put (pA.agg (.cons (.aO (.aa _)) (.cons (.e8 (gv.e8 (Z:=fun k=>bz [1,2,3] k=true) (.cons (.cons (.aa _) (.cons (.aa _) .nil)) .nil) rfl rfl))
  (.cons (.e8 (gv.e8 (Z:=fun k=>bz [1,2,3] k=true) (.cons (.cons (.aa _) (.cons (.aa _) (.cons (.aa _) (.cons (gv.e8 (.cons (.cons (.aa _) (.cons (.aa _) (.cons (.aa _) .nil))) .nil) rfl rfl) .nil)))) .nil) rfl rfl)) .nil)))) .nil) (.nil _),rfl,rfl⟩
theorem PV{m:Mem}{K:CV->Mem->Prop}(h:K (cP bR.l bR.ops bR.ps) m):au Tryz.prog 28 [] m K:=by
 refine be (K0:=fun r m=>r=cP bR.l bR.ops bR.ps/\m=[]) (bJ (aX Tryz.func28 l28 JC) fun r m1 h=>h) aG fun r m1 hr=>?_
 obtain⟨rfl,rfl⟩:=hr;exact⟨_,cJ.self rfl,h⟩
theorem wP:dF bR.l bR.ops bR.ps:=
 ⟨fun o ho=>by simp[bR]at ho;subst ho;exact⟨⟨⟨[],rfl⟩,⟨[],rfl⟩,fun q hq=>by simp[gJ]at hq⟩,by simp[gJ],by simp[gJ],by simp[gJ],fun q hq=>by simp[gJ]at hq⟩,by simp[bR],by simp[bR],by simp[bR],fun p hp=>by simp[bR]at hp;subst hp;simp,by simp[bR]⟩
def c17:LF:= ⟨52,[.cell true 3 4,.tmp 5,.tmp 6],(.seq (.ai [qu 4 (.alloc [.aI,.aI,.aI]),qu 5 (.aH qe),qu 6 (.aH (qi 0))]) (.seq (.ai [qm 16 0,qu 17 (qc 20 [16]),qm 15 17,qu 18 (.ext 15 0),qu 19 (.ext 15 1),qu 8 (.alloc [qd 0,qd 0]),qm 7 18,qw (.store 2 8 19)]) (.seq (.seq (.ai [qf 20 0 8,ql 21 20,qu 22 (.aF .neq 21 (qi 0))]) (.cond 22 (.seq (.bX [qu 23 (.build [.aI,.aI,.aI] []),qf 24 0 8,ql 25 24,qw (.store 3 4 23),qu 5 (.aH qe),qm 6 25] [(.cons 0 none (.cons 1 none (.cons 2 none (.cons 3 (some [2]) (.cons 4 none (.cons 5 none .nil))))))]) .ret) .skip)) (.seq (.seq (.ai [qm 26 1,qu 27 (.len 1 26),qu 28 (.aF .gtr 27 (qi 80))]) (.cond 28 (.seq (.ai [qu 29 (.build [.aI,.aI,.aI] []),qw (.store 3 4 29),qu 5 (.aH qe),qu 6 (.aH (qi 5))]) .ret) .skip)) (.seq (.ai [qu 30 (qc 28 []),qu 9 (.alloc [.aI,.aI,.aI]),qw (.store 3 9 30)]) (.seq (.ai [qu 10 (.aH qe)]) (.seq (.seq (.ai [qm 31 1,qu 32 (.len 1 31),qu 33 (.aH (qi 0))]) (.block 0 (.loop (.seq (.ai [qu 34 (.aF .lss 33 32)]) (.seq (.cond 34 .skip (.exit 0)) (.seq (.block 1 (.seq (.ai [qu 35 (.bW 9 31 33),qL 36 9 35,qu 12 (.alloc [qd 0,qd 0,qd 0,qd 0,qd 0,qd 0,qd 0,(.aa (.val (.string ⟨#[]⟩))),.aI]),qw (.store 9 12 36)]) (.seq (.ai [qm 38 7,qL 39 3 9,qL 40 9 12,qu 41 (qc 21 [38,39,40]),qm 37 41,qu 42 (.ext 37 0),qu 43 (.ext 37 1),qu 13 (.alloc [.aI,.aI,.aI]),qu 14 (.alloc [qd 0,qd 0,qd 0,.aI]),qw (.store 3 13 42),qw (.store 4 14 43)]) (.seq (.ai [qL 44 3 13,qw (.store 3 9 44)]) (.ai [qm 45 10,qL 46 4 14,qu 47 (.ln 4 [qd 0,qd 0,qd 0,.aI] 1 [(0,46)]),qu 48 (.ni 4 48 45 47),qm 10 48]))))) (.ai [qu 49 (.aF .add 33 (qi 1)),qm 33 49]))))))) (.seq (.ai [qL 50 3 9,qm 51 10,qw (.store 3 4 50),qm 5 51,qu 6 (.aH (qi 0))]) .ret))))))))⟩
namespace Kn
def kS(prog:List dX)(k:Kr):List Cl->Kr
 | []=>k
 |c::r=>kS prog (o9 prog k c).1 r
def aS(prog:List dX)(k:Kr):List Cl->List An
 | []=>[]
 |c::r=>(o9 prog k c).2::aS prog (o9 prog k c).1 r
def Hf(prog:List dX)(k:Kr):List Cl->List Kr
 | []=>[k]
 |c::r=>k::Hf prog (o9 prog k c).1 r
theorem Az(prog:List dX):∀(k:Kr)(cs:List Cl)(c:Cl),kS prog k (cs++ [c])=(o9 prog (kS prog k cs) c).1
 |_,[],_=>rfl
 |k,x::r,c=>Az prog (o9 prog k x).1 r c
theorem AA(prog:List dX):∀(k:Kr)(cs:List Cl)(c:Cl),aS prog k (cs++ [c])=aS prog k cs++ [(o9 prog (kS prog k cs) c).2]
 |_,[],_=>rfl
 |k,x::r,c=>by show(o9 prog k x).2::aS prog (o9 prog k x).1 (r++ [c])=_;rw[AA prog (o9 prog k x).1 r c];rfl
theorem CU(prog:List dX):∀(k:Kr)(cs:List Cl)(c:Cl),Hf prog k (cs++ [c])=Hf prog k cs++ [(o9 prog (kS prog k cs) c).1]
 |_,[],_=>rfl
 |k,x::r,c=>by show k::Hf prog (o9 prog k x).1 (r++ [c])=_;rw[CU prog (o9 prog k x).1 r c];rfl
theorem KI.kS{prog:List dX}:∀{k:Kr}(cs:List Cl),KI k->KI (Kn.kS prog k cs)
 |_,[],h=>h
 |_,c::r,h=>KI.kS r (h.do_ prog c)
theorem FJ(prog:List dX):∀(k:Kr)(cs:List Cl),(aS prog k cs).length=cs.length
 |_,[]=>rfl
 |k,c::r=>by simp[aS,FJ prog (o9 prog k c).1 r]
theorem AB(prog:List dX):∀(k:Kr)(cs:List Cl),(Hf prog k cs).length=cs.length+1
 |_,[]=>rfl
 |k,c::r=>by simp[Hf,AB prog (o9 prog k c).1 r]
theorem uK:KI bR:=by
 have hm:∀o,o∈bR.l->o=gJ:=fun o ho=>by simpa[bR]using ho
 have hp:∀x,x∈bR.ps->x=⟨true,false,0,[⟨true,0,4095⟩]⟩:=fun x hx=>by simpa[bR]using hx
 refine⟨by simp[bR],by simp[bR],by simp[bR],wP.sm,wP.sl,wP.ne,fun x hx hl=>?_,fun x hx s hs hh=>?_,fun o ho q hq=>?_,fun o ho h5=>?_,fun o ho=>?_,fun o ho hk=>?_,fun i o ho hk=>?_,fun o ho=>?_,fun o ho=>?_,?_⟩
 .rw[hp x hx]at hl;cases hl
 .rw[hp x hx]at hs;have:s=⟨true,0,4095⟩:=by simpa using hs
  subst this;exact⟨⟨by decide,by decide⟩,0,⟨0,0⟩,rfl,rfl,0,gJ,rfl,rfl,by simp[gJ]⟩
 .rw[hm o ho]at hq;cases hq
 .rw[hm o ho]at h5;simp[gJ]at h5
 .rw[hm o ho];exact⟨rfl,List.Pairwise.nil,fun _=>rfl,fun e he=>by cases he⟩
 .rw[hm o ho]at hk;simp[gJ]at hk
 .rw[hm o (Rq ho)]at hk;simp[gJ]at hk
 .have:o=⟨0,0⟩:=by simpa[bR]using ho
  subst this;exact⟨acP _,by show(0:Int)<=64;omega⟩
 .rw[hm o ho];simp[gJ]
 .have one:∀(i:Nat)d,(bR.l.map ur)[i]? =some d->i=0/\d=ur gJ:=fun i d hd=>by
   match i,hd with
   |0,hd=>cases hd;exact⟨rfl,rfl⟩
   |n+1,hd=>simp[bR]at hd
  refine⟨fun i d hd hz=>?_,⟨ur gJ,rfl,rfl,rfl,rfl⟩,fun i d e hd he=>?_,fun i i' d d' e e' hd zm he=>?_,fun i d hd _=>?_,fun i d hd hz=>?_,fun i d hd=>?_,fun i d hd=>?_⟩
  .rw[(one i d hd).2]at hz;simp[ur,gJ]at hz
  .rw[(one i d hd).2]at he;cases he
  .rw[(one i d hd).2]at he;cases he
  .rw[(one i d hd).1];exact .ar
  .rw[(one i d hd).2]at hz;simp[ur,gJ]at hz
  .rw[(one i d hd).2];exact .inr rfl
  .rw[(one i d hd).2,(one i d hd).1];exact .inl rfl
def AD(cs:List Cl):CV:= .rv (.one (.aa (.sl 9 (cs.map Cl.enc))))
def Tu(al:List An):Dt:= .sl 4 (al.map An.enc)
def wQ(k:Kr)(al:List An)(e:Int):CV:= .bK [iM k,.one (.aa (Tu al)),cS e]
theorem l17:bx Tryz.prog Tryz.f17=some c17.er:=by kernel_rfl
theorem Nt{cs:List Cl}{i:Nat}(h:i<cs.length):cR (cs.map Cl.enc) (i:Nat)=some (cs[i].enc):=by rw[bn,Q8,IE h];rfl
theorem Hg{m:Mem}{e:Int}:cJ m (.bK [.agg [.aI,.aI,.aI],.one .aI,cS e]) (wQ m5 [] e):=by
 refine .bK rfl fun i r r' h1 h2=>?_
 match i,h1,h2 with
 |0,h1,h2=>cases h1;cases h2;exact gG
 |1,h1,h2=>cases h1;cases h2;exact .one (.aI 4)
 |2,h1,h2=>cases h1;cases h2;exact eT.self rfl
 |n+3,h1,h2=>simp at h1
structure Nu(cs:List Cl):Prop where
 l:cs.length<=1048576
 d:∀c,c∈cs->c.data.length<=4194304
theorem JD(l:List cO)(cs:List Cl)(eJ:Nu cs):body Tryz.prog c17 [dD l,AD cs] []
  (fun r m=>((cF l).1≠0->cJ m r (wQ m5 [] (cF l).1))/\((cF l).1=0->cs.length>80->cJ m r (wQ m5 [] 5))/\
   ((cF l).1=0->cs.length<=80->∃l',l'.Perm l/\l7 l'/\cJ m r (wQ (kS (gm l') bR cs) (aS (gm l') bR cs) 0))):=by
 refine He l (fun hw=>?_) (fun hw l' hp hr=>?_)
 .refine bG (fun he=>?_) (fun he=>absurd he hw)
  refine⟨⟨rfl,trivial⟩,?_⟩;exact⟨fun _=>Hg,fun h=>absurd h hw,fun h=>absurd h hw⟩
 .generalize hpg:gm l'=prog;refine ay (fun PW=>?_) (fun PW=>?_)
  .have PW:cs.length>80:=by have PW:((cs.map Cl.enc).length:Int)>80:=PW;rw[Nq]at PW;omega
   exact⟨fun h=>absurd hw h,fun _ _=>Hg,fun _ h=>om⟩
  have PW:cs.length<=80:=by have PW:¬((cs.map Cl.enc).length:Int)>80:=PW;rw[Nq]at PW;omega
  refine PV ?_;refine aK (fun i=>i<=cs.length) [4,7,9,31,32] (fun i=>[(33,an .i64 (i:Nat)),(10,.rv (.one (.row 3 4 0 none)))])
   (fun i=>[.var [.aI,.aI,.aI],.var [.aa (.val (.int .i64 0)),.aa (.val (.int .i64 0))],kB (kS prog bR (cs.take i)),.row 4 (af ((aS prog bR (cs.take i)).map An.enc))]) (fun i=>cs.length-i) 0 (Wi _) ?_ (fun i hi=>?_)
  .refine View.trans (View.aI 10 4 3 rfl rfl rfl) (View.o1 4 [0,1,2,3] [] ?_)
   .exact .pe rfl rfl rfl (.pe rfl rfl rfl (.pt rfl rfl (.eq rfl (fa _)) (.pn rfl rfl rfl)))
  have hi:i<=cs.length:=hi;refine ay (fun h=>?_) (fun h=>?_)
  .have aB:i<cs.length:=by have h:(i:Int)<((cs.map Cl.enc).length:Int):=h;rw[Nq]at h;omega
   have Db:=KI.kS (prog:=prog) (cs.take i) uK;have ht:cs.take (i+1)=cs.take i++ [cs[i]]:=py (IE aB);have JV:=Az prog bR (cs.take i) cs[i];have has:=AA prog bR (cs.take i) cs[i];rw[<-ht]at JV has;have T0:(aS prog bR (cs.take i)).length<=80:=by rw[FJ,Z4];omega
   refine ag (Nt aB) ?_;refine Nj prog (kS prog bR (cs.take i)) Db cs[i] (eJ.d _ (Z0 aB)) ?_;generalize o9 prog (kS prog bR (cs.take i)) cs[i]=D at JV has;obtain⟨k2,a2⟩:=D;refine⟨by simp only[cD,af,Nq,aar,aby];omega,?_⟩
   refine⟨i+1,aB,(show cs.length-(i+1)<cs.length-i by omega),View.o 9 [0,1,2,8] [] ?_ ?_⟩
   .repeat(first|exact .nil|refine .aq ?_|refine .put (.aO (ap om).symm) ?_|refine .eq rfl ?_)
   .rw[JV,has,abn];exact .pe rfl rfl rfl (.pe rfl rfl rfl (.pt rfl rfl (.eq rfl (fa _)) (.pt rfl rfl (.bM (bN (List.map An.enc _) (List.map An.enc [_])).symm) (.nil _))))
  .have gX:i=cs.length:=by have h:¬(i:Int)<((cs.map Cl.enc).length:Int):=h;rw[Nq]at h;omega
   subst gX;rw[abp];subst hpg;refine⟨fun h=>absurd hw h,fun _ h=>om,fun _ _=>⟨l',hp,hr,?_⟩⟩
   refine .bK rfl fun i r r' h1 h2=>?_
   match i,h1,h2 with
   |0,h1,h2=>cases h1;cases h2;exact eT.self (zT (Kn.kS (gm l') bR cs))
   |1,h1,h2=>cases h1;cases h2;exact .one (d9.dJ (ds:=(aS (gm l') bR cs).map An.enc) rfl 0 none)
   |2,h1,h2=>cases h1;cases h2;exact eT.self rfl
   |n+3,h1,h2=>simp at h1
theorem Hh(l:List cO)(cs:List Cl)(eJ:Nu cs){m:Mem}{K:CV->Mem->Prop}(h1:(cF l).1≠0->K (wQ m5 [] (cF l).1) m)(h2:(cF l).1=0->cs.length>80->K (wQ m5 [] 5) m)(h3:(cF l).1=0->cs.length<=80->∀l',l'.Perm l->l7 l'->K (wQ (kS (gm l') bR cs) (aS (gm l') bR cs) 0) m):au Tryz.prog 17 [dD l,AD cs] m K:=
 be (cg Tryz.func17 l17 (JD l cs eJ)) (by simp[dD,AD,CV.dm,CC.dm,RV.dm]) fun r m1 hf=>by
  by_cases hw:(cF l).1=0
  .by_cases h8:cs.length<=80
   .obtain⟨l',hp,hr,hf⟩:=hf.2.2 hw h8;exact⟨_,hf,h3 hw h8 l' hp hr⟩
   .exact⟨_,hf.2.1 hw om,h2 hw om⟩
  .exact⟨_,hf.1 hw,h1 hw⟩
end Kn
def c8:LF:= ⟨67,[.tmp 0],(.seq (.ai [qu 0 (.aH (qb false))]) (.seq (.ai [qu 6 (qc 18 []),qu 7 (.build [qd 0,qd 0,qd 0,qd 0,qd 0,qd 0,qd 0,(.aa (.val (.string ⟨#[]⟩))),.aI] [(1,1,qi 3),(7,1,(.c (.rv (.one (.aa (.val (.string ⟨#[102]⟩))))))),(5,1,qi 1),(6,1,qi 7)]),qu 8 (.ln 1 [(.aa (.val (.int .u8 (0))))] 3 [(0,(.c (.rv (.one (.aa (.val (.int .u8 (104)))))))),(1,(.c (.rv (.one (.aa (.val (.int .u8 (101)))))))),(2,(.c (.rv (.one (.aa (.val (.int .u8 (121))))))))]),qu 9 (.Ur 8),qu 10 (.build [qd 0,qd 0,qd 0,qd 0,qd 0,qd 0,qd 0,(.aa (.val (.string ⟨#[]⟩))),.aI] [(1,1,qi 5),(2,1,qi 1),(8,1,9)]),qu 11 (.build [qd 0,qd 0,qd 0,qd 0,qd 0,qd 0,qd 0,(.aa (.val (.string ⟨#[]⟩))),.aI] [(1,1,qi 6),(2,1,qi 1)]),qu 12 (.build [qd 0,qd 0,qd 0,qd 0,qd 0,qd 0,qd 0,(.aa (.val (.string ⟨#[]⟩))),.aI] [(1,1,qi 1)]),qu 13 (.build [qd 0,qd 0,qd 0,qd 0,qd 0,qd 0,qd 0,(.aa (.val (.string ⟨#[]⟩))),.aI] [(1,1,qi 4),(2,1,qi 1),(4,1,qi 9)]),qu 14 (.build [qd 0,qd 0,qd 0,qd 0,qd 0,qd 0,qd 0,(.aa (.val (.string ⟨#[]⟩))),.aI] [(1,1,qi 2),(7,1,(.c (.rv (.one (.aa (.val (.string ⟨#[47,102]⟩))))))),(6,1,qi 1)]),qu 15 (.ln 9 [qd 0,qd 0,qd 0,qd 0,qd 0,qd 0,qd 0,(.aa (.val (.string ⟨#[]⟩))),.aI] 6 [(0,7),(1,10),(2,11),(3,12),(4,13),(5,14)]),qu 16 (qc 17 [6,15]),qm 5 16,qu 17 (.ext 5 0),qu 18 (.ext 5 1),qu 19 (.ext 5 2),qu 1 (.alloc [.aI,.aI,.aI]),qw (.store 3 1 17),qm 2 18,qm 3 19]) (.seq (.ai [qu 20 (.build [qd 0,qd 0,qd 0,qd 0,qd 0,qd 0,qd 0,(.aa (.val (.string ⟨#[]⟩))),.aI] [(1,1,qi 3),(2,1,(qi (-1)))]),qu 21 (qc 14 [20]),qu 4 (.alloc [qd 0,qd 0,qd 0,qd 0,qd 0,qd 0]),qw (.store 6 4 21)]) (.cu (.seq (.ai [qm 22 3,qu 23 (.aF .eql 22 (qi 0)),qm 24 23,qg 25 (.aH 2) 24 true,qg 26 (.len 1 25) 24 true,qg 27 (.aF .eql 26 (qi 6)) 24 true,qu 28 (.pick 24 27 (qb false)),qm 29 28,qg 30 (.aH 2) 29 true,qg 31 (.bW 4 30 (qi 0)) 29 true,qg 32 (.br 1 31) 29 true,qg 33 (.load false 1 32) 29 true,qg 34 (.aF .eql 33 (qi 1)) 29 true,qu 35 (.pick 29 34 (qb false)),qm 36 35,qg 37 (.aH 2) 36 true,qg 38 (.bW 4 37 (qi 4)) 36 true,qg 39 (.br 3 38) 36 true,qg 40 (.load false 1 39) 36 true,qg 41 (.J8 40) 36 true,qg 42 (.aF .eql 41 (.c (.rv (.one (.aa (.val (.string ⟨#[104,101,121]⟩))))))) 36 true,qu 43 (.pick 36 42 (qb false)),qm 44 43,qg 45 (.aH 2) 44 true,qg 46 (.bW 4 45 (qi 5)) 44 true,qg 47 (.br 0 46) 44 true,qg 48 (.load false 1 47) 44 true,qg 49 (.aF .eql 48 (qi 9)) 44 true,qu 50 (.pick 44 49 (qb false)),qm 51 50,qg 52 (.br 2 1) 51 true,qg 53 (.load false 1 52) 51 true,qg 54 (.len 1 53) 51 true,qg 55 (.aF .eql 54 (qi 1)) 51 true,qu 56 (.pick 51 55 (qb false)),qm 57 56,qg 58 (.w9 6 1 4 (qi 0)) 57 true,qg 59 (.load false 1 58) 57 true,qg 60 (.aF .eql 59 (qi 3)) 57 true,qu 61 (.pick 57 60 (qb false)),qm 62 61,qg 63 (.w9 6 1 4 (qi 1)) 62 true,qg 64 (.load false 1 63) 62 true,qg 65 (.aF .eql 64 (qi 2147483647)) 62 true,qu 66 (.pick 62 65 (qb false)),qm 0 66]) .ret)))))⟩
def c18:LF:= ⟨13,[.tmp 0],(.seq (.ai [qu 0 (.aH qe)]) (.seq (.ai [qu 1 (.aH qe)]) (.seq (.seq (.ai [qu 2 (.aH (qi 1))]) (.block 0 (.loop (.seq (.seq (.ai [qm 3 2,qu 4 (.aF .leq 3 (qi 22))]) (.cond 4 .skip (.exit 0))) (.seq (.block 1 (.ai [qm 7 1,qm 8 2,qu 9 (.build [qd 0,.aI] [(0,1,8)]),qu 10 (.ln 2 [qd 0,.aI] 1 [(0,9)]),qu 11 (.ni 2 32 7 10),qm 1 11])) (.ai [qm 5 2,qu 6 (.aF .add 5 (qi 1)),qm 2 6])))))) (.seq (.ai [qm 12 1,qm 0 12]) .ret))))⟩
namespace Kn
def xA:List cO:=(List.range 22).map fun(i:Nat)=>⟨(i:Int)+1,[]⟩
def Tv:Cl:=⟨0,0,0,0,0,0,0,[],[]⟩
def JE:List Cl:=[{Tv with ah:=3,cN:=[102],bF:=1,bc:=7},{Tv with ah:=5,fd:=1,data:=[104,101,121]},{Tv with ah:=6,fd:=1},{Tv with ah:=1},{Tv with ah:=4,fd:=1,n:=9},{Tv with ah:=2,cN:=[47,102],bc:=1}]
def aaR:List An:=[⟨0,1,0,[]⟩,⟨0,3,0,[]⟩,An.no 0,An.no 0,⟨0,3,0,gM [104,101,121]⟩,An.no 9]
theorem aaS:aS (gm xA) bR JE=aaR:=by kernel_rfl
theorem Tw:(cF xA).1=0:=by kernel_rfl
theorem Nv{l:List cO}(hp:l.Perm xA)(hr:l7 l):l=xA:=by
 refine List.Perm.eq_of_pairwise (le:=fun(a b:cO)=>a.call<b.call) (fun a b _ _ h1 h2=>by exfalso;have h1:a.call<b.call:=h1;have h2:b.call<a.call:=h2;omega) hr ?_ hp
 decide
theorem l18:bx Tryz.prog Tryz.f18=some c18.er:=by kernel_rfl
def Rr(n:Nat):List cO:=(List.range n).map fun(i:Nat)=>⟨(i:Int)+1,[]⟩
theorem PX{σ:Nat->Nat}{m:Mem}{Z:Nat->Prop}{id:Nat}(R:List cO)(k:Int){es:List (List CC)}(h:es=af (R.map cO.enc)):
  mK σ m Z id (.row 2 (es++ [[.aa (.val (.int .i64 k)),.aI]])) (.row 2 (af ((R++ [(⟨k,[]⟩:cO)]).map cO.enc))):=by
 rw[h,abn,bN];refine mK.zE (s:=2) (by rw[af,abW];exact ach fun x _=>by simp[CC.aO]) rfl fun j c c' h1 h2=>?_
 match j,h1,h2 with
 |0,h1,h2=>cases h1;cases h2;exact .aO (.aa _)
 |1,h1,h2=>cases h1;cases h2;exact .e8 (.aI 2)
 |n+2,h1,h2=>simp at h1
theorem Nw:body Tryz.prog c18 [] [] (fun r m=>cJ m r (dD xA)):=by
 refine aK (fun i=>i<=22) [] (fun i=>[(2,an .i64 ((i:Nat)+1)),(1,.rv (.one (.row 0 2 0 none)))]) (fun i=>[.row 2 (af ((Rr i).map cO.enc))]) (fun i=>22-i) 0 (Wi _) ?_ (fun i hi=>?_)
 .refine View.trans (View.aI 1 2 0 rfl rfl rfl) (View.o1 1 [0] [] ?_)
  .exact .pt rfl rfl (.eq rfl (by simp[Rr,af])) (.nil _)
 have hi:i<=22:=hi;refine ay (fun h=>?_) (fun h=>?_)
 .have aB:i<22:=by have h:((i:Int)+1)<=22:=h;omega
  refine⟨by simp only[cD,Rr,af,Nq,List.length_range,aar,aby];omega,?_⟩
  refine⟨i+1,aB,(show 22-(i+1)<22-i by omega),View.o 3 [2] [] ?_ ?_⟩
  .repeat(first|exact .nil|refine .aq ?_|refine .put (.aO (ap (k:=i+1) om).symm) ?_|refine .eq rfl ?_)
  .rw[show Rr (i+1)=Rr i++ [⟨(i:Int)+1,[]⟩] by simp[Rr,adr]]
   exact .pt rfl rfl (PX (Rr i) _ rfl) (.nil _)
 .have gX:i=22:=by have h:¬((i:Int)+1)<=22:=h;omega
  subst gX;exact cJ.rv (.one (d9.dJ (ds:=(Rr 22).map cO.enc) rfl 0 none))
theorem Nx{m:Mem}{K:CV->Mem->Prop}(h:K (dD xA) m):au Tryz.prog 18 [] m K:=
 be (cg Tryz.func18 l18 Nw) aG fun r m1 hf=>⟨_,hf,h⟩
theorem l8:bx Tryz.prog Tryz.f8=some c8.er:=by kernel_rfl
def clR:Cl:={Tv with ah:=3,fd:= -1}
theorem aaT:Nu JE:=⟨by decide,by decide⟩
theorem k25:(kS (gm xA) bR JE).ps.length=1:=by kernel_rfl
def G25:LC:=lX (bv (bv (bv c8.code)))
def asX(X:List (List Dt)):List An:=[⟨0,1,0,[]⟩,⟨0,3,0,[]⟩,An.no 0,An.no 0,⟨0,3,0,X⟩,An.no 9]
theorem Xi(kl:List Obj)(ko:List bi)(p:aT)(X:List (List Dt))(s:ByteArray)(hn:∃xs,tj (X.map fun ds=>ds.map CC.aa)=some xs/\strOfNums xs=s)(c:ByteArray)(hc:c=ByteArray.mk #[104,101,121])(hx:(s.toList==c.toList)=true):aw Tryz.prog 0 G25 (mg Tryz.prog c8.kD (fun r m=>r=ax true))
  ⟨iL 67 [(1,.rv (.one (.ptr 0 0))),(2,.rv (.one (.aa (Tu (asX X))))),(3,an .i64 0),(4,.rv (.one (.ptr 1 0)))],[.var ((kC kl ko [p]).map .aa),.var [.aa (.val (.int .i64 3)),.aa (.val (.int .i64 2147483647)),.aa (.val (.int .i64 0)),.aa (.val (.int .i64 0)),.aa (.val (.int .i64 0)),.aa (.val (.int .i64 0))]]⟩:=by
 obtain⟨xs,hn,hs⟩:=hn;refine ag hn ?_;refine bY (t:=((strOfNums xs).toList==(ByteArray.mk #[104,101,121]).toList)) (by rw[hs,<-hc];exact hx) ?_
 exact rfl
theorem aaU:((strOfNums [104,101,121]).toList==(ByteArray.mk #[104,101,121]).toList)=true:=by decide+kernel
theorem AE:body Tryz.prog c8 [] [] (fun r m=>r=ax true):=by
 refine Nx ?_;refine my (lI:=[dD xA,AD JE]) (m':=[.aW,.aW]) (View.o 2 [0,1] [0,1] ?_ (.aW (.aW (.nil _)))) ?_
 .refine .eq rfl (.put (.rv (.one (.e8 (gv.e8 (Z:=fun k=>bz [0,1] k=true) ?_ rfl rfl)))) .nil)
  repeat(first|exact jL.nil|exact gv.nil|refine gv.cons ?_ ?_|refine jL.cons ?_ ?_|exact .aa _|exact .aI 1|exact dC.dJ (Z:=fun k=>bz [0,1] k=true) (ds:=gM [104,101,121]) rfl rfl 0 none)
 refine Hh xA JE aaT (fun h=>absurd Tw h) (fun _ h=>absurd h (by decide)) fun _ _ l' hp hr=>?_
 rw[Nv hp hr,aaS];have hk:=k25;generalize kS (gm xA) bR JE=k at hk;refine my (lI:=[clR.cv]) (m':=[.aW,.aW,.var ((kC k.l k.ops k.ps).map .aa)]) (View.o 3 [0,1,2] [] ?_ (.aW (.aW (.pt rfl rfl (.jn rfl) (.nil _))))) ?_
 .refine .put (pD.agg ?_) .nil;repeat(first|exact .nil|refine .cons (.aO (.aa _)) ?_|refine .cons (.e8 (.aI 1)) ?_)
 refine yO clR ?_;obtain⟨kl,ko,kp⟩:=k;obtain⟨p,rfl⟩:=List.length_eq_one_iff.mp hk;have eA:=Xi kl ko p (gM [104,101,121]) (strOfNums [104,101,121]) ⟨[104,101,121],rfl,rfl⟩ (ByteArray.mk #[104,101,121]) rfl aaU;refine⟨_,View.o1 4 [2,3] [] ?_,eA⟩
 .exact .pe rfl rfl rfl (.pm rfl rfl rfl)
theorem FK{m:Mem}{K:CV->Mem->Prop}(h:K (ax true) m):au Tryz.prog 8 [] m K:=
 tM Tryz.func8 l8 rfl (X5 rfl) AE rfl rfl h
end Kn
def c10:LF:= ⟨55,[.tmp 4,.tmp 5],(.seq (.ai [qu 4 (.aH qe),qu 5 (.aH qe)]) (.seq (.ai [qm 18 0,qu 19 (qc 20 [18]),qm 17 19,qu 20 (.ext 17 0),qu 21 (.ext 17 1),qu 7 (.alloc [qd 0,qd 0]),qm 6 20,qw (.store 2 7 21)]) (.seq (.ai [qm 23 0,qu 24 (qc 17 [23,qe]),qm 22 24,qu 25 (.ext 22 0),qu 26 (.ext 22 1),qu 27 (.ext 22 2),qu 8 (.alloc [.aI,.aI,.aI]),qw (.store 3 8 25),qm 9 26,qm 10 27]) (.seq (.ai [qL 28 3 8,qu 29 (.ln 3 [.aI,.aI,.aI] 1 [(0,28)]),qm 11 29]) (.seq (.ai [qu 12 (.aH qe)]) (.seq (.seq (.ai [qm 30 1,qu 31 (.len 1 30),qu 32 (.aH (qi 0))]) (.block 0 (.loop (.seq (.ai [qu 33 (.aF .lss 32 31)]) (.seq (.cond 33 .skip (.exit 0)) (.seq (.block 1 (.seq (.ai [qu 34 (.bW 9 30 32),qL 35 9 34,qu 14 (.alloc [qd 0,qd 0,qd 0,qd 0,qd 0,qd 0,qd 0,(.aa (.val (.string ⟨#[]⟩))),.aI]),qw (.store 9 14 35)]) (.seq (.ai [qm 37 6,qL 38 3 8,qL 39 9 14,qu 40 (qc 21 [37,38,39]),qm 36 40,qu 41 (.ext 36 0),qu 42 (.ext 36 1),qu 15 (.alloc [.aI,.aI,.aI]),qu 16 (.alloc [qd 0,qd 0,qd 0,.aI]),qw (.store 3 15 41),qw (.store 4 16 42)]) (.seq (.ai [qL 43 3 15,qw (.store 3 8 43)]) (.seq (.ai [qm 44 11,qL 45 3 8,qu 46 (.ln 3 [.aI,.aI,.aI] 1 [(0,45)]),qu 47 (.ni 3 72 44 46),qm 11 47]) (.ai [qm 48 12,qL 49 4 16,qu 50 (.ln 4 [qd 0,qd 0,qd 0,.aI] 1 [(0,49)]),qu 51 (.ni 4 48 48 50),qm 12 51])))))) (.ai [qu 52 (.aF .add 32 (qi 1)),qm 32 52]))))))) (.seq (.ai [qm 53 11,qm 54 12,qm 4 53,qm 5 54]) .ret)))))))⟩
namespace Kn
def kE(k:Kr):List Dt:=kC k.l k.ops k.ps
def ksD(ks:List Kr):Dt:= .sl 3 (ks.map kE)
def Xj(prog:List dX)(cs:List Cl):CV:= .bK [.one (.aa (ksD (Hf prog bR cs))),.one (.aa (Tu (aS prog bR cs)))]
theorem l10:bx Tryz.prog Tryz.f10=some c10.er:=by kernel_rfl
structure Ny(cs:List Cl):Prop where
 l:cs.length<=1048576
 d:∀c,c∈cs->c.data.length<=4194304
theorem wJ(l:List cO)(hw:(cF l).1=0)(cs:List Cl)(eJ:Ny cs):body Tryz.prog c10 [dD l,AD cs] []
  (fun r m=>∃l',l'.Perm l/\l7 l'/\cJ m r (Xj (gm l') cs)):=by
 refine He l (fun h=>absurd hw h) (fun _ l' hp hr=>?_)
 generalize hpg:gm l'=prog;refine Ic (.dn (.aI 9 .nil)) (Hh l [] ⟨aG,aG⟩ (fun h=>absurd hw h) (fun _ h=>absurd h aG) fun _ _ l2 G4 uo=>?_)
 rw[show kS (gm l2) bR []=bR from rfl,show aS (gm l2) bR []=[]from rfl];refine aK (fun i=>i<=cs.length) [6,8,30,31] (fun i=>[(32,an .i64 (i:Nat)),(11,.rv (.one (.row 2 3 0 none))),(12,.rv (.one (.row 3 4 0 none)))])
   (fun i=>[.var [.aa (.val (.int .i64 0)),.aa (.val (.int .i64 0))],kB (kS prog bR (cs.take i)),.row 3 (af ((Hf prog bR (cs.take i)).map kE)),.row 4 (af ((aS prog bR (cs.take i)).map An.enc))]) (fun i=>cs.length-i) 0 (Wi _) ?_ (fun i hi=>?_)
 .refine View.trans (View.aI 12 4 3 rfl rfl rfl) (View.o1 4 [0,1,2,3] [] ?_)
  .exact .pe rfl rfl rfl (.pt rfl rfl (.eq rfl (fa _)) (.pr rfl rfl rfl (.pn rfl rfl rfl)))
 have hi:i<=cs.length:=hi;refine ay (fun h=>?_) (fun h=>?_)
 .have aB:i<cs.length:=by have h:(i:Int)<((cs.map Cl.enc).length:Int):=h;rw[Nq]at h;omega
  have Db:=KI.kS (prog:=prog) (cs.take i) uK;have ht:cs.take (i+1)=cs.take i++ [cs[i]]:=py (IE aB);have JV:=Az prog bR (cs.take i) cs[i];have x4:=CU prog bR (cs.take i) cs[i];have has:=AA prog bR (cs.take i) cs[i];rw[<-ht]at JV has x4;have fU:=eJ.l;have T0:(aS prog bR (cs.take i)).length<=1048576:=by rw[FJ,Z4];omega
  have fj:(Hf prog bR (cs.take i)).length<=1048577:=by rw[AB,Z4];omega
  refine ag (Nt aB) ?_;refine Nj prog (kS prog bR (cs.take i)) Db cs[i] (eJ.d _ (Z0 aB)) ?_;generalize o9 prog (kS prog bR (cs.take i)) cs[i]=D at JV has x4;obtain⟨k2,a2⟩:=D;refine⟨by simp only[cD,af,Nq,aar,aby];omega,?_⟩
  refine⟨by simp only[cD,af,Nq,aar,aby];omega,?_⟩
  refine⟨i+1,aB,(show cs.length-(i+1)<cs.length-i by omega),View.o 11 [0,1,8,10] [] ?_ ?_⟩
  .repeat(first|exact .nil|refine .aq ?_|refine .put (.aO (ap om).symm) ?_|refine .eq rfl ?_)
  .rw[JV,has,x4,abn,abn];exact .pe rfl rfl rfl (.pt rfl rfl (.eq rfl (fa _)) (.pt rfl rfl (.bM (bN (List.map kE _) (List.map kE [_])).symm) (.pt rfl rfl (.bM (bN (List.map An.enc _) (List.map An.enc [_])).symm) (.nil _))))
 .have gX:i=cs.length:=by have h:¬(i:Int)<((cs.map Cl.enc).length:Int):=h;rw[Nq]at h;omega
  subst gX;rw[abp];subst hpg;refine⟨l',hp,hr,?_⟩;refine .bK rfl fun i r r' h1 h2=>?_
  match i,h1,h2 with
  |0,h1,h2=>cases h1;cases h2;exact .one (d9.dJ (ds:=(Hf (gm l') bR cs).map kE) rfl 0 none)
  |1,h1,h2=>cases h1;cases h2;exact .one (d9.dJ (ds:=(aS (gm l') bR cs).map An.enc) rfl 0 none)
  |n+2,h1,h2=>simp at h1
theorem Fq(l:List cO)(hw:(cF l).1=0)(cs:List Cl)(eJ:Ny cs){m:Mem}{K:CV->Mem->Prop}(h:∀l',l'.Perm l->l7 l'->K (Xj (gm l') cs) m):au Tryz.prog 10 [dD l,AD cs] m K:=
 be (cg Tryz.func10 l10 (wJ l hw cs eJ)) (by simp[dD,AD,CV.dm,CC.dm,RV.dm]) fun r m1 hf=>by obtain⟨l',hp,hr,hf⟩:=hf;exact⟨_,hf,h l' hp hr⟩
end Kn
def c3:LF:= ⟨61,[.tmp 4],(.seq (.ai [qu 4 (.aH (qb false))]) (.seq (.seq (.ai [qu 9 (qc 8 []),qu 10 (.un .not 9)]) (.cond 10 (.seq (.ai [qu 4 (.aH (qb false))]) .ret) .skip)) (.seq (.seq (.ai [qm 11 0,qu 12 (qc 9 [11]),qu 13 (.Ru false 0 1 12),qu 14 (.aF .neq 13 (qi 0))]) (.cond 14 (.seq (.ai [qu 4 (.aH (qb true))]) .ret) .skip)) (.seq (.ai [qm 16 0,qm 17 1,qu 18 (qc 10 [16,17]),qm 15 18,qu 19 (.ext 15 0),qu 20 (.ext 15 1),qm 5 19,qm 6 20]) (.seq (.seq (.ai [qm 21 6,qu 22 (.len 1 21),qu 23 (.aH (qi 0))]) (.block 0 (.loop (.seq (.ai [qu 24 (.aF .lss 23 22)]) (.seq (.cond 24 .skip (.exit 0)) (.seq (.block 1 (.seq (.ai [qm 25 23,qu 26 (.bW 4 21 23),qL 27 4 26,qu 8 (.alloc [qd 0,qd 0,qd 0,.aI]),qm 7 25,qw (.store 4 8 27)]) (.seq (.bX [qf 28 0 8,ql 29 28,qu 30 (.aF .neq 29 (qi 0)),qm 31 30,qg 32 (.aH 5) 31 true,qg 33 (.aH 7) 31 true,qg 34 (.bW 3 32 33) 31 true,qg 35 (.load true 3 34) 31 true,qg 36 (.aH 5) 31 true,qg 37 (.aH 7) 31 true,qg 38 (.aF .add 37 (qi 1)) 31 true,qg 39 (.bW 3 36 38) 31 true,qg 40 (.load true 3 39) 31 true,qg 41 (qc 11 [35,40]) 31 true,qg 42 (.un .not 41) 31 true,qg 43 (.aH 42) 31 true,qg 44 (.br 1 8) 43 false,qg 45 (.load false 1 44) 43 false,qg 46 (.aF .neq 45 (qi 0)) 43 false,qg 47 (.pick 43 (qb true) 46) 31 true,qg 48 (.aH 47) 31 true,qg 49 (.br 2 8) 48 false,qg 50 (.load false 1 49) 48 false,qg 51 (.aF .neq 50 (qi 0)) 48 false,qg 52 (.pick 48 (qb true) 51) 31 true,qg 53 (.aH 52) 31 true,qg 54 (.br 3 8) 53 false,qg 55 (.load false 1 54) 53 false,qg 56 (.len 1 55) 53 false,qg 57 (.aF .gtr 56 (qi 0)) 53 false,qg 58 (.pick 53 (qb true) 57) 31 true,qu 59 (.pick 31 58 (qb false))] [(.cons 0 none (.cons 1 none (.cons 2 none (.cons 3 none (.cons 4 none (.cons 5 none (.cons 6 none (.cons 7 none (.cons 8 none (.cons 9 none (.cons 10 none (.cons 11 none (.cons 12 none (.cons 13 (some []) (.cons 14 none (.cons 15 none (.cons 16 none (.cons 17 none (.cons 18 none (.cons 19 none (.cons 20 none (.cons 21 none (.cons 22 none (.cons 23 none (.cons 24 none (.cons 25 none (.cons 26 none (.cons 27 none (.cons 28 none (.cons 29 none (.cons 30 none (.cons 31 none .nil))))))))))))))))))))))))))))))))]) (.cond 59 (.seq (.ai [qu 4 (.aH (qb false))]) .ret) .skip)))) (.ai [qu 60 (.aF .add 23 (qi 1)),qm 23 60]))))))) (.seq (.ai [qu 4 (.aH (qb true))]) .ret))))))⟩
namespace Kn
theorem Hi(prog:List dX):∀(k:Kr)(cs:List Cl)(i:Nat),i<=cs.length->(Hf prog k cs)[i]? =some (kS prog k (cs.take i))
 |k,[],0,_=>rfl
 |k,c::r,0,_=>rfl
 |k,c::r,i+1,h=>by
  show(Hf prog (o9 prog k c).1 r)[i]? =_;rw[Hi prog _ r i (by simpa using h)]
  rfl
theorem Tx(prog:List dX)(cs:List Cl){i:Nat}(h:i<=cs.length):cR ((Hf prog bR cs).map kE) (i:Nat)=some (kE (kS prog bR (cs.take i))):=by rw[bn,Q8,Hi prog _ _ _ h];rfl
theorem PY{prog:List dX}{k:Kr}{c:Cl}(h:(o9 prog k c).2.js≠0):∃e,o9 prog k c=(k,An.no e):=by
 unfold o9 at h⊢;split
 .exact⟨_,rfl⟩
 rename_i h1;rw[if_neg h1]at h;split
 .exact⟨_,rfl⟩
 rename_i h2;rw[if_neg h2]at h;split
 .exact⟨_,rfl⟩
 rename_i h3;rw[if_neg h3]at h;unfold N7 at h⊢;split
 .exact⟨_,rfl⟩
 rename_i h4;rw[if_neg h4]at h;exact absurd h h4
end Kn
namespace Kn
def nE(k v:Int):ME:=⟨.int .i64 k,.one (.aa (.val (.int .i64 v)))⟩
theorem Ty{prog:List dX}{k:Kr}{c:Cl}(h:(o9 prog k c).2.js=0):∃p:Nat,c.aM=p/\∃hp:p<k.ps.length,k.ps[p].aQ=true/\1<=c.ah/\c.ah<=22/\(iB k p c).2.js=0/\o9 prog k c=(kU (iB k p c).1,(iB k p c).2):=by
 unfold o9 at h⊢;split at h
 .cases h
 rename_i h1;split at h
 .cases h
 rename_i h2;split at h
 .cases h
 rename_i h3;obtain⟨p,hc,hp,hl⟩:=oo (by simpa using h1)
 unfold N7 at h⊢;split at h
 .rename_i h4;exact absurd h h4
 rename_i h4;rw[hc,Z3]at h h3 h4;rw[hc]at h1;refine⟨p,hc,hp,hl,om,om,h,?_⟩;rw[hc,if_neg h1,if_neg h2,Z3,if_neg h3,if_neg h4]
end Kn
namespace Kn
def PZ(k:Kr):Prop:=kU k=k
theorem KI.LM{k:Kr}(h:KI k):PZ (kU k):=by obtain⟨a,c,h1,h2,h3⟩:=(iZ h.kr).ex;obtain⟨b,hb⟩:=h2.left;obtain⟨a2,c2,g1,g2,g3⟩:=(iZ h.Rm.kr).ex;exact h3.LM hb g1 g2 g3
theorem P0{k:Kr}(h:KI k):∃(y:Kr)(en:Bool),cL k.l k.ops k.ps y.l y.ops y.ps en:=by
 obtain⟨a,c,h1,h2,h3⟩:=(iZ h.kr).ex;rcases zP h1 with rfl|⟨x,hx,_⟩
 .exact⟨c,_,h2⟩
 .exact⟨x,_,hx⟩
theorem KI.acA{x:Kr}(h:KI x)(hm:∀b,fO x.l x.ops x.ps b->(∀(i:Nat)o,x.l[i]? =some o->o.ah≠0->dx b.O i)/\(∀(i:Nat)o,x.ops[i]? =some o->¬dx b.P i->o=⟨-1,0⟩))(he:∀(t:Nat)y,x.ps[t]? =some y->jp x.l t y=false):kU x=Sz x:=by
 obtain⟨y,en,hy⟩:=P0 h;have hid:y.l=x.l/\y.ops=x.ops/\y.ps=x.ps/\en=false:=by
  obtain⟨bd,OT,ZC,AY⟩:=hy.ex;obtain⟨m1,m2⟩:=hm bd OT;have mE:∀i,dB bd x.l i=false:=fun i=>by
   unfold dB;cases hi:x.l[i]? with
   |none=>rfl
   |some o=>
    by_cases hk:o.ah=0
    .simp[hk]
    .have:bd.O[i]? =some true:=m1 i o hi hk;simp[this]
  have hL:y.l=x.l:=ZC.id fun t o _=>by
   unfold cy;rw[mE t];have:jK bd x.l x.l.length o.aD=false:=by unfold jK;rw[mE];simp
   rw[this];simp
  have nD:=hy.pr;have mX:=hy.en;rw[hL]at nD mX;refine⟨hL,AY.id fun t o ho=>?_,nD.id fun t o ho=>?_,?_⟩
  .unfold zL;split
   .rename_i hh;have hn:¬dx bd.P t:=by intro LK;have LK:bd.P[t]? =some true:=LK;simp[LK]at hh
    exact(m2 t o ho hn).symm
   .rfl
  .simp[vK,he t o ho]
  .rw[mX];cases oT:g9 x.l x.ps x.ps.length with
   |false=>rfl
   |true=>
    unfold g9 at oT;rw[abt]at oT;obtain⟨t,ht,zN⟩:=oT;have J2:t<x.ps.length:=by simpa using ht
    rw[IE J2]at zN;have zN:jp x.l t x.ps[t]=true:=zN;rw[he t _ (IE J2)]at zN;cases zN
 obtain⟨e1,e2,e3,rfl⟩:=hid;rw[e1,e2,e3]at hy;exact Is.zo (iZ h.kr) ⟨x,x,.refl,hy,LU x⟩
end Kn
namespace Kn
theorem P1{prog:List dX}{k:Kr}(h:KI k)(hs:PZ k)(c:Cl):PZ (o9 prog k c).1:=by
 by_cases he:(o9 prog k c).2.js=0
 .obtain⟨p,hc,hp,hl,-,-,ho,e⟩:=Ty he;rw[e];exact(h.op (IE hp) hl (c:=c) ho).LM
 .obtain⟨e,h2⟩:=PY he;rw[h2];exact hs
theorem Nz:PZ bR:=by unfold PZ;kernel_rfl
theorem NA(prog:List dX):∀(cs:List Cl){k:Kr},KI k->PZ k->PZ (kS prog k cs)
 | [],_,_,h=>h
 |c::r,_,h,hs=>NA prog r (h.do_ prog c) (P1 h hs c)
end Kn
def c48:LF:= ⟨17,[],(.seq (.ai [qf 5 0 1,ql 6 5,qm 7 0,qu 8 (qc 49 [6,7,qi 0]),qm 9 8,qg 10 (.load false 1 2) 9 true,qg 11 (.aH 0) 9 true,qg 12 (.rR (.one (.aa (.val (.bool false)))) (.i .i64) 10 11 false) 9 true,qg 13 (.un .not 12) 9 true,qu 14 (.pick 9 13 (qb false))]) (.cond 14 (.seq (.ai [ql 15 2,qm 16 0,qw (.rS (.i .i64) 15 16 (qb true))]) (.ai [qw (.store 1 3 (qb true))])) .skip))⟩
def c50:LF:= ⟨24,[],(.seq (.ai [qu 3 (.box 0)]) (.seq (.ai [qf 4 0 3,ql 5 4,qu 6 (.aF .geq 5 (qi 0)),qm 7 6,qg 8 (.br 0 3) 7 true,qg 9 (.load false 1 8) 7 true,qg 10 (.br 1 1) 7 true,qg 11 (.load false 1 10) 7 true,qg 12 (.len 1 11) 7 true,qg 13 (.aF .lss 9 12) 7 true,qu 14 (.pick 7 13 (qb false))]) (.cond 14 (.bX [ql 15 2,qf 16 1 1,ql 17 16,qf 18 0 3,ql 19 18,qu 20 (.bW 2 17 19),qf 21 0 20,ql 22 21,qu 23 (.call 15 [22])] [(.cons 0 none (.cons 1 none (.cons 2 none (.cons 3 none (.cons 4 none (.cons 5 none (.cons 6 none (.cons 7 none (.cons 8 (some []) .nil)))))))))]) .skip)))⟩
theorem l48:bx Tryz.prog Tryz.f48=some c48:=by kernel_rfl
theorem l50:bx Tryz.prog Tryz.f50=some c50:=by kernel_rfl
def fx(l:List Obj)(z:Int)(L:List Nat):List Nat:=if(AX l z 0&& !sO L z)=true then L++ [z.toNat]else L
def gn(l:List Obj)(z:Int)(L:List Nat)(bO:Bool):Bool:=if(AX l z 0&& !sO L z)=true then true else bO
theorem Tz{l:List Obj}{z:Int}:AX l z 0=true↔∃n,vO l z n:=by
 unfold AX vO;constructor
 .intro h;by_cases h0:z>=0
  .obtain⟨n,rfl⟩:∃n:Nat,z=n:=⟨z.toNat,om⟩;by_cases hn:n<l.length
   .simp[hn]at h;exact⟨n,rfl,l[n],IE hn,h⟩
   .simp[hn]at h
  .simp[h0]at h
 .rintro⟨n,rfl,o,ho,hk⟩;obtain⟨hn,rfl⟩:=Mh.1 ho;simp[hn,hk]
def kB(l:List Obj)(ops:List bi)(ps:List aT):Bk:= .var [.aa (cU l),.aa (d5 ops),.aa (ff ps)]
def gg:Bk:= .var [.map 1]
def fl(b:Bool):Bk:= .var [.aa (.val (.bool b))]
theorem FL(l:List Obj)(ops:List bi)(ps:List aT)(z:Int)(L:List Nat)(bO:Bool):
  body Tryz.prog c48 [an .i64 z,.rv (.one (.ptr 0 0)),.rv (.one (.ptr 2 0)),.rv (.one (.ptr 3 0))] [kB l ops ps,.mp (L.map fh),gg,fl bO]
   (fun r m=>r= .bK []/\m=[kB l ops ps,.mp ((fx l z L).map fh),gg,fl (gn l z L bO)]):=by
 refine VL l z 0 ?_;cases hI:AX l z 0 with
 |false=>
  have e1:fx l z L=L:=by rw[fx,hI];rfl
  have e2:gn l z L bO=bO:=by rw[gn,hI];rfl
  rw[e1,e2];exact⟨rfl,rfl⟩
 |true=>
  refine ag (o7 z L) ?_;cases hN:sO L z with
  |true=>
   have e1:fx l z L=L:=by rw[fx,hI,hN];rfl
   have e2:gn l z L bO=bO:=by rw[gn,hI,hN];rfl
   rw[e1,e2];exact⟨rfl,rfl⟩
  |false=>
   have e1:fx l z L=L++ [z.toNat]:=by rw[fx,hI,hN];rfl
   have e2:gn l z L bO=true:=by rw[gn,hI,hN];rfl
   rw[e1,e2];refine ag (Ms z L hN) ?_;obtain⟨n,rfl,_⟩:=Tz.1 hI;refine⟨rfl,?_⟩;rw[abn];rfl
theorem CW(l:List Obj)(ops:List bi)(ps:List aT)(z:Int)(L:List Nat)(bO:Bool)(R:Mem){K:CV->Mem->Prop}(h:K (.bK []) (kB l ops ps:: .mp ((fx l z L).map fh)::gg::fl (gn l z L bO)::R)):
  au Tryz.prog 48 [an .i64 z,.rv (.one (.ptr 0 0)),.rv (.one (.ptr 2 0)),.rv (.one (.ptr 3 0))] (kB l ops ps:: .mp (L.map fh)::gg::fl bO::R) K:=by
 refine bu [0,1,2,3] (R.length+4) rfl rfl rfl (by simp[eO,Nat.blt]) (args0:=[an .i64 z,.rv (.one (.ptr 0 0)),.rv (.one (.ptr 2 0)),.rv (.one (.ptr 3 0))]) rfl (m0:=[kB l ops ps,.mp (L.map fh),gg,fl bO]) (fun i b' hi=>?_)
  (aX Tryz.func48 l48 (FL l ops ps z L bO)) (fun r m1 hr=>?_)
 .match i,hi with
  |0,hi=>cases hi;exact .inr ⟨fun h=>h,_,rfl,.eq rfl (by simp[kB])⟩
  |1,hi=>cases hi;exact .inr ⟨fun h=>h,_,rfl,.eq (cY L) aG⟩
  |2,hi=>cases hi;exact .inr ⟨fun h=>h,_,rfl,.eq rfl (by simp[gg])⟩
  |3,hi=>cases hi;exact .inr ⟨fun h=>h,_,rfl,.eq rfl (by simp[fl])⟩
  |n+4,hi=>simp at hi
 .obtain⟨rfl,rfl⟩:=hr;refine⟨SS _,?_⟩;show K (.bK []) (kB l ops ps::(Bk.mp ((fx l z L).map fh)).aO (sg [0,1,2,3] (R.length+4))::gg::fl (gn l z L bO)::gh R []);rw[cY,b9,ab5];exact h
def gU(ops:List bi)(z:Int):Int:=if 0<=z then(match ops[z.toNat]? with|some o=>o.bD|none=>-1)else -1
theorem JF(l:List Obj)(L:List Nat)(bO:Bool):fx l (-1) L=L/\gn l (-1) L bO=bO:=by
 have:AX l (-1) 0=false:=by simp[AX]
 constructor
 .rw[fx,this];rfl
 .rw[gn,this];rfl
def yX:Bk:= .var [.fn 48 [0,2,3]]
theorem JG(l:List Obj)(ops:List bi)(ps:List aT)(z bZ:Int)(L:List Nat)(bO:Bool):
  body Tryz.prog c50 [.rv (.agg [.aa (.val (.int .i64 z)),.aa (.val (.int .i64 bZ))]),.rv (.one (.ptr 0 0)),.rv (.one (.ptr 4 0))] [kB l ops ps,.mp (L.map fh),gg,fl bO,yX]
   (fun r m=>r= .bK []/\∃x,m=[kB l ops ps,.mp ((fx l (gU ops z) L).map fh),gg,fl (gn l (gU ops z) L bO),yX,x]):=by
 obtain⟨n1,n2⟩:=JF l L bO;refine ay (fun h0=>?_) (fun h0=>?_)
 .obtain⟨n,rfl⟩:∃n:Nat,z=n:=⟨z.toNat,om⟩;refine ay (fun h=>?_) (fun h=>?_)
  .have aB:n<ops.length:=by have h:(n:Int)<((ops.map bi.enc).length:Int):=h;rw[Nq]at h;omega
   have hz:gU ops (n:Int)=ops[n].bD:=by rw[gU,if_pos om,Z3,IE aB]
   rw[hz];refine ag (lM aB) ?_;refine CW l ops ps ops[n].bD L bO [yX,.var [.aa (.val (.int .i64 (n:Nat))),.aa (.val (.int .i64 bZ))]] ?_;exact⟨trivial,rfl,_,rfl⟩
  .have ew:ops.length<=n:=by have h:¬(n:Int)<((ops.map bi.enc).length:Int):=h;rw[Nq]at h;omega
   have hz:gU ops (n:Int)= -1:=by rw[gU,if_pos om,Z3,abg ew]
   rw[hz,n1,n2];exact⟨rfl,_,rfl⟩
 .have hz:gU ops z= -1:=by rw[gU,if_neg om]
  rw[hz,n1,n2];exact⟨rfl,_,rfl⟩
theorem Hj(l:List Obj)(ops:List bi)(ps:List aT)(z bZ:Int)(L:List Nat)(bO:Bool)(R:Mem){K:CV->Mem->Prop}(h:K (.bK []) (kB l ops ps:: .mp ((fx l (gU ops z) L).map fh)::gg::fl (gn l (gU ops z) L bO)::yX::R)):
  au Tryz.prog 50 [.rv (.agg [.aa (.val (.int .i64 z)),.aa (.val (.int .i64 bZ))]),.rv (.one (.ptr 0 0)),.rv (.one (.ptr 4 0))] (kB l ops ps:: .mp (L.map fh)::gg::fl bO::yX::R) K:=by
 refine bu [0,1,2,3,4] (R.length+5) rfl rfl rfl (by simp[eO,Nat.blt]) (args0:=[.rv (.agg [.aa (.val (.int .i64 z)),.aa (.val (.int .i64 bZ))]),.rv (.one (.ptr 0 0)),.rv (.one (.ptr 4 0))]) rfl (m0:=[kB l ops ps,.mp (L.map fh),gg,fl bO,yX]) (fun i b' hi=>?_)
  (K0:=fun r m=>r= .bK []/\m=[kB l ops ps,.mp ((fx l (gU ops z) L).map fh),gg,fl (gn l (gU ops z) L bO),yX])
  (bJ (aX Tryz.func50 l50 (JG l ops ps z bZ L bO)) (fun r m1 hr=>?_)) (fun r m1 hr=>?_)
 .match i,hi with
  |0,hi=>cases hi;exact .inr ⟨fun h=>h,_,rfl,.eq rfl (by simp[kB])⟩
  |1,hi=>cases hi;exact .inr ⟨fun h=>h,_,rfl,.eq (cY L) aG⟩
  |2,hi=>cases hi;exact .inr ⟨fun h=>h,_,rfl,.eq rfl (by simp[gg])⟩
  |3,hi=>cases hi;exact .inr ⟨fun h=>h,_,rfl,.eq rfl (by simp[fl])⟩
  |4,hi=>cases hi;exact .inr ⟨fun h=>h,_,rfl,.eq rfl (by simp[yX])⟩
  |n+5,hi=>simp at hi
 .obtain⟨rfl,x,rfl⟩:=hr;refine⟨.bK [],[kB l ops ps,.mp ((fx l (gU ops z) L).map fh),gg,fl (gn l (gU ops z) L bO),yX],View.o 6 [0,1,2,3,4] [] (.eq rfl .nil) ?_,rfl,rfl⟩;exact .pt rfl rfl (.eq rfl (by simp[kB])) (.pt rfl rfl (.eq (cY _) aG) (.pt rfl rfl (.eq rfl (by simp[gg])) (.pt rfl rfl (.eq rfl (by simp[fl])) (.pt rfl rfl (.eq rfl (by simp[yX])) (.nil _)))))
 .obtain⟨rfl,rfl⟩:=hr;refine⟨SS _,?_⟩;show K (.bK []) (kB l ops ps::(Bk.mp ((fx l (gU ops z) L).map fh)).aO (sg [0,1,2,3,4] (R.length+5))::gg::fl (gn l (gU ops z) L bO)::yX::gh R []);rw[cY,b9,ab5];exact h
structure FM(l:List Obj)(ops:List bi)(ps:List aT)(L:List Nat):Prop where
 nd:L.Nodup
 val:∀n,n∈L->vO l (n:Int) n
 ar:∀n,vO l 0 n->n∈L
 kR:∀RO RP,Cl l ops RO RP->vH l ops ps RO RP->∀n,n∈L->RO n
structure gk(l:List Obj)(ops:List bi)(ps:List aT)(L:List Nat):Prop where
 NB:FM l ops ps L
 cp:∀(p:Nat)pr,ps[p]? =some pr->pr.aQ=true->∀s,s∈pr.aJ->s.has=true->∀n,vO l (gU ops s.dk) n->n∈L
 ce:∀(i:Nat)o,i∈L->l[i]? =some o->∀z,sE o z->∀n,vO l z n->n∈L
 cq:∀(i:Nat)o,i∈L->l[i]? =some o->∀q,q∈o.aj->q.has=true->∀n,vO l (gU ops q.dk) n->n∈L
def NC(N:Nat)(L:List Nat):Nat:=((List.range N).filter fun i=>decide (i∉L)).length
theorem ND{N n:Nat}{L:List Nat}(hn:n<N)(h:n∉L):NC N (L++ [n])<NC N L:=by
 have e:((List.range N).filter fun i=>decide (i∉L++ [n]))=((List.range N).filter fun i=>decide (i∉L)).filter fun i=>decide (i≠n):=by rw[List.filter_filter];apply List.filter_congr;intro x _;simp only[abL,aca,not_or,Bool.decide_and,ne_eq];rw[Bool.and_comm]
 rw[NC,e,NC,List.length_filter_lt_length_iff_exists];exact⟨n,by simp[hn,h],aG⟩
structure tc(l:List Obj)(ops:List bi)(ps:List aT)(L0 L:List Nat)(bO:Bool):Prop where
 NB:FM l ops ps L
 sub:∀n,n∈L0->n∈L
 eq:bO=false->L=L0
 lJ:bO=true->NC l.length L<NC l.length L0
theorem td{l:List Obj}{z:Int}{L:List Nat}{n:Nat}(h:n∈L):n∈fx l z L:=by
 rw[fx];split
 .simp[h]
 .exact h
theorem NF{l:List Obj}{z:Int}{L:List Nat}{n:Nat}(h:vO l z n):n∈fx l z L:=by
 have hI:AX l z 0=true:=Tz.2 ⟨n,h⟩;have hz:=h.1;rw[fx,hI];cases hN:sO L z with
 |true=>
  rw[hz]at hN;exact ix.1 hN
 |false=>
  simp[hz]
theorem tc.mark{l:List Obj}{ops:List bi}{ps:List aT}{L0 L:List Nat}{bO:Bool}{z:Int}(h:tc l ops ps L0 L bO)(hz:∀RO RP,Cl l ops RO RP->vH l ops ps RO RP->(∀m,m∈L->RO m)->∀n,vO l z n->RO n):tc l ops ps L0 (fx l z L) (gn l z L bO):=by
 by_cases hc:(AX l z 0&& !sO L z)=true
 .have e1:fx l z L=L++ [z.toNat]:=if_pos hc;have e2:gn l z L bO=true:=if_pos hc;have hc:AX l z 0=true/\sO L z=false:=by simpa using hc
  obtain⟨n,hn⟩:=Tz.1 hc.1;have hzn:z=n:=hn.1;have hnn:n<l.length:=by obtain⟨_,o,ho,_⟩:=hn;exact(Mh.1 ho).1
  have C9:n∉L:=fun hm=>by have:=ix.2 hm;rw[<-hzn,hc.2]at this;cases this
  have e3:z.toNat=n:=om;rw[e1,e2,e3];have SU:NC l.length (L++ [n])<NC l.length L:=ND hnn C9;refine⟨⟨?_,fun m hm=>?_,fun m hm=>by simp[h.NB.ar m hm],fun RO RP fU hr m hm=>?_⟩,fun m hm=>by simp[h.sub m hm],(fun h=>by cases h),fun _=>?_⟩
  .rw[List.nodup_append];refine⟨h.NB.nd,aG,fun a ha b hb=>?_⟩
   have:b=n:=by simpa using hb
   intro e;rw[e,this]at ha;exact C9 ha
  .rcases abL.1 hm with hm|hm
   .exact h.NB.val m hm
   .have:m=n:=by simpa using hm
    subst this;rw[hzn]at hn;exact hn
  .rcases abL.1 hm with hm|hm
   .exact h.NB.kR RO RP fU hr m hm
   .have:m=n:=by simpa using hm
    subst this;exact hz RO RP fU hr (fun x hx=>h.NB.kR RO RP fU hr x hx) m hn
  .cases XD:bO with
   |true=>have:=h.lJ XD;omega
   |false=>rw[<-h.eq XD];exact SU
 .have e1:fx l z L=L:=if_neg hc;have e2:gn l z L bO=bO:=if_neg hc;rw[e1,e2];exact h
def nJ(l:List Obj)(S:Int->Prop)(L:List Nat):Prop:=∀z,S z->∀n,vO l z n->n∈L
theorem nJ.mark{l:List Obj}{S S':Int->Prop}{L:List Nat}{z:Int}(h:nJ l S L)(hS:∀y,S' y->S y\/y=z):nJ l S' (fx l z L):=fun y hy n hn=>by
 rcases hS y hy with h1|rfl
 .exact td (h y h1 n hn)
 .exact NF hn
theorem nJ.mono{l:List Obj}{S S':Int->Prop}{L:List Nat}(h:nJ l S L)(hS:∀y,S' y->S y):nJ l S' L:=fun y hy n hn=>h y (hS y hy) n hn
def S1(ops:List bi)(ps:List aT)(p j:Nat)(z:Int):Prop:=∃(i:Nat)(pr:aT)(k:Nat)(s:fz),ps[i]? =some pr/\pr.aQ=true/\pr.aJ[k]? =some s/\s.has=true/\(i<p\/i=p/\k<j)/\z=gU ops s.dk
def S2(l:List Obj)(ops:List bi)(ps:List aT)(L0:List Nat)(i je jq:Nat)(z:Int):Prop:=
 S1 ops ps ps.length 0 z\/∃(i':Nat)(o:Obj),i'∈L0/\l[i']? =some o/\
  ((∃(k:Nat)(nm:ByteArray),o.ak[k]? =some (eG (nm,z))/\(i'<i\/i'=i/\k<je))\/∃(k:Nat)(q:bw),o.aj[k]? =some q/\q.has=true/\(i'<i\/i'=i/\k<jq)/\z=gU ops q.dk)
theorem NG{l:List Obj}{ops:List bi}{RO RP:Nat->Prop}{z:Int}(fU:Cl l ops RO RP)(h:∀c,vP ops z c->RP c):∀n,vO l (gU ops z) n->RO n:=by
 intro n hn;unfold gU at hn;split at hn
 .rename_i h0;cases ho:ops[z.toNat]? with
  |none=>
   rw[ho]at hn;have:(-1:Int)=n:=hn.1;omega
  |some o=>
   rw[ho]at hn;have aB:=(Mh.1 ho).1;exact fU.p z.toNat o (h z.toNat ⟨om,aB⟩) ho n hn
 .have:=hn.1;omega
theorem Xk(l:List Obj)(ops:List bi)(ps:List aT)(L:List Nat)(b:Bool)(n:Nat)(R:Mem):dV (sg [0,1,2,3,4] n) (kB l ops ps:: .mp (L.map fh)::gg::fl b::yX::R) (fun k=>bz [] k=true) 0 [kB l ops ps,.mp (L.map fh),gg,fl b,yX]:=
 .pt rfl rfl (.eq rfl (by simp[kB])) (.pt rfl rfl (.eq (cY _) aG) (.pt rfl rfl (.eq rfl (by simp[gg])) (.pt rfl rfl (.eq rfl (by simp[fl])) (.pt rfl rfl (.eq rfl (by simp[yX])) (.nil _)))))
theorem P2(l:List Obj)(ops:List bi)(ps:List aT)(L:List Nat)(b:Bool)(ds:List Dt)(n:Nat)(R:Mem):dV (sg [0,1,2,3,4,5] n) (kB l ops ps:: .mp (L.map fh)::gg::fl b::yX:: .var (ds.map .aa)::R) (fun k=>bz [] k=true) 0 [kB l ops ps,.mp (L.map fh),gg,fl b,yX,.var (ds.map .aa)]:=
 .pt rfl rfl (.eq rfl (by simp[kB])) (.pt rfl rfl (.eq (cY _) aG) (.pt rfl rfl (.eq rfl (by simp[gg])) (.pt rfl rfl (.eq rfl (by simp[fl])) (.pt rfl rfl (.eq rfl (by simp[yX])) (.pt rfl rfl (.jn rfl) (.nil _))))))
structure FN where
 i:Nat
 L:List Nat
 bO:Bool
def M5(l:List Obj)(ops:List bi)(ps:List aT)(a:FN):Mem:=[kB l ops ps,.mp (a.L.map fh),gg,fl a.bO,yX]
def M6(l:List Obj)(ops:List bi)(ps:List aT)(ds:List Dt)(a:FN):Mem:=[kB l ops ps,.mp (a.L.map fh),gg,fl a.bO,yX,.var (ds.map .aa)]
def FO(l:List Obj)(ops:List bi)(ps:List aT)(r:CV)(m:Mem):Prop:=∃L,gk l ops ps L/\r= .rv (.one (.map 0))/\m=[.mp (L.map fh)]
theorem P3{ops:List bi}{ps:List aT}{z:Int}:¬S1 ops ps 0 0 z:=by rintro⟨i,pr,k,s,_,_,_,_,h,_⟩;omega
theorem Hk{ops:List bi}{ps:List aT}{p j:Nat}{pr:aT}{s:fz}(hp:ps[p]? =some pr)(hs:pr.aJ[j]? =some s){y:Int}(h:S1 ops ps p (j+1) y):S1 ops ps p j y\/(pr.aQ=true/\s.has=true/\y=gU ops s.dk):=by
 obtain⟨i,NH,k,s',h1,h2,h3,h4,h5,h6⟩:=h;by_cases hk:i=p/\k=j
 .obtain⟨rfl,rfl⟩:=hk;rw[hp]at h1;cases h1;rw[hs]at h3;cases h3;exact .inr ⟨h2,h4,h6⟩
 .exact .inl ⟨i,NH,k,s',h1,h2,h3,h4,om,h6⟩
theorem P4{ops:List bi}{ps:List aT}{p:Nat}{pr:aT}(hp:ps[p]? =some pr){y:Int}(h:S1 ops ps (p+1) 0 y):S1 ops ps p pr.aJ.length y:=by
 obtain⟨i,NH,k,s',h1,h2,h3,h4,h5,h6⟩:=h;refine⟨i,NH,k,s',h1,h2,h3,h4,?_,h6⟩;by_cases hi:i=p
 .subst hi;rw[hp]at h1;cases h1;exact .inr ⟨rfl,(Mh.1 h3).1⟩
 .exact .inl om
theorem JH{l:List Obj}{ops:List bi}{ps:List aT}{p j:Nat}{pr:aT}{s:fz}(hp:ps[p]? =some pr)(hs:pr.aJ[j]? =some s)(hl:pr.aQ=true)(hh:s.has=true)(L:List Nat):
  ∀RO RP,Cl l ops RO RP->vH l ops ps RO RP->(∀m,m∈L->RO m)->∀n,vO l (gU ops s.dk) n->RO n:=
 fun RO RP fU hr _ n hn=>NG fU (fun c hc=>hr.2 p pr hp hl s (Rq hs) hh c hc) n hn
theorem P5{l:List Obj}{ops:List bi}{ps:List aT}{L0:List Nat}{z:Int}(h:S2 l ops ps L0 0 0 0 z):S1 ops ps ps.length 0 z:=by
 rcases h with h|⟨i,o,_,_,⟨k,nm,_,h⟩|⟨k,q,_,_,h,_⟩⟩
 .exact h
 .omega
 .omega
theorem P6{l:List Obj}{ops:List bi}{ps:List aT}{L0:List Nat}{i:Nat}(hi:i∉L0){z:Int}(h:S2 l ops ps L0 (i+1) 0 0 z):S2 l ops ps L0 i 0 0 z:=by
 rcases h with h|⟨i',o,h1,h2,⟨k,nm,h3,h4⟩|⟨k,q,h3,h4,h5,h6⟩⟩
 .exact .inl h
 .refine .inr ⟨i',o,h1,h2,.inl ⟨k,nm,h3,?_⟩⟩;have:i'≠i:=fun e=>hi (e▸h1)
  omega
 .refine .inr ⟨i',o,h1,h2,.inr ⟨k,q,h3,h4,?_,h6⟩⟩;have:i'≠i:=fun e=>hi (e▸h1)
  omega
theorem TA{l:List Obj}{ops:List bi}{ps:List aT}{L0:List Nat}{i k:Nat}{o:Obj}{nm:ByteArray}{y:Int}(ho:l[i]? =some o)(he:o.ak[k]? =some (eG (nm,y))){z:Int}(h:S2 l ops ps L0 i (k+1) 0 z):S2 l ops ps L0 i k 0 z\/z=y:=by
 rcases h with h|⟨i',o',h1,h2,⟨k',Xl,h3,h4⟩|⟨k',q,h3,h4,h5,h6⟩⟩
 .exact .inl (.inl h)
 .by_cases hk:i'=i/\k'=k
  .obtain⟨rfl,rfl⟩:=hk;rw[ho]at h2;cases h2;rw[he]at h3;simp only[eG,aag,adn,Dt.val.injEq,Value.string.injEq,Value.int.injEq]at h3;exact .inr h3.2.1.2.symm
  .exact .inl (.inr ⟨i',o',h1,h2,.inl ⟨k',Xl,h3,om⟩⟩)
 .exact .inl (.inr ⟨i',o',h1,h2,.inr ⟨k',q,h3,h4,h5,h6⟩⟩)
theorem NI{l:List Obj}{ops:List bi}{ps:List aT}{L0:List Nat}{i k e:Nat}{o:Obj}{q:bw}(ho:l[i]? =some o)(he:o.aj[k]? =some q){z:Int}(h:S2 l ops ps L0 i e (k+1) z):S2 l ops ps L0 i e k z\/(q.has=true/\z=gU ops q.dk):=by
 rcases h with h|⟨i',o',h1,h2,⟨k',Xl,h3,h4⟩|⟨k',q',h3,h4,h5,h6⟩⟩
 .exact .inl (.inl h)
 .exact .inl (.inr ⟨i',o',h1,h2,.inl ⟨k',Xl,h3,h4⟩⟩)
 .by_cases hk:i'=i/\k'=k
  .obtain⟨rfl,rfl⟩:=hk;rw[ho]at h2;cases h2;rw[he]at h3;cases h3;exact .inr ⟨h4,h6⟩
  .exact .inl (.inr ⟨i',o',h1,h2,.inr ⟨k',q',h3,h4,om,h6⟩⟩)
theorem P7{l:List Obj}{ops:List bi}{ps:List aT}{L0:List Nat}{i:Nat}{o:Obj}(ho:l[i]? =some o){z:Int}(h:S2 l ops ps L0 (i+1) 0 0 z):S2 l ops ps L0 i o.ak.length o.aj.length z:=by
 rcases h with h|⟨i',o',h1,h2,⟨k',Xl,h3,h4⟩|⟨k',q',h3,h4,h5,h6⟩⟩
 .exact .inl h
 .refine .inr ⟨i',o',h1,h2,.inl ⟨k',Xl,h3,?_⟩⟩;by_cases hi:i'=i
  .subst hi;rw[ho]at h2;cases h2;exact .inr ⟨rfl,(Mh.1 h3).1⟩
  .omega
 .refine .inr ⟨i',o',h1,h2,.inr ⟨k',q',h3,h4,?_,h6⟩⟩;by_cases hi:i'=i
  .subst hi;rw[ho]at h2;cases h2;exact .inr ⟨rfl,(Mh.1 h3).1⟩
  .omega
theorem NJ{l:List Obj}{ops:List bi}{ps:List aT}{L:List Nat}(h:FM l ops ps L)(hd:nJ l (S2 l ops ps L l.length 0 0) L):gk l ops ps L:=by
 refine⟨h,fun p pr hp hl s hs hh n hn=>?_,fun i o hi ho z hz n hn=>?_,fun i o hi ho q hq hh n hn=>?_⟩
 .obtain⟨k,hk⟩:=Xf hs;exact hd _ (.inl ⟨p,pr,k,s,hp,hl,hk,hh,.inl (Mh.1 hp).1,rfl⟩) n hn
 .obtain⟨nm,hm⟩:=hz;obtain⟨k,hk⟩:=Xf hm;exact hd _ (.inr ⟨i,o,hi,ho,.inl ⟨k,nm,hk,.inl (Mh.1 ho).1⟩⟩) n hn
 .obtain⟨k,hk⟩:=Xf hq;exact hd _ (.inr ⟨i,o,hi,ho,.inr ⟨k,q,hk,hh,.inl (Mh.1 ho).1,rfl⟩⟩) n hn
def c24:LF:= ⟨101,[.tmp 2],(.seq (.ai [qu 1 (.box 0),qu 2 (.aH (.c (.rv (.one (.aa (.val (.map none)))))))]) (.seq (.ai [qu 17 (.pk),qu 3 (.alloc [(.aa (.val (.map none)))]),qw (.store 1 3 17)]) (.seq (.seq (.ai [qf 18 0 1,ql 19 18,qu 20 (.len 1 19),qu 21 (.aF .gtr 20 (qi 0)),qm 22 21,qg 23 (.br 0 1) 22 true,qg 24 (.load false 1 23) 22 true,qg 25 (.bW 9 24 (qi 0)) 22 true,qg 26 (.br 0 25) 22 true,qg 27 (.load false 1 26) 22 true,qg 28 (.aF .neq 27 (qi 0)) 22 true,qu 29 (.pick 22 28 (qb false))]) (.cond 29 (.ai [ql 30 3,qw (.rS (.i .i64) 30 (qi 0) (qb true))]) .skip)) (.seq (.cu (.seq (.ai [qu 4 (.alloc [(.aa (.val (.bool false)))]),qw (.store 1 4 (qb true))]) (.block 0 (.loop (.seq (.seq (.ai [ql 31 4]) (.cond 31 .skip (.exit 0))) (.seq (.block 1 (.seq (.ai [qw (.store 1 4 (qb false))]) (.seq (.ai [qu 32 (.fn 48 [1,3,4]),qu 5 (.alloc [.aa (.val .nilFunc)]),qw (.store 1 5 32)]) (.seq (.ai [qu 33 (.fn 50 [1,5]),qm 6 33]) (.seq (.seq (.ai [qf 34 2 1,ql 35 34,qu 36 (.len 1 35),qu 37 (.aH (qi 0))]) (.block 2 (.loop (.seq (.ai [qu 38 (.aF .lss 37 36)]) (.seq (.cond 38 .skip (.exit 2)) (.seq (.block 3 (.seq (.ai [qu 39 (.bW 4 35 37),qL 40 4 39,qu 8 (.alloc [(.aa (.val (.bool false))),(.aa (.val (.bool false))),qd 0,.aI]),qw (.store 4 8 40)]) (.seq (.ai [qf 41 3 8,ql 42 41,qu 43 (.len 1 42),qu 44 (.aH (qi 0))]) (.block 4 (.loop (.seq (.ai [qu 45 (.aF .lss 44 43)]) (.seq (.cond 45 .skip (.exit 4)) (.seq (.block 5 (.seq (.ai [qu 46 (.bW 3 42 44),qL 47 3 46,qu 10 (.alloc [(.aa (.val (.bool false))),qd 0,qd 0]),qw (.store 3 10 47)]) (.seq (.ai [qf 48 0 8,ql 49 48,qm 50 49,qg 51 (.br 0 10) 50 true,qg 52 (.load false 1 51) 50 true,qu 53 (.pick 50 52 (qb false))]) (.cond 53 (.ai [qm 54 6,qf 55 1 10,qL 56 2 55,qu 57 (.call 54 [56])]) .skip)))) (.ai [qu 58 (.aF .add 44 (qi 1)),qm 44 58]))))))))) (.ai [qu 59 (.aF .add 37 (qi 1)),qm 37 59]))))))) (.seq (.ai [qf 60 0 1,ql 61 60,qu 62 (.len 1 61),qu 63 (.aH (qi 0))]) (.block 6 (.loop (.seq (.ai [qu 64 (.aF .lss 63 62)]) (.seq (.cond 64 .skip (.exit 6)) (.seq (.block 7 (.seq (.ai [qm 65 63,qu 66 (.bW 9 61 63),qL 67 9 66,qu 12 (.alloc [qd 0,.aI,.aI,(.aa (.val (.string ⟨#[]⟩))),qd 0,.aI,qd 0,qd 0,qd 0]),qm 11 65,qw (.store 9 12 67)]) (.seq (.seq (.ai [ql 68 3,qm 69 11,qu 70 (.rR (.one (.aa (.val (.bool false)))) (.i .i64) 68 69 false),qu 71 (.un .not 70)]) (.cond 71 (.exit 7) .skip)) (.seq (.seq (.ai [qf 72 2 12,ql 73 72,qu 74 (.len 1 73),qu 75 (.aH (qi 0))]) (.block 8 (.loop (.seq (.ai [qu 76 (.aF .lss 75 74)]) (.seq (.cond 76 .skip (.exit 8)) (.seq (.block 9 (.seq (.ai [qu 77 (.bW 2 73 75),qL 78 2 77,qu 14 (.alloc [(.aa (.val (.string ⟨#[]⟩))),qd 0]),qw (.store 2 14 78)]) (.ai [ql 79 5,qf 80 1 14,ql 81 80,qu 82 (.call 79 [81])]))) (.ai [qu 83 (.aF .add 75 (qi 1)),qm 75 83]))))))) (.seq (.ai [qf 84 5 12,ql 85 84,qu 86 (.len 1 85),qu 87 (.aH (qi 0))]) (.block 10 (.loop (.seq (.ai [qu 88 (.aF .lss 87 86)]) (.seq (.cond 88 .skip (.exit 10)) (.seq (.block 11 (.seq (.ai [qu 89 (.bW 4 85 87),qL 90 4 89,qu 16 (.alloc [.aI,(.aa (.val (.bool false))),qd 0,qd 0]),qw (.store 4 16 90)]) (.seq (.ai [qf 91 1 16,ql 92 91]) (.cond 92 (.ai [qm 93 6,qf 94 2 16,qL 95 2 94,qu 96 (.call 93 [95])]) .skip)))) (.ai [qu 97 (.aF .add 87 (qi 1)),qm 87 97]))))))))))) (.ai [qu 98 (.aF .add 63 (qi 1)),qm 63 98])))))))))))) (.seq (.ai [ql 99 4]) (.ai [qu 4 (.alloc [(.aa (.val (.bool false)))]),qw (.store 1 4 99)])))))))) (.seq (.ai [ql 100 3,qm 2 100]) .ret)))))⟩
theorem l24:bx Tryz.prog Tryz.f24=some c24.er:=by kernel_rfl
def R47:LC:=lX (pY (bv (bv (bv c24.code))))
def F47:LC:=bv (bv (bv (bv c24.code)))
def E47(l:List Obj)(ops:List bi)(ps:List aT):Ex->St->Prop:=mg Tryz.prog c24.kD fun r m=>∃r' m',View 0 ⟨[r],m⟩ ⟨[r'],m'⟩/\FO l ops ps r' m'
theorem FP(l:List Obj)(ops:List bi)(ps:List aT)(g:∀o,o∈l->o.sm)(hl:l.length<=4194304)(fW:ps.length<=4194304)(mJ:∀p,p∈ps->p.aJ.length<=4194304)(L0:List Nat)(h0:FM l ops ps L0):
  aw Tryz.prog 0 R47 (pM (aw Tryz.prog 0 F47) (E47 l ops ps)) ⟨iL 101 [(1,.rv (.one (.ptr 0 0))),(3,.rv (.one (.ptr 2 0)))],[kB l ops ps,.mp (L0.map fh),gg]⟩:=by
 refine aK (fun a:List Nat×Bool=>FM l ops ps a.1/\(a.2=false->gk l ops ps a.1)) [1,3] (fun _=>[(4,.rv (.one (.ptr 3 0)))]) (fun a=>[kB l ops ps,.mp (a.1.map fh),gg,fl a.2])
  (fun a=>2*NC l.length a.1+(if a.2 then 1 else 0)) (L0,true) ⟨h0,(fun h=>by cases h)⟩ ?_ (fun a hJ=>?_)
 .refine View.o1 4 [0,1,2,3] [] ?_
  .exact .pt rfl rfl (.eq rfl (by simp[kB])) (.pt rfl rfl (.eq (cY _) aG) (.pt rfl rfl (.eq rfl (by simp[gg])) (.pt rfl rfl (.eq rfl (by simp[fl])) (.nil _))))
 obtain⟨LA,bO⟩:=a;obtain⟨hI,hC⟩:=hJ;cases bO with
 |false=>
  exact⟨.rv (.one (.map 0)),[.mp (LA.map fh)],View.o 4 [1] [] (.eq rfl .nil) (.pt rfl rfl (.eq (cY _) aG) (.nil _)),LA,hC rfl,rfl,rfl⟩
 |true=>
  have hI:FM l ops ps LA:=hI;clear hC;refine aK (fun a:FN=>a.i<=ps.length/\tc l ops ps LA a.L a.bO/\nJ l (S1 ops ps a.i 0) a.L) [1,3,4,5,6,35,36] (fun a=>[(37,an .i64 (a.i:Nat))]) (M5 l ops ps) (fun a=>ps.length-a.i) ⟨0,LA,false⟩
   ⟨Wi _,⟨hI,fun _ h=>h,fun _=>rfl,(fun h=>by cases h)⟩,fun z hz=>absurd hz P3⟩ ?_ (fun a hJ=>?_)
  .refine View.o 5 [0,1,2,3,4] [] ?_ (Xk l ops ps LA false 5 []);repeat(first|exact .nil|refine .aq ?_|refine .eq rfl ?_)
  obtain⟨p,L,bO⟩:=a;obtain⟨hp,hP,hD⟩:=hJ;have hp:p<=ps.length:=hp;have hP:tc l ops ps LA L bO:=hP;have hD:nJ l (S1 ops ps p 0) L:=hD;refine ay (fun h=>?_) (fun h=>?_)
  .have ft:p<ps.length:=by have h:(p:Int)<((ps.map aT.enc).length:Int):=h;rw[Nq]at h;omega
   have nD:=IE ft;have uD:=mJ _ (Z0 ft);have hg:cR (ps.map aT.enc) (p:Nat)=some (ps[p].enc):=by rw[bn,Q8,nD];rfl
   generalize ps[p]=pr at nD hg uD;obtain⟨aQ,fenced,code,aJ⟩:=pr;have uD:aJ.length<=4194304:=uD;refine ag (x:=[.val (.bool aQ),.val (.bool fenced),.val (.int .i64 code),iu aJ]) hg ?_;refine aK (fun a:FN=>a.i<=aJ.length/\tc l ops ps LA a.L a.bO/\nJ l (S1 ops ps p a.i) a.L) [1,3,4,5,6,8,35,36,37,42,43] (fun a=>[(44,an .i64 (a.i:Nat))]) (M6 l ops ps [.val (.bool aQ),.val (.bool fenced),.val (.int .i64 code),iu aJ]) (fun a=>aJ.length-a.i) ⟨0,L,bO⟩
    ⟨Wi _,hP,hD⟩ ?_ (fun a hJ=>?_)
   .refine View.o 6 [0,1,2,3,4,5] [] ?_ (P2 l ops ps L bO [.val (.bool aQ),.val (.bool fenced),.val (.int .i64 code),iu aJ] 6 []);repeat(first|exact .nil|refine .aq ?_|refine .eq rfl ?_)
   clear hP hD;obtain⟨j,L,bO⟩:=a;obtain⟨hj,hP,hD⟩:=hJ;have hj:j<=aJ.length:=hj;have hP:tc l ops ps LA L bO:=hP;have hD:nJ l (S1 ops ps p j) L:=hD;refine ay (fun km=>?_) (fun km=>?_)
   .have da:j<aJ.length:=by have h:(j:Int)<((aJ.map fz.enc).length:Int):=km;rw[Nq]at h;omega
    have hs:=IE da;have pz:cR (aJ.map fz.enc) (j:Nat)=some (aJ[j].enc):=by rw[bn,Q8,hs];rfl
    generalize aJ[j]=s at hs pz;obtain⟨has,dk,bZ⟩:=s;refine ag (x:=[.val (.bool has),.val (.int .i64 dk),.val (.int .i64 bZ)]) pz ?_;have skip:¬(aQ=true/\has=true)->nJ l (S1 ops ps p (j+1)) L:=fun hn=>hD.mono fun y hy=>by
     rcases Hk nD hs hy with h|⟨h1,h2,_⟩
     .exact h
     .exact absurd ⟨h1,h2⟩ hn
    refine aC (fun cX=>?_) (fun cX=>?_)
    .refine aC (fun hh=>?_) (fun hh=>?_)
     .refine Hj l ops ps dk bZ L bO [.var [.aa (.val (.bool aQ)),.aa (.val (.bool fenced)),.aa (.val (.int .i64 code)),.aa (iu aJ)],.var [.aa (.val (.bool has)),.aa (.val (.int .i64 dk)),.aa (.val (.int .i64 bZ))]] ?_;refine⟨⟨j+1,fx l (gU ops dk) L,gn l (gU ops dk) L bO⟩,⟨da,hP.mark (JH nD hs cX hh L),hD.mark fun y hy=>?_⟩,(show aJ.length-(j+1)<aJ.length-j by omega),View.o 7 [0,1,2,3,4,5] [] ?_ (P2 l ops ps _ _ [.val (.bool aQ),.val (.bool fenced),.val (.int .i64 code),iu aJ] 7 _)⟩
      .rcases Hk nD hs hy with h|⟨_,_,h⟩
       .exact .inl h
       .exact .inr h
      .repeat(first|exact .nil|refine .aq ?_|refine .put (.aO (ap om).symm) ?_|refine .eq rfl ?_)
     .refine⟨⟨j+1,L,bO⟩,⟨da,hP,skip fun h=>by rw[h.2]at hh;cases hh⟩,(show aJ.length-(j+1)<aJ.length-j by omega),View.o 7 [0,1,2,3,4,5] [] ?_ (P2 l ops ps _ _ [.val (.bool aQ),.val (.bool fenced),.val (.int .i64 code),iu aJ] 7 _)⟩
      repeat(first|exact .nil|refine .aq ?_|refine .put (.aO (ap om).symm) ?_|refine .eq rfl ?_)
    .refine⟨⟨j+1,L,bO⟩,⟨da,hP,skip fun h=>by rw[h.1]at cX;cases cX⟩,(show aJ.length-(j+1)<aJ.length-j by omega),View.o 7 [0,1,2,3,4,5] [] ?_ (P2 l ops ps _ _ [.val (.bool aQ),.val (.bool fenced),.val (.int .i64 code),iu aJ] 7 _)⟩
     repeat(first|exact .nil|refine .aq ?_|refine .put (.aO (ap om).symm) ?_|refine .eq rfl ?_)
   .have Ge:j=aJ.length:=by have h:¬(j:Int)<((aJ.map fz.enc).length:Int):=km;rw[Nq]at h;omega
    subst Ge;refine⟨⟨p+1,L,bO⟩,⟨ft,hP,hD.mono fun y hy=>P4 nD hy⟩,(show ps.length-(p+1)<ps.length-p by omega),View.o 6 [0,1,2,3,4] [] ?_ (Xk l ops ps L bO 6 _)⟩
    repeat(first|exact .nil|refine .aq ?_|refine .put (.aO (ap om).symm) ?_|refine .eq rfl ?_)
  .have ue:p=ps.length:=by have h:¬(p:Int)<((ps.map aT.enc).length:Int):=h;rw[Nq]at h;omega
   subst ue;refine aK (fun a:FN=>a.i<=l.length/\tc l ops ps LA a.L a.bO/\nJ l (S2 l ops ps LA a.i 0 0) a.L) [1,3,4,5,6,61,62] (fun a=>[(63,an .i64 (a.i:Nat))]) (M5 l ops ps) (fun a=>l.length-a.i) ⟨0,L,bO⟩
    ⟨Wi _,hP,hD.mono fun y hy=>P5 hy⟩ ?_ (fun a hJ=>?_)
   .refine View.o 5 [0,1,2,3,4] [] ?_ (Xk l ops ps L bO 5 []);repeat(first|exact .nil|refine .aq ?_|refine .eq rfl ?_)
   clear hP hD;obtain⟨i,L,bO⟩:=a;obtain⟨hi,hP,hD⟩:=hJ;have hi:i<=l.length:=hi;have hP:tc l ops ps LA L bO:=hP;have hD:nJ l (S2 l ops ps LA i 0 0) L:=hD;refine ay (fun h=>?_) (fun h=>?_)
   .have BC:i<l.length:=by have h:(i:Int)<((l.map Obj.enc).length:Int):=h;rw[Nq]at h;omega
    have ho:=IE BC;have u9:=g _ (Z0 BC);have hg:=oZ BC;generalize l[i]=o at ho u9 hg;obtain⟨ah,data,ak,target,aD,aj,aM,am,up⟩:=o;refine ag hg ?_;refine ag (o7 (i:Int) L) ?_;obtain⟨es,nV⟩:=u9.t.2.1;have nV:ak=es.map eG:=nV;have JU:ak.length<=8:=u9.e;have Il:aj.length<=8:=u9.q;cases hN:sO L (i:Int)with
    |false=>
     have C9:i∉LA:=fun hm=>by rw[ix.2 (hP.sub i hm)]at hN;cases hN
     refine⟨⟨i+1,L,bO⟩,⟨BC,hP,hD.mono fun y hy=>P6 C9 hy⟩,(show l.length-(i+1)<l.length-i by omega),View.o 6 [0,1,2,3,4] [] ?_ (Xk l ops ps L bO 6 _)⟩
     repeat(first|exact .nil|refine .aq ?_|refine .put (.aO (ap om).symm) ?_|refine .eq rfl ?_)
    |true=>
     have zp:i∈L:=ix.1 hN;have gL:∀{L':List Nat},(∀n,n∈L->n∈L')->i∈L':=fun h=>h i zp
     refine aK (fun a:FN=>a.i<=ak.length/\(tc l ops ps LA a.L a.bO/\i∈a.L)/\nJ l (S2 l ops ps LA i a.i 0) a.L) [1,3,4,5,6,12,61,62,63,73,74] (fun a=>[(75,an .i64 (a.i:Nat))])
      (M6 l ops ps [.val (.int .i64 ah),.sl 1 data,.sl 2 ak,.val (.string target),.val (.int .i64 aD),.sl 4 (aj.map bw.enc),.val (.int .i64 aM),.val (.int .i64 am),.val (.int .i64 up)]) (fun a=>ak.length-a.i) ⟨0,L,bO⟩
      ⟨Wi _,⟨hP,zp⟩,hD⟩ ?_ (fun a hJ=>?_)
     .refine View.o 6 [0,1,2,3,4,5] [] ?_ (P2 l ops ps L bO [.val (.int .i64 ah),.sl 1 data,.sl 2 ak,.val (.string target),.val (.int .i64 aD),.sl 4 (aj.map bw.enc),.val (.int .i64 aM),.val (.int .i64 am),.val (.int .i64 up)] 6 []);repeat(first|exact .nil|refine .aq ?_|refine .eq rfl ?_)
     clear hP hD zp gL hN;obtain⟨k,L,bO⟩:=a;obtain⟨hk,⟨hP,zp⟩,hD⟩:=hJ;have hk:k<=ak.length:=hk;have hP:tc l ops ps LA L bO:=hP;have zp:i∈L:=zp;have hD:nJ l (S2 l ops ps LA i k 0) L:=hD;refine ay (fun fj=>?_) (fun fj=>?_)
     .have rb:k<ak.length:=by have h:(k:Int)<(ak.length:Int):=fj;omega
      have aaV:k<es.length:=by rw[nV]at rb;simpa using rb
      have mX:ak[k]? =some (eG es[k]):=by rw[nV,Q8,IE aaV];rfl
      have pz:cR ak (k:Nat)=some (eG es[k]):=by rw[bn];exact mX
      generalize es[k]=e at mX pz;obtain⟨nm,z⟩:=e;refine ag (x:=[.val (.string nm),.val (.int .i64 z)]) pz ?_;refine CW l ops ps z L bO [yX,.var [.aa (.val (.int .i64 ah)),.aa (.sl 1 data),.aa (.sl 2 ak),.aa (.val (.string target)),.aa (.val (.int .i64 aD)),.aa (.sl 4 (aj.map bw.enc)),.aa (.val (.int .i64 aM)),.aa (.val (.int .i64 am)),.aa (.val (.int .i64 up))],.var [.aa (.val (.string nm)),.aa (.val (.int .i64 z))]] ?_;refine⟨⟨k+1,fx l z L,gn l z L bO⟩,⟨rb,⟨hP.mark fun RO RP fU _ hL n hn=>fU.e i _ (hL i zp) ho z n ⟨nm,Rq mX⟩ hn,td zp⟩,hD.mark fun y hy=>TA ho mX hy⟩,(show ak.length-(k+1)<ak.length-k by omega),View.o 7 [0,1,2,3,4,5] [] ?_
       (P2 l ops ps _ _ [.val (.int .i64 ah),.sl 1 data,.sl 2 ak,.val (.string target),.val (.int .i64 aD),.sl 4 (aj.map bw.enc),.val (.int .i64 aM),.val (.int .i64 am),.val (.int .i64 up)] 7 _)⟩
      repeat(first|exact .nil|refine .aq ?_|refine .put (.aO (ap om).symm) ?_|refine .eq rfl ?_)
     .have uj:k=ak.length:=by have h:¬(k:Int)<(ak.length:Int):=fj;omega
      refine aK (fun a:FN=>a.i<=aj.length/\(tc l ops ps LA a.L a.bO/\i∈a.L)/\nJ l (S2 l ops ps LA i ak.length a.i) a.L) [1,3,4,5,6,12,61,62,63,85,86] (fun a=>[(87,an .i64 (a.i:Nat))])
       (M6 l ops ps [.val (.int .i64 ah),.sl 1 data,.sl 2 ak,.val (.string target),.val (.int .i64 aD),.sl 4 (aj.map bw.enc),.val (.int .i64 aM),.val (.int .i64 am),.val (.int .i64 up)]) (fun a=>aj.length-a.i) ⟨0,L,bO⟩
       ⟨Wi _,⟨hP,zp⟩,uj▸hD⟩ ?_ (fun a hJ=>?_)
      .refine View.o 6 [0,1,2,3,4,5] [] ?_ (P2 l ops ps L bO [.val (.int .i64 ah),.sl 1 data,.sl 2 ak,.val (.string target),.val (.int .i64 aD),.sl 4 (aj.map bw.enc),.val (.int .i64 aM),.val (.int .i64 am),.val (.int .i64 up)] 6 []);repeat(first|exact .nil|refine .aq ?_|refine .eq rfl ?_)
      clear hP hD zp;obtain⟨q,L,bO⟩:=a;obtain⟨hq,⟨hP,zp⟩,hD⟩:=hJ;have hq:q<=aj.length:=hq;have hP:tc l ops ps LA L bO:=hP;have zp:i∈L:=zp;have hD:nJ l (S2 l ops ps LA i ak.length q) L:=hD;refine ay (fun TB=>?_) (fun TB=>?_)
      .have TD:q<aj.length:=by have h:(q:Int)<((aj.map bw.enc).length:Int):=TB;rw[Nq]at h;omega
       have P8:=IE TD;have hg3:cR (aj.map bw.enc) (q:Nat)=some (aj[q].enc):=by rw[bn,Q8,P8];rfl
       generalize aj[q]=ms at P8 hg3;obtain⟨mdata,has,dk,bZ⟩:=ms;refine ag (x:=[.sl 1 mdata,.val (.bool has),.val (.int .i64 dk),.val (.int .i64 bZ)]) hg3 ?_;refine aC (fun hh=>?_) (fun hh=>?_)
       .refine Hj l ops ps dk bZ L bO [.var [.aa (.val (.int .i64 ah)),.aa (.sl 1 data),.aa (.sl 2 ak),.aa (.val (.string target)),.aa (.val (.int .i64 aD)),.aa (.sl 4 (aj.map bw.enc)),.aa (.val (.int .i64 aM)),.aa (.val (.int .i64 am)),.aa (.val (.int .i64 up))],.var [.aa (.sl 1 mdata),.aa (.val (.bool has)),.aa (.val (.int .i64 dk)),.aa (.val (.int .i64 bZ))]] ?_;refine⟨⟨q+1,fx l (gU ops dk) L,gn l (gU ops dk) L bO⟩,⟨TD,⟨hP.mark fun RO RP fU _ hL n hn=>NG fU (fun c hc=>fU.q i _ (hL i zp) ho dk c ⟨_,Rq P8,hh,rfl⟩ hc) n hn,td zp⟩,hD.mark fun y hy=>?_⟩,(show aj.length-(q+1)<aj.length-q by omega),View.o 7 [0,1,2,3,4,5] [] ?_
         (P2 l ops ps _ _ [.val (.int .i64 ah),.sl 1 data,.sl 2 ak,.val (.string target),.val (.int .i64 aD),.sl 4 (aj.map bw.enc),.val (.int .i64 aM),.val (.int .i64 am),.val (.int .i64 up)] 7 _)⟩
        .rcases NI ho P8 hy with h|⟨_,h⟩
         .exact .inl h
         .exact .inr h
        .repeat(first|exact .nil|refine .aq ?_|refine .put (.aO (ap om).symm) ?_|refine .eq rfl ?_)
       .refine⟨⟨q+1,L,bO⟩,⟨TD,⟨hP,zp⟩,hD.mono fun y hy=>?_⟩,(show aj.length-(q+1)<aj.length-q by omega),View.o 7 [0,1,2,3,4,5] [] ?_
         (P2 l ops ps _ _ [.val (.int .i64 ah),.sl 1 data,.sl 2 ak,.val (.string target),.val (.int .i64 aD),.sl 4 (aj.map bw.enc),.val (.int .i64 aM),.val (.int .i64 am),.val (.int .i64 up)] 7 _)⟩
        .rcases NI ho P8 hy with h|⟨h,_⟩
         .exact h
         .have hh:has=false:=hh;have h:has=true:=h;rw[hh]at h;cases h
        .repeat(first|exact .nil|refine .aq ?_|refine .put (.aO (ap om).symm) ?_|refine .eq rfl ?_)
      .have M7:q=aj.length:=by have h:¬(q:Int)<((aj.map bw.enc).length:Int):=TB;rw[Nq]at h;omega
       subst M7;refine⟨⟨i+1,L,bO⟩,⟨BC,hP,hD.mono fun y hy=>P7 ho hy⟩,(show l.length-(i+1)<l.length-i by omega),View.o 6 [0,1,2,3,4] [] ?_ (Xk l ops ps L bO 6 _)⟩
       repeat(first|exact .nil|refine .aq ?_|refine .put (.aO (ap om).symm) ?_|refine .eq rfl ?_)
   .have gX:i=l.length:=by have h:¬(i:Int)<((l.map Obj.enc).length:Int):=h;rw[Nq]at h;omega
    subst gX;refine⟨(L,bO),⟨hP.NB,fun hm=>?_⟩,?_,View.o 6 [0,1,2,5] [] ?_ ?_⟩
    .have hm:bO=false:=hm;have e:=hP.eq hm;rw[<-e]at hD;exact NJ hP.NB hD
    .show 2*NC l.length L+(if bO then 1 else 0)<2*NC l.length LA+(if true then 1 else 0)
     cases hm:bO with
     |true=>have:=hP.lJ hm;simp;omega
     |false=>
      have e:L=LA:=hP.eq hm;rw[e];simp
    .repeat(first|exact .nil|refine .aq ?_|refine .eq rfl ?_)
    .exact .pt rfl rfl (.eq rfl (by simp[kB])) (.pt rfl rfl (.eq (cY _) aG) (.pt rfl rfl (.eq rfl (by simp[gg])) (.pt rfl rfl (.eq rfl (by simp[fl])) (.nil _))))
theorem CX(l:List Obj)(ops:List bi)(ps:List aT)(g:∀o,o∈l->o.sm)(hl:l.length<=4194304)(fW:ps.length<=4194304)(mJ:∀p,p∈ps->p.aJ.length<=4194304):
  body Tryz.prog c24 [cP l ops ps] [] (fun r m=>∃r' m',View 0 ⟨[r],m⟩ ⟨[r'],m'⟩/\FO l ops ps r' m'):=by
 have none:(∀n,¬vO l 0 n)->FM l ops ps []:=fun h=>⟨aG,aG,fun n hn=>absurd hn (h n),aG⟩
 refine ay (fun h=>?_) (fun h=>?_)
 .have h0:0<l.length:=by have h:(((l.map Obj.enc).length:Nat):Int)>0:=h;rw[Nq]at h;omega
  have ho:=IE h0;have hg:=oZ h0;generalize l[0]=o at ho hg;refine ag hg ?_;refine bG (fun hk=>?_) (fun hk=>?_)
  .refine eE [1,3] [] [kB l ops ps,.mp ([0].map fh),gg] (View.o1 3 [0,1,2] [] ?_) (FP l ops ps g hl fW mJ [0] ⟨aG,fun n hn=>?_,fun n hn=>?_,fun RO RP _ hr n hn=>?_⟩)
   .exact .pt rfl rfl (.eq rfl (by simp[kB])) (.pt rfl rfl (.eq (cY [0]) aG) (.pt rfl rfl (.eq rfl (by simp[gg])) (.nil _)))
   .have:n=0:=by simpa using hn
    subst this;exact⟨rfl,o,ho,hk⟩
   .have:=hn.1;have:n=0:=om;simp[this]
   .have:n=0:=by simpa using hn
    subst this;exact hr.1 0 ⟨rfl,o,ho,hk⟩
  .refine eE [1,3] [] [kB l ops ps,.mp (([]:List Nat).map fh),gg] (View.o1 3 [0,1,2] [] ?_) (FP l ops ps g hl fW mJ [] (none fun n hn=>?_))
   .exact .pt rfl rfl (.eq rfl (by simp[kB])) (.pt rfl rfl (.eq (cY []) aG) (.pt rfl rfl (.eq rfl (by simp[gg])) (.nil _)))
   .obtain⟨h1,o2,h2,h3⟩:=hn;have:n=0:=om;subst this;rw[ho]at h2;cases h2;exact h3 hk
 .have h0:l.length=0:=by have h:¬(((l.map Obj.enc).length:Nat):Int)>0:=h;rw[Nq]at h;omega
  refine eE [1,3] [] [kB l ops ps,.mp (([]:List Nat).map fh),gg] (View.o1 3 [0,1,2] [] ?_) (FP l ops ps g hl fW mJ [] (none fun n hn=>?_))
  .exact .pt rfl rfl (.eq rfl (by simp[kB])) (.pt rfl rfl (.eq (cY []) aG) (.pt rfl rfl (.eq rfl (by simp[gg])) (.nil _)))
  .obtain⟨_,o2,h2,_⟩:=hn;have:=(Mh.1 h2).1;omega
theorem JI(l:List Obj)(ops:List bi)(ps:List aT)(g:∀o,o∈l->o.sm)(hl:l.length<=4194304)(fW:ps.length<=4194304)(mJ:∀p,p∈ps->p.aJ.length<=4194304){m:Mem}{K:CV->Mem->Prop}(h:∀L,gk l ops ps L->K (.rv (.one (.map m.length))) (m++ [.mp (L.map fh)])):au Tryz.prog 24 [cP l ops ps] m K:=by
 refine bu [] m.length rfl rfl rfl rfl (args0:=[cP l ops ps]) rfl (fun i b' hi=>by simp at hi) (K0:=FO l ops ps)
  (bJ (cg Tryz.func24 l24 (CX l ops ps g hl fW mJ)) fun r m1 h=>h) (fun r m1 hr=>?_)
 obtain⟨L,hL,rfl,rfl⟩:=hr;refine⟨Wi _,?_⟩;show K (.rv (.one (.map (m.length+(0-0))))) (gh m [(Bk.mp (L.map fh)).aO _]);rw[b9,cY];exact h L hL
def c25:LF:= ⟨6,[],(.seq (.ai [qu 2 (.box 0)]) (.ai [ql 3 1,qf 4 0 2,ql 5 4,qw (.rS (.i .i64) 3 5 (qb true))]))⟩
def c26:LF:= ⟨23,[.tmp 4],(.seq (.ai [qu 4 (.aH (qb false))]) (.seq (.seq (.ai [qm 7 0,qu 8 (.len 1 7),qu 9 (.aH (qi 0))]) (.block 0 (.loop (.seq (.ai [qu 10 (.aF .lss 9 8)]) (.seq (.cond 10 .skip (.exit 0)) (.seq (.block 1 (.seq (.ai [qu 11 (.bW 9 7 9),qL 12 9 11,qu 6 (.alloc [qd 0,.aI,.aI,(.aa (.val (.string ⟨#[]⟩))),qd 0,.aI,qd 0,qd 0,qd 0]),qw (.store 9 6 12)]) (.seq (.ai [qf 13 0 6,ql 14 13,qu 15 (.aF .eql 14 (qi 5)),qm 16 15,qg 17 (.br 6 6) 16 true,qg 18 (.load false 1 17) 16 true,qg 19 (.aH 1) 16 true,qg 20 (.aF .eql 18 19) 16 true,qu 21 (.pick 16 20 (qb false))]) (.cond 21 (.seq (.ai [qu 4 (.aH (qb true))]) .ret) .skip)))) (.ai [qu 22 (.aF .add 9 (qi 1)),qm 9 22]))))))) (.seq (.ai [qu 4 (.aH (qb false))]) .ret)))⟩
theorem l25:bx Tryz.prog Tryz.f25=some c25:=by kernel_rfl
theorem l26:bx Tryz.prog Tryz.f26=some c26:=by kernel_rfl
def lm(z:Int):ME:=⟨.int .i64 z,Pc⟩
def Dh(Q:List Int)(z:Int):Bool:=Q.any fun x=>z==x
theorem Hl(z:Int):∀Q:List Int,nM (.int .i64 z) (Q.map lm)=some (if Dh Q z=true then some Pc else none)
 | []=>rfl
 |n::r=>by
  have ih:=Hl z r;simp only[abv,nM,lm,nk,decide_true];simp only[Dh,acv]at ih⊢;by_cases h:z=n
  .subst h;simp
  .have h1:(z==n)=false:=by simpa using h
   simp only[h1,ab2];exact ih
def nK(z:Int)(Q:List Int):List Int:=if Dh Q z=true then Q else Q++ [z]
theorem NK(z:Int):∀Q:List Int,uQ (.int .i64 z) Pc (Q.map lm)=some ((nK z Q).map lm)
 | []=>rfl
 |n::r=>by
  have ih:=NK z r;simp only[abv,uQ,lm,nk,decide_true];by_cases h:z=n
  .subst h;have e:nK z (z::r)=z::r:=by simp[nK,Dh]
   rw[e];simp[lm]
  .have h1:(z==n)=false:=by simpa using h
   have e:nK z (n::r)=n::nK z r:=by
    have gL:Dh (n::r) z=Dh r z:=by simp only[Dh,acv,h1,ab2]
    unfold nK;rw[gL];cases Dh r z<;>rfl
   simp only[h1];rw[e,ih];rfl
theorem P9(x z:Int)(Q:List Int):Dh (nK x Q) z=true↔(Dh Q z=true\/z=x):=by
 rw[nK];split
 .rename_i h;constructor
  .exact .inl
  .rintro(h2|rfl)
   .exact h2
   .exact h
 .simp[Dh]
theorem eI{σ:Nat->Nat}(Q:List Int):(Bk.mp (Q.map lm)).aO σ= .mp (Q.map lm):=by simp[Bk.aO,RV.aO,CC.aO,lm,Pc,acf]
theorem JJ(z bZ:Int)(Q:List Int):body Tryz.prog c25 [.rv (.agg [.aa (.val (.int .i64 z)),.aa (.val (.int .i64 bZ))]),.rv (.one (.ptr 1 0))] [.mp (Q.map lm),.var [.map 0]] (fun r m=>r= .bK []/\∃x,m=[.mp ((nK z Q).map lm),.var [.map 0],x]):=by refine ag (NK z Q) ?_;exact⟨rfl,_,rfl⟩
def fm:Bk:= .var [.aI,.aI,.aI]
def yY:Bk:= .var [.map 3]
theorem Hm(b0 b1 b2:Bk)(z bZ:Int)(Q:List Int)(R:Mem){K:CV->Mem->Prop}(h:K (.bK []) (b0::b1::b2:: .mp ((nK z Q).map lm)::yY::R)):
  au Tryz.prog 25 [.rv (.agg [.aa (.val (.int .i64 z)),.aa (.val (.int .i64 bZ))]),.rv (.one (.ptr 4 0))] (b0::b1::b2:: .mp (Q.map lm)::yY::R) K:=by
 refine bu [3,4] (R.length+5) rfl rfl rfl (by simp[eO,Nat.blt]) (args0:=[.rv (.agg [.aa (.val (.int .i64 z)),.aa (.val (.int .i64 bZ))]),.rv (.one (.ptr 1 0))]) rfl (m0:=[.mp (Q.map lm),.var [.map 0]]) (fun i b' hi=>?_)
  (K0:=fun r m=>r= .bK []/\m=[.mp ((nK z Q).map lm),.var [.map 0]])
  (bJ (aX Tryz.func25 l25 (JJ z bZ Q)) (fun r m1 hr=>?_)) (fun r m1 hr=>?_)
 .match i,hi with
  |0,hi=>cases hi;exact .inr ⟨fun h=>h,_,rfl,.eq (eI Q) aG⟩
  |1,hi=>cases hi;exact .inr ⟨fun h=>h,_,rfl,.eq rfl aG⟩
  |n+2,hi=>simp at hi
 .obtain⟨rfl,x,rfl⟩:=hr;exact⟨.bK [],[.mp ((nK z Q).map lm),.var [.map 0]],View.o 3 [0,1] [] (.eq rfl .nil) (.pt rfl rfl (.eq (eI _) aG) (.pm rfl rfl rfl)),rfl,rfl⟩
 .obtain⟨rfl,rfl⟩:=hr;refine⟨SS _,?_⟩;show K (.bK []) (b0::b1::b2::(Bk.mp ((nK z Q).map lm)).aO (sg [3,4] (R.length+5))::yY::gh R []);rw[eI,b9,ab5];exact h
theorem FQ(l:List Obj)(hl:l.length<=4194304)(p:Int):body Tryz.prog c26 [b8 l,an .i64 p] [] (fun r m=>r=ax (l.any (cH p))):=by
 refine aK (fun k=>k<=l.length/\∀(j:Nat)o,j<k->l[j]? =some o->cH p o=false) [0,1,7,8] (fun k=>[(9,an .i64 (k:Nat))]) (fun _=>[]) (fun k=>l.length-k) 0 ⟨Wi _,fun j o h=>absurd h (abb j)⟩ ?_ (fun k hk=>?_)
 .refine View.o 0 [] [] ?_ (.nil _);repeat(first|exact .nil|refine .aq ?_|refine .eq rfl ?_)
 obtain⟨fj,Sj⟩:=hk;have fj:k<=l.length:=fj;refine ay (fun h=>?_) (fun h=>?_)
 .have aB:k<l.length:=by have h:(k:Int)<((l.map Obj.enc).length:Int):=h;rw[Nq]at h;omega
  have ho:=IE aB;have hg:=oZ aB;have kL:=Z0 aB;generalize l[k]=o at ho hg kL;obtain⟨ah,data,ak,target,aD,aj,aM,am,up⟩:=o;refine ag hg ?_;have next:cH p ⟨ah,data,ak,target,aD,aj,aM,am,up⟩=false->∀(j:Nat)o,j<k+1->l[j]? =some o->cH p o=false:=by
   intro hf j o hj RU;rcases ZX j k with h5|h5
   .exact Sj j o h5 RU
   .have:j=k:=om;subst this;rw[ho]at RU;cases RU;exact hf
  refine bI (fun h5=>?_) (fun h5=>?_)
  .refine bI (fun hp=>?_) (fun hp=>?_)
   .show ax true=ax _;have:l.any (cH p)=true:=abt.2 ⟨_,kL,by simp only[cH];rw[show ah=5 from h5,show aM=p from hp];simp⟩
    rw[this]
   .refine⟨k+1,⟨aB,next (by simp only[cH];rw[beq_eq_false_iff_ne.2 (show aM≠p from hp)];simp)⟩,(show l.length-(k+1)<l.length-k by omega),View.o 1 [] [] ?_ (.nil _)⟩
    repeat(first|exact .nil|refine .aq ?_|refine .put (.aO (ap om).symm) ?_|refine .eq rfl ?_)
  .refine⟨k+1,⟨aB,next (by simp only[cH];rw[beq_eq_false_iff_ne.2 (show ah≠5 from h5)];simp)⟩,(show l.length-(k+1)<l.length-k by omega),View.o 1 [] [] ?_ (.nil _)⟩
   repeat(first|exact .nil|refine .aq ?_|refine .put (.aO (ap om).symm) ?_|refine .eq rfl ?_)
 .have uj:k=l.length:=by have h:¬(k:Int)<((l.map Obj.enc).length:Int):=h;rw[Nq]at h;omega
  subst uj;show ax false=ax _;have:l.any (cH p)=false:=by rw[adf];intro o ho;obtain⟨j,hj⟩:=Xf ho;simpa using Sj j o (Mh.1 hj).1 hj
  rw[this]
theorem NL(l:List Obj)(hl:l.length<=4194304)(p:Int){m:Mem}{K:CV->Mem->Prop}(h:K (ax (l.any (cH p))) m):au Tryz.prog 26 [b8 l,an .i64 p] m K:=
 bs Tryz.func26 l26 rfl (X5 rfl) (FQ l hl p) rfl rfl h
theorem te(l:List Obj)(hl:l.length<=4194304)(p:Int){m:Mem}{id:Nat}(hb:dd m id=some (.row 9 (af (l.map Obj.enc)))){K:CV->Mem->Prop}(h:K (ax (l.any (cH p))) m):au Tryz.prog 26 [.rv (.one (.row id 9 0 none)),an .i64 p] m K:=
 BF [id] (args0:=[b8 l,an .i64 p]) (NL l hl p (K:=fun r _=>r=ax (l.any (cH p))) rfl) (.put (pW.e8 id (l.map Obj.enc) (by simp[bz]) hb) (.eq rfl .nil)) fun r m1 hr=>by subst hr;exact⟨rfl,h⟩
def c12:LF:= ⟨284,[.cell true 3 2],(.seq (.ai [qu 1 (.box 0),qu 2 (.alloc [.aI,.aI,.aI])]) (.seq (.seq (.ai [qu 3 (.aH (qb true))]) (.block 0 (.loop (.seq (.seq (.ai [qm 28 3]) (.cond 28 .skip (.exit 0))) (.block 1 (.seq (.ai [qu 3 (.aH (qb false))]) (.seq (.ai [qL 29 3 1,qu 30 (qc 24 [29]),qm 4 30]) (.seq (.ai [qu 31 (.pk),qu 5 (.alloc [(.aa (.val (.map none)))]),qw (.store 1 5 31)]) (.seq (.ai [qu 32 (.fn 25 [5]),qm 6 32]) (.seq (.cu (.seq (.ai [qf 33 2 1,ql 34 33,qu 35 (.len 1 34),qu 36 (.aH (qi 0))]) (.block 2 (.loop (.seq (.ai [qu 37 (.aF .lss 36 35)]) (.seq (.cond 37 .skip (.exit 2)) (.seq (.block 3 (.seq (.ai [qu 38 (.bW 4 34 36),qL 39 4 38,qu 8 (.alloc [(.aa (.val (.bool false))),(.aa (.val (.bool false))),qd 0,.aI]),qw (.store 4 8 39)]) (.seq (.ai [qf 40 3 8,ql 41 40,qu 42 (.len 1 41),qu 43 (.aH (qi 0))]) (.block 4 (.loop (.seq (.ai [qu 44 (.aF .lss 43 42)]) (.seq (.cond 44 .skip (.exit 4)) (.seq (.block 5 (.seq (.ai [qu 45 (.bW 3 41 43),qL 46 3 45,qu 10 (.alloc [(.aa (.val (.bool false))),qd 0,qd 0]),qw (.store 3 10 46)]) (.seq (.ai [qf 47 0 8,ql 48 47,qm 49 48,qg 50 (.br 0 10) 49 true,qg 51 (.load false 1 50) 49 true,qu 52 (.pick 49 51 (qb false))]) (.cond 52 (.ai [qm 53 6,qf 54 1 10,qL 55 2 54,qu 56 (.call 53 [55])]) .skip)))) (.ai [qu 57 (.aF .add 43 (qi 1)),qm 43 57]))))))))) (.ai [qu 58 (.aF .add 36 (qi 1)),qm 36 58])))))))) (.seq (.cu (.seq (.ai [qf 59 0 1,ql 60 59,qu 61 (.len 1 60),qu 62 (.aH (qi 0))]) (.block 6 (.loop (.seq (.ai [qu 63 (.aF .lss 62 61)]) (.seq (.cond 63 .skip (.exit 6)) (.seq (.block 7 (.seq (.ai [qm 64 62,qm 11 64]) (.seq (.ai [qf 65 0 1,ql 66 65,qm 67 11,qu 68 (.bW 9 66 67),qf 69 5 68,ql 70 69,qu 71 (.len 1 70),qu 72 (.aH (qi 0))]) (.block 8 (.loop (.seq (.ai [qu 73 (.aF .lss 72 71)]) (.seq (.cond 73 .skip (.exit 8)) (.seq (.block 9 (.seq (.ai [qu 74 (.bW 4 70 72),qL 75 4 74,qu 13 (.alloc [.aI,(.aa (.val (.bool false))),qd 0,qd 0]),qw (.store 4 13 75)]) (.seq (.ai [qm 76 4,qm 77 11,qu 78 (.rR (.one (.aa (.val (.bool false)))) (.i .i64) 76 77 false),qm 79 78,qg 80 (.br 1 13) 79 true,qg 81 (.load false 1 80) 79 true,qu 82 (.pick 79 81 (qb false))]) (.cond 82 (.ai [qm 83 6,qf 84 2 13,qL 85 2 84,qu 86 (.call 83 [85])]) .skip)))) (.ai [qu 87 (.aF .add 72 (qi 1)),qm 72 87]))))))))) (.ai [qu 88 (.aF .add 62 (qi 1)),qm 62 88])))))))) (.seq (.ai [qu 89 (.build [.aI,.aI,.aI] []),qu 14 (.alloc [.aI,.aI,.aI]),qw (.store 3 14 89)]) (.seq (.cu (.seq (.ai [qf 90 0 1,ql 91 90,qu 92 (.len 1 91),qu 93 (.aH (qi 0))]) (.block 10 (.loop (.seq (.ai [qu 94 (.aF .lss 93 92)]) (.seq (.cond 94 .skip (.exit 10)) (.seq (.block 11 (.seq (.ai [qm 95 93,qu 96 (.bW 9 91 93),qL 97 9 96,qu 16 (.alloc [qd 0,.aI,.aI,(.aa (.val (.string ⟨#[]⟩))),qd 0,.aI,qd 0,qd 0,qd 0]),qm 15 95,qw (.store 9 16 97)]) (.seq (.seq (.ai [qm 98 4,qm 99 15,qu 100 (.rR (.one (.aa (.val (.bool false)))) (.i .i64) 98 99 false),qu 101 (.un .not 100)]) (.cond 101 (.ai [qu 102 (.build [qd 0,.aI,.aI,(.aa (.val (.string ⟨#[]⟩))),qd 0,.aI,qd 0,qd 0,qd 0] []),qw (.store 9 16 102)]) (.seq (.ai [qf 103 0 16,ql 104 103,qu 105 (.aF .eql 104 (qi 4)),qm 106 105,qg 107 (.aH 4) 106 true,qg 108 (.br 4 16) 106 true,qg 109 (.load false 1 108) 106 true,qg 110 (.rR (.one (.aa (.val (.bool false)))) (.i .i64) 107 109 false) 106 true,qg 111 (.un .not 110) 106 true,qu 112 (.pick 106 111 (qb false))]) (.cond 112 (.ai [qf 113 4 16,qw (.store 1 113 (qi (-1)))]) .skip)))) (.ai [qf 114 0 14,ql 115 114,qL 116 9 16,qu 117 (.ln 9 [qd 0,.aI,.aI,(.aa (.val (.string ⟨#[]⟩))),qd 0,.aI,qd 0,qd 0,qd 0] 1 [(0,116)]),qu 118 (.ni 9 128 115 117),qf 119 0 14,qw (.store 1 119 118)])))) (.ai [qu 120 (.aF .add 93 (qi 1)),qm 93 120])))))))) (.seq (.cu (.seq (.ai [qf 121 1 1,ql 122 121,qu 123 (.len 1 122),qu 124 (.aH (qi 0))]) (.block 12 (.loop (.seq (.ai [qu 125 (.aF .lss 124 123)]) (.seq (.cond 125 .skip (.exit 12)) (.seq (.block 13 (.seq (.ai [qm 126 124,qu 127 (.bW 2 122 124),qL 128 2 127,qu 18 (.alloc [qd 0,qd 0]),qm 17 126,qw (.store 2 18 128)]) (.seq (.seq (.ai [ql 129 5,qm 130 17,qu 131 (.rR (.one (.aa (.val (.bool false)))) (.i .i64) 129 130 false),qu 132 (.un .not 131)]) (.cond 132 (.ai [qu 133 (.build [qd 0,qd 0] [(0,1,(qi (-1)))]),qw (.store 2 18 133)]) .skip)) (.ai [qf 134 1 14,ql 135 134,qL 136 2 18,qu 137 (.ln 2 [qd 0,qd 0] 1 [(0,136)]),qu 138 (.ni 2 16 135 137),qf 139 1 14,qw (.store 1 139 138)])))) (.ai [qu 140 (.aF .add 124 (qi 1)),qm 124 140])))))))) (.seq (.cu (.seq (.ai [qf 141 2 1,ql 142 141,qu 143 (.len 1 142),qu 144 (.aH (qi 0))]) (.block 14 (.loop (.seq (.ai [qu 145 (.aF .lss 144 143)]) (.seq (.cond 145 .skip (.exit 14)) (.seq (.block 15 (.seq (.ai [qm 146 144,qu 147 (.bW 4 142 144),qL 148 4 147,qu 20 (.alloc [(.aa (.val (.bool false))),(.aa (.val (.bool false))),qd 0,.aI]),qm 19 146,qw (.store 4 20 148)]) (.seq (.seq (.ai [qm 149 19,qu 150 (.aF .gtr 149 (qi 0)),qm 151 150,qg 152 (.br 0 20) 151 true,qg 153 (.load false 1 152) 151 true,qu 154 (.pick 151 153 (qb false)),qm 155 154,qg 156 (.br 0 14) 155 true,qg 157 (.load false 1 156) 155 true,qg 158 (.aH 19) 155 true,qg 159 (qc 26 [157,158]) 155 true,qg 160 (.un .not 159) 155 true,qu 161 (.pick 155 160 (qb false))]) (.cond 161 (.seq (.ai [qu 162 (.build [(.aa (.val (.bool false))),(.aa (.val (.bool false))),qd 0,.aI] []),qw (.store 4 20 162)]) (.ai [qu 3 (.aH (qb true))])) .skip)) (.ai [qf 163 2 14,ql 164 163,qL 165 4 20,qu 166 (.ln 4 [(.aa (.val (.bool false))),(.aa (.val (.bool false))),qd 0,.aI] 1 [(0,165)]),qu 167 (.ni 4 40 164 166),qf 168 2 14,qw (.store 1 168 167)])))) (.ai [qu 169 (.aF .add 144 (qi 1)),qm 144 169])))))))) (.ai [qL 170 3 14,qw (.store 3 1 170)])))))))))))))))) (.seq (.cu (.seq (.ai [qf 171 2 1,ql 172 171,qu 173 (.len 1 172),qu 174 (.aH (qi 0))]) (.block 16 (.loop (.seq (.ai [qu 175 (.aF .lss 174 173)]) (.seq (.cond 175 .skip (.exit 16)) (.seq (.block 17 (.seq (.ai [qm 176 174,qm 21 176]) (.seq (.ai [qm 177 21,qu 178 (.aF .gtr 177 (qi 0)),qm 179 178,qg 180 (.br 2 1) 179 true,qg 181 (.load false 1 180) 179 true,qg 182 (.aH 21) 179 true,qg 183 (.bW 4 181 182) 179 true,qg 184 (.br 0 183) 179 true,qg 185 (.load false 1 184) 179 true,qg 186 (.un .not 185) 179 true,qu 187 (.pick 179 186 (qb false)),qm 188 187,qg 189 (.br 0 1) 188 true,qg 190 (.load false 1 189) 188 true,qg 191 (.aH 21) 188 true,qg 192 (qc 26 [190,191]) 188 true,qg 193 (.un .not 192) 188 true,qu 194 (.pick 188 193 (qb false))]) (.cond 194 (.ai [qf 195 2 1,ql 196 195,qm 197 21,qu 198 (.build [(.aa (.val (.bool false))),(.aa (.val (.bool false))),qd 0,.aI] []),qu 199 (.bW 4 196 197),qw (.store 4 199 198)]) .skip)))) (.ai [qu 200 (.aF .add 174 (qi 1)),qm 174 200])))))))) (.seq (.ai [qu 22 (.aH (qi 1)),qu 23 (.aH (qi 0)),qu 24 (.aH (qi 1))]) (.seq (.cu (.seq (.ai [qf 201 0 1,ql 202 201,qu 203 (.len 1 202),qu 204 (.aH (qi 0))]) (.block 18 (.loop (.seq (.ai [qu 205 (.aF .lss 204 203)]) (.seq (.cond 205 .skip (.exit 18)) (.seq (.block 19 (.seq (.ai [qm 206 204,qm 25 206]) (.seq (.ai [qf 207 0 1,ql 208 207,qm 209 25,qu 210 (.bW 9 208 209),qf 211 0 210,ql 212 211,qu 213 (.aF .neq 212 (qi 0)),qm 214 213,qg 215 (.aH 25) 214 true,qg 216 (.aH 22) 214 true,qg 217 (.aF .geq 215 216) 214 true,qu 218 (.pick 214 217 (qb false))]) (.cond 218 (.ai [qm 219 25,qu 220 (.aF .add 219 (qi 1)),qm 22 220]) .skip)))) (.ai [qu 221 (.aF .add 204 (qi 1)),qm 204 221])))))))) (.seq (.cu (.seq (.ai [qf 222 1 1,ql 223 222,qu 224 (.len 1 223),qu 225 (.aH (qi 0))]) (.block 20 (.loop (.seq (.ai [qu 226 (.aF .lss 225 224)]) (.seq (.cond 226 .skip (.exit 20)) (.seq (.block 21 (.seq (.ai [qm 227 225,qm 26 227]) (.seq (.ai [qf 228 1 1,ql 229 228,qm 230 26,qu 231 (.bW 2 229 230),qf 232 0 231,ql 233 232,qu 234 (.aF .geq 233 (qi 0))]) (.cond 234 (.ai [qm 235 26,qu 236 (.aF .add 235 (qi 1)),qm 23 236]) .skip)))) (.ai [qu 237 (.aF .add 225 (qi 1)),qm 225 237])))))))) (.seq (.cu (.seq (.ai [qf 238 2 1,ql 239 238,qu 240 (.len 1 239),qu 241 (.aH (qi 0))]) (.block 22 (.loop (.seq (.ai [qu 242 (.aF .lss 241 240)]) (.seq (.cond 242 .skip (.exit 22)) (.seq (.block 23 (.seq (.ai [qm 243 241,qm 27 243]) (.seq (.ai [qm 244 27,qu 245 (.aF .gtr 244 (qi 0)),qm 246 245,qg 247 (.br 2 1) 246 true,qg 248 (.load false 1 247) 246 true,qg 249 (.aH 27) 246 true,qg 250 (.bW 4 248 249) 246 true,qg 251 (.br 0 250) 246 true,qg 252 (.load false 1 251) 246 true,qg 253 (.aH 252) 246 true,qg 254 (.br 0 1) 253 false,qg 255 (.load false 1 254) 253 false,qg 256 (.aH 27) 253 false,qg 257 (qc 26 [255,256]) 253 false,qg 258 (.pick 253 (qb true) 257) 246 true,qu 259 (.pick 246 258 (qb false))]) (.cond 259 (.ai [qm 260 27,qu 261 (.aF .add 260 (qi 1)),qm 24 261]) .skip)))) (.ai [qu 262 (.aF .add 241 (qi 1)),qm 241 262])))))))) (.cu (.seq (.bX [qf 263 0 1,ql 264 263,qm 265 22,qf 266 0 1,ql 267 266,qu 268 (.len 1 267),qu 269 (.ij false [265,268]),qu 270 (.nh 9 264 none (some 269) none),qf 271 1 1,ql 272 271,qm 273 23,qu 274 (.nh 2 272 none (some 273) none),qf 275 2 1,ql 276 275,qm 277 24,qf 278 2 1,ql 279 278,qu 280 (.len 1 279),qu 281 (.ij false [277,280]),qu 282 (.nh 4 276 none (some 281) none),qu 283 (.build [.aI,.aI,.aI] [(0,1,270),(1,1,274),(2,1,282)]),qw (.store 3 2 283)] [(.cons 0 none (.cons 1 none (.cons 2 none (.cons 3 none (.cons 4 none (.cons 5 none (.cons 8 none (.cons 9 none (.cons 10 none (.cons 11 none (.cons 12 none (.cons 13 none (.cons 14 none (.cons 15 none (.cons 16 none (.cons 17 none (.xJ (.cons 6 (some [17,16,13,11,9,1]) (.cons 7 none (.cons 18 (some [7,13,11,9,5,4,1]) (.cons 19 none (.cons 20 none (.cons 21 (some []) .nil)))))) (.cons 18 (some [13,11,9,5,4,1]) (.cons 19 none (.cons 6 (some [19,17,16,13,11,9,1]) (.cons 7 none (.cons 20 none (.cons 21 (some []) .nil)))))))))))))))))))))))]) .ret)))))))))⟩
theorem l12:bx Tryz.prog Tryz.f12=some c12.er:=by kernel_rfl
def Xm:LC->LC
 | .block _ b=>b
 |x=>x
def aaW:LC->LC
 | .loop b=>b
 |x=>x
def B21:LC:=Xm (bv (aaW (Xm (bv (pY (bv c12.code))))))
def T33:LC:=bv (bv (bv (bv B21)))
def T59:LC:=bv T33
def T89:LC:=bv T59
def T90:LC:=bv T89
def TE:LC:=bv T90
def TF:LC:=bv TE
def X33:LC:=lX (pY T33)
def X59:LC:=lX (pY T59)
def X90:LC:=lX (pY T90)
def aaY:LC:=lX (pY TE)
def aaZ:LC:=lX (pY TF)
def aa0:LC:=bv TF
def yZ(L:List Nat)(i:Nat)(o:Obj):Obj:=if sO L (i:Int)=false then eQ else if o.ah=4/\sO L o.aD=false then {o with aD:= -1}else o
def FS(Q:List Int)(i:Nat)(o:bi):bi:=if Dh Q (i:Int)=false then⟨-1,0⟩else o
def FT(l':List Obj)(i:Nat)(p:aT):Bool:=decide (0<i)&&(p.aQ&& !(l'.any (cH (i:Nat))))
def NM(l':List Obj)(i:Nat)(p:aT):aT:=if FT l' i p=true then eR else p
def pj(L:List Nat)(l:List Obj):List Obj:=l.mapIdx (yZ L)
def oK(Q:List Int)(ops:List bi):List bi:=ops.mapIdx (FS Q)
def xD(l':List Obj)(ps:List aT):List aT:=ps.mapIdx (NM l')
def A0(l':List Obj)(ps:List aT):Nat->Bool
 |0=>false
 |k+1=>(match ps[k]? with|some p=>FT l' k p|none=>false)||A0 l' ps k
theorem oL{α β:Type}{f:Nat->α->β}{l:List α}{i:Nat}{x:α}(h:l[i]? =some x):(l.mapIdx f).take (i+1)=(l.mapIdx f).take i++ [f i x]:=
 py (by rw[abD,h];rfl)
def p0(id:Nat):CV:= .rv (.one (.ptr id 0))
def rM(a b c:CC):Bk:= .var [a,b,c]
def TG(l:List Obj)(ops:List bi)(ps:List aT)(l':List Obj)(nI:List bi)(oR:List aT):Mem:=
 [kB l ops ps,fm,.aW,.aW,.aW,rM (.row 6 9 0 none) (.row 7 2 0 none) (.row 8 4 0 none),.row 9 (af (l'.map Obj.enc)),.row 2 (af (nI.map bi.enc)),.row 4 (af (oR.map aT.enc))]
theorem aa1(l:List Obj)(ops:List bi)(ps:List aT)(fW:ps.length<=4194304)(l':List Obj)(Bi:l'.length<=4194304)(nI:List bi)(K:Ex->St->Prop)(hK:∀e m,View 0 ⟨e,m⟩ ⟨iL 284 [(1,p0 0),(2,p0 1),(3,ax (A0 l' ps ps.length))],[rM (.row 2 9 0 none) (.row 3 2 0 none) (.row 4 4 0 none),fm,.row 9 (af (l'.map Obj.enc)),.row 2 (af (nI.map bi.enc)),.row 4 (af ((xD l' ps).map aT.enc))]⟩->K .normal ⟨e,m⟩):
  aw Tryz.prog 0 aaZ (pM (aw Tryz.prog 0 aa0) K) ⟨iL 284 [(1,p0 0),(2,p0 1),(3,ax false),(14,p0 5)],TG l ops ps l' nI []⟩:=by
 refine aK (fun i=>i<=ps.length) [1,2,14,142,143] (fun i=>[(3,ax (A0 l' ps i)),(144,an .i64 (i:Nat))]) (fun i=>TG l ops ps l' nI ((xD l' ps).take i)) (fun i=>ps.length-i) 0 (Wi _) ?_ (fun i hi=>?_)
 .refine View.o1 9 [0,1,2,3,4,5,6,7,8] [] ?_
  .exact .pt rfl rfl (.eq rfl (by simp[kB])) (.pt rfl rfl (.eq rfl (by simp[fm])) (.aW (.aW (.aW (.pt rfl rfl (.eq rfl (by simp[rM])) (.pr rfl rfl rfl (.pr rfl rfl rfl (.pn rfl rfl rfl))))))))
 have hi:i<=ps.length:=hi;refine ay (fun h=>?_) (fun h=>?_)
 .have aB:i<ps.length:=by have h:(i:Int)<((ps.map aT.enc).length:Int):=h;rw[Nq]at h;omega
  have hp:=IE aB;have hg:cR (ps.map aT.enc) (i:Nat)=some (ps[i].enc):=by rw[bn,Q8,hp];rfl
  generalize ps[i]=p at hp hg;have hT:(xD l' ps).take (i+1)=(xD l' ps).take i++ [NM l' i p]:=oL hp;have hM:A0 l' ps (i+1)=(FT l' i p||A0 l' ps i):=by rw[A0,hp]
  obtain⟨aQ,fenced,code,aJ⟩:=p;refine ag (x:=[.val (.bool aQ),.val (.bool fenced),.val (.int .i64 code),iu aJ]) hg ?_;have lJ:((af (((xD l' ps).take i).map aT.enc)).length+1)*40<=140737488355328:=by rw[aU,Nq,Z4];omega
  have eS:FT l' i ⟨aQ,fenced,code,aJ⟩=false->∀e,ir (sg [0,1,2,3,4,5,6,7,11] 12) [kB l ops ps,fm,.aW,.aW,.aW,rM (.row 6 9 0 none) (.row 7 2 0 none) (.row 11 4 0 none),.row 9 (af (l'.map Obj.enc)),.row 2 (af (nI.map bi.enc)),.aW,.var [.aa (.val (.bool aQ)),.aa (.val (.bool fenced)),.aa (.val (.int .i64 code)),.aa (iu aJ)],.aW,.row 4 (af (((xD l' ps).take i).map aT.enc)++ [[.aa (.val (.bool aQ)),.aa (.val (.bool fenced)),.aa (.val (.int .i64 code)),.aa (iu aJ)]])] (fun k=>bz [] k=true) e
     (QQ [1,2,14,142,143] (iL 284 [(1,p0 0),(2,p0 1),(14,p0 5),(142,.rv (.one (.aa (ff ps)))),(143,an .i64 (ps.map aT.enc).length)]) [(3,ax (A0 l' ps (i+1))),(144,an .i64 ((i+1:Nat):Int))])->
    View 0 ⟨e,[kB l ops ps,fm,.aW,.aW,.aW,rM (.row 6 9 0 none) (.row 7 2 0 none) (.row 11 4 0 none),.row 9 (af (l'.map Obj.enc)),.row 2 (af (nI.map bi.enc)),.aW,.var [.aa (.val (.bool aQ)),.aa (.val (.bool fenced)),.aa (.val (.int .i64 code)),.aa (iu aJ)],.aW,.row 4 (af (((xD l' ps).take i).map aT.enc)++ [[.aa (.val (.bool aQ)),.aa (.val (.bool fenced)),.aa (.val (.int .i64 code)),.aa (iu aJ)]])]⟩
     ⟨QQ [1,2,14,142,143] (iL 284 [(1,p0 0),(2,p0 1),(14,p0 5),(142,.rv (.one (.aa (ff ps)))),(143,an .i64 (ps.map aT.enc).length)]) [(3,ax (A0 l' ps (i+1))),(144,an .i64 ((i+1:Nat):Int))],TG l ops ps l' nI ((xD l' ps).take (i+1))⟩:=by
   intro hb e he;refine View.o 12 [0,1,2,3,4,5,6,7,11] [] he ?_;refine .pt rfl rfl (.eq rfl (by simp[kB])) (.pt rfl rfl (.eq rfl (by simp[fm])) (.aW (.aW (.aW (.pt rfl rfl (.eq rfl (by simp[rM])) (.pr rfl rfl rfl (.pr rfl rfl rfl (.pt rfl rfl (.bM ?_) (.nil _)))))))))
   have e1:NM l' i ⟨aQ,fenced,code,aJ⟩=⟨aQ,fenced,code,aJ⟩:=by rw[NM,hb];rfl
   rw[hT,e1,abn,bN];rfl
  refine ay (fun h0=>?_) (fun h0=>?_)
  .have h0:0<i:=by have h0:(i:Int)>0:=h0;omega
   refine aC (fun cX=>?_) (fun cX=>?_)
   .refine te l' Bi (i:Nat) (id:=6) rfl ?_;refine aC (fun hh=>?_) (fun hh=>?_)
    .have hb:FT l' i ⟨aQ,fenced,code,aJ⟩=true:=by simp only[FT];rw[decide_eq_true h0,cX];exact hh
     have e1:NM l' i ⟨aQ,fenced,code,aJ⟩=eR:=by rw[NM,hb];rfl
     refine⟨lJ,i+1,aB,(show ps.length-(i+1)<ps.length-i by omega),View.o 12 [0,1,2,3,4,5,6,7,11] [] ?_ ?_⟩
     .rw[hM,hb,Bool.true_or];repeat(first|exact .nil|refine .aq ?_|refine .put (.aO (ap om).symm) ?_|refine .eq rfl ?_)
     .refine .pt rfl rfl (.eq rfl (by simp[kB])) (.pt rfl rfl (.eq rfl (by simp[fm])) (.aW (.aW (.aW (.pt rfl rfl (.eq rfl (by simp[rM])) (.pr rfl rfl rfl (.pr rfl rfl rfl (.pt rfl rfl ?_ (.nil _)))))))))
      rw[hT,e1,abn,bN];refine .zE (db _ _) rfl fun j c c' h1 h2=>?_
      match j,h1,h2 with
      |0,h1,h2=>cases h1;cases h2;exact .aO (.aa _)
      |1,h1,h2=>cases h1;cases h2;exact .aO (.aa _)
      |2,h1,h2=>cases h1;cases h2;exact .aO (.aa _)
      |3,h1,h2=>cases h1;cases h2;exact .e8 (.aI 3)
      |n+4,h1,h2=>simp at h1
    .have hb:FT l' i ⟨aQ,fenced,code,aJ⟩=false:=by simp only[FT];rw[decide_eq_true h0,cX];exact hh
     refine⟨lJ,i+1,aB,(show ps.length-(i+1)<ps.length-i by omega),eS hb _ ?_⟩
     rw[hM,hb,ab2];repeat(first|exact .nil|refine .aq ?_|refine .put (.aO (ap om).symm) ?_|refine .eq rfl ?_)
   .have hb:FT l' i ⟨aQ,fenced,code,aJ⟩=false:=by simp only[FT];rw[show aQ=false from cX];simp
    refine⟨lJ,i+1,aB,(show ps.length-(i+1)<ps.length-i by omega),eS hb _ ?_⟩
    rw[hM,hb,ab2];repeat(first|exact .nil|refine .aq ?_|refine .put (.aO (ap om).symm) ?_|refine .eq rfl ?_)
  .have h0:¬0<i:=by have h0:¬(i:Int)>0:=h0;omega
   have hb:FT l' i ⟨aQ,fenced,code,aJ⟩=false:=by simp only[FT];rw[decide_eq_false h0];rfl
   refine⟨lJ,i+1,aB,(show ps.length-(i+1)<ps.length-i by omega),eS hb _ ?_⟩
   rw[hM,hb,ab2];repeat(first|exact .nil|refine .aq ?_|refine .put (.aO (ap om).symm) ?_|refine .eq rfl ?_)
 .have gX:i=ps.length:=by have h:¬(i:Int)<((ps.map aT.enc).length:Int):=h;rw[Nq]at h;omega
  subst gX;have hT:(xD l' ps).take ps.length=xD l' ps:=abS (by simp[xD])
  refine hK _ _ (View.o1 9 [0,1,6,7,8] [] ?_)
  .exact .pt rfl rfl (.eq rfl (by simp[rM])) (.pt rfl rfl (.eq rfl (by simp[fm])) (.pr rfl rfl rfl (.pr rfl rfl rfl (.pt rfl rfl (.bM (by rw[hT])) (.nil _)))))
def Xn(l:List Obj)(ops:List bi)(ps:List aT)(Q:List Int)(l':List Obj)(nI:List bi):Mem:=
 [kB l ops ps,fm,.aW,.mp (Q.map lm),yY,rM (.row 6 9 0 none) (.row 7 2 0 none) .aI,.row 9 (af (l'.map Obj.enc)),.row 2 (af (nI.map bi.enc))]
def TH(l':List Obj)(nI:List bi)(oR:List aT)(bO:Bool)(K:Ex->St->Prop):Prop:=
 ∀e m,View 0 ⟨e,m⟩ ⟨iL 284 [(1,p0 0),(2,p0 1),(3,ax bO)],[rM (.row 2 9 0 none) (.row 3 2 0 none) (.row 4 4 0 none),fm,.row 9 (af (l'.map Obj.enc)),.row 2 (af (nI.map bi.enc)),.row 4 (af (oR.map aT.enc))]⟩->K .normal ⟨e,m⟩
theorem aa2(l:List Obj)(ops:List bi)(ps:List aT)(ho:ops.length<=4194304)(fW:ps.length<=4194304)(Q:List Int)(l':List Obj)(Bi:l'.length<=4194304)(K:Ex->St->Prop)(hK:TH l' (oK Q ops) (xD l' ps) (A0 l' ps ps.length) K):
  aw Tryz.prog 0 aaY (pM (aw Tryz.prog 0 TF) K) ⟨iL 284 [(1,p0 0),(2,p0 1),(3,ax false),(5,p0 4),(14,p0 5)],Xn l ops ps Q l' []⟩:=by
 refine aK (fun i=>i<=ops.length) [1,2,3,5,14,122,123] (fun i=>[(124,an .i64 (i:Nat))]) (fun i=>Xn l ops ps Q l' ((oK Q ops).take i)) (fun i=>ops.length-i) 0 (Wi _) ?_ (fun i hi=>?_)
 .refine View.o1 8 [0,1,2,3,4,5,6,7] [] ?_
  .exact .pt rfl rfl (.eq rfl (by simp[kB])) (.pt rfl rfl (.eq rfl (by simp[fm])) (.aW (.pt rfl rfl (.eq (eI _) aG) (.pt rfl rfl (.eq rfl (by simp[yY])) (.pt rfl rfl (.eq rfl (by simp[rM])) (.pr rfl rfl rfl (.pn rfl rfl rfl)))))))
 have hi:i<=ops.length:=hi;refine ay (fun h=>?_) (fun h=>?_)
 .have aB:i<ops.length:=by have h:(i:Int)<((ops.map bi.enc).length:Int):=h;rw[Nq]at h;omega
  have hp:=IE aB;have hg:=lM aB;generalize ops[i]=o at hp hg;have hT:(oK Q ops).take (i+1)=(oK Q ops).take i++ [FS Q i o]:=oL hp;obtain⟨bD,dh⟩:=o;refine ag hg ?_;have lJ:((af (((oK Q ops).take i).map bi.enc)).length+1)*16<=140737488355328:=by rw[aU,Nq,Z4];omega
  refine ag (Hl (i:Int) Q) ?_;cases hq:Dh Q (i:Int)with
  |false=>
   have e1:FS Q i ⟨bD,dh⟩=⟨-1,0⟩:=by rw[FS,hq];rfl
   refine⟨lJ,i+1,aB,(show ops.length-(i+1)<ops.length-i by omega),View.o 11 [0,1,2,3,4,5,6,10] [] ?_ ?_⟩
   .repeat(first|exact .nil|refine .aq ?_|refine .put (.aO (ap om).symm) ?_|refine .eq rfl ?_)
   .refine .pt rfl rfl (.eq rfl (by simp[kB])) (.pt rfl rfl (.eq rfl (by simp[fm])) (.aW (.pt rfl rfl (.eq (eI _) aG) (.pt rfl rfl (.eq rfl (by simp[yY])) (.pt rfl rfl (.eq rfl (by simp[rM])) (.pr rfl rfl rfl (.pt rfl rfl (.bM ?_) (.nil _))))))))
    rw[hT,e1,abn,bN];rfl
  |true=>
   have e1:FS Q i ⟨bD,dh⟩=⟨bD,dh⟩:=by rw[FS,hq];rfl
   refine⟨lJ,i+1,aB,(show ops.length-(i+1)<ops.length-i by omega),View.o 11 [0,1,2,3,4,5,6,10] [] ?_ ?_⟩
   .repeat(first|exact .nil|refine .aq ?_|refine .put (.aO (ap om).symm) ?_|refine .eq rfl ?_)
   .refine .pt rfl rfl (.eq rfl (by simp[kB])) (.pt rfl rfl (.eq rfl (by simp[fm])) (.aW (.pt rfl rfl (.eq (eI _) aG) (.pt rfl rfl (.eq rfl (by simp[yY])) (.pt rfl rfl (.eq rfl (by simp[rM])) (.pr rfl rfl rfl (.pt rfl rfl (.bM ?_) (.nil _))))))))
    rw[hT,e1,abn,bN];rfl
 .have gX:i=ops.length:=by have h:¬(i:Int)<((ops.map bi.enc).length:Int):=h;rw[Nq]at h;omega
  subst gX;have hT:(oK Q ops).take ops.length=oK Q ops:=abS (by simp[oK])
  refine⟨_,View.trans (View.Sf 5 2 4 8 rfl rfl rfl rfl) (View.o1 9 [0,1,2,3,4,5,6,7,8] [] ?_),aa1 l ops ps fW l' Bi (oK Q ops) K hK⟩
  .exact .pt rfl rfl (.eq rfl (by simp[kB])) (.pt rfl rfl (.eq rfl (by simp[fm])) (.aW (.aW (.aW (.pt rfl rfl (.eq rfl (by simp[rM])) (.pr rfl rfl rfl (.pt rfl rfl (.bM (by rw[hT])) (.pn rfl rfl rfl))))))))
def M90(l:List Obj)(ops:List bi)(ps:List aT)(L:List Nat)(Q:List Int)(l':List Obj):Mem:=
 [kB l ops ps,fm,.mp (L.map fh),.mp (Q.map lm),yY,rM (.row 6 9 0 none) .aI .aI,.row 9 (af (l'.map Obj.enc))]
theorem NN{σ:Nat->Nat}{m:Mem}{Z:Nat->Prop}{id:Nat}(R:List Obj){es:List (List CC)}(h:es=af (R.map Obj.enc)):mK σ m Z id (.row 9 (es++ [Gy])) (.row 9 (af ((R++ [eQ]).map Obj.enc))):=by
 subst h;rw[abn,bN];refine .zE (db _ _) rfl fun j c c' h1 h2=>?_
 match j,h1,h2 with
 |0,h1,h2=>cases h1;cases h2;exact .aO (.aa _)
 |1,h1,h2=>cases h1;cases h2;exact .e8 (.aI 1)
 |2,h1,h2=>cases h1;cases h2;exact .e8 (.aI 2)
 |3,h1,h2=>cases h1;cases h2;exact .aO (.aa _)
 |4,h1,h2=>cases h1;cases h2;exact .aO (.aa _)
 |5,h1,h2=>cases h1;cases h2;exact .e8 (.aI 4)
 |6,h1,h2=>cases h1;cases h2;exact .aO (.aa _)
 |7,h1,h2=>cases h1;cases h2;exact .aO (.aa _)
 |8,h1,h2=>cases h1;cases h2;exact .aO (.aa _)
 |n+9,h1,h2=>simp[Gy]at h1
theorem t90(l:List Obj)(ops:List bi)(ps:List aT)(hl:l.length<=4194304)(ho:ops.length<=4194304)(fW:ps.length<=4194304)(L:List Nat)(Q:List Int)(K:Ex->St->Prop)(hK:TH (pj L l) (oK Q ops) (xD (pj L l) ps) (A0 (pj L l) ps ps.length) K):
  aw Tryz.prog 0 X90 (pM (aw Tryz.prog 0 TE) K) ⟨iL 284 [(1,p0 0),(2,p0 1),(3,ax false),(4,.rv (.one (.map 2))),(5,p0 4),(14,p0 5)],M90 l ops ps L Q []⟩:=by
 have mv:∀(i:Nat)(x:List CC)(o':Obj),x=o'.enc.map .aa->(pj L l).take (i+1)=(pj L l).take i++ [o']->af (((pj L l).take i).map Obj.enc)++ [x]=af (((pj L l).take (i+1)).map Obj.enc):=by intro i x o' h1 h2;rw[h2,abn,bN,h1];rfl
 refine aK (fun i=>i<=l.length) [1,2,3,4,5,14,91,92] (fun i=>[(93,an .i64 (i:Nat))]) (fun i=>M90 l ops ps L Q ((pj L l).take i)) (fun i=>l.length-i) 0 (Wi _) ?_ (fun i hi=>?_)
 .refine View.o1 7 [0,1,2,3,4,5,6] [] ?_
  .exact .pt rfl rfl (.eq rfl (by simp[kB])) (.pt rfl rfl (.eq rfl (by simp[fm])) (.pt rfl rfl (.eq (cY _) aG) (.pt rfl rfl (.eq (eI _) aG) (.pt rfl rfl (.eq rfl (by simp[yY])) (.pt rfl rfl (.eq rfl (by simp[rM])) (.pn rfl rfl rfl))))))
 have hi:i<=l.length:=hi;refine ay (fun h=>?_) (fun h=>?_)
 .have aB:i<l.length:=by have h:(i:Int)<((l.map Obj.enc).length:Int):=h;rw[Nq]at h;omega
  have hp:=IE aB;have hg:=oZ aB;generalize l[i]=o at hp hg;have hT:(pj L l).take (i+1)=(pj L l).take i++ [yZ L i o]:=oL hp;obtain⟨ah,data,ak,target,aD,aj,aM,am,up⟩:=o;refine ag hg ?_;have lJ:((af (((pj L l).take i).map Obj.enc)).length+1)*128<=140737488355328:=by rw[aU,Nq,Z4];omega
  refine ag (o7 (i:Int) L) ?_;cases hn:sO L (i:Int)with
  |false=>
   have e1:yZ L i ⟨ah,data,ak,target,aD,aj,aM,am,up⟩=eQ:=by rw[yZ,if_pos hn]
   rw[e1]at hT;refine⟨lJ,i+1,aB,(show l.length-(i+1)<l.length-i by omega),View.o 10 [0,1,2,3,4,5,9] [] ?_ ?_⟩
   .repeat(first|exact .nil|refine .aq ?_|refine .put (.aO (ap om).symm) ?_|refine .eq rfl ?_)
   .refine .pt rfl rfl (.eq rfl (by simp[kB])) (.pt rfl rfl (.eq rfl (by simp[fm])) (.pt rfl rfl (.eq (cY _) aG) (.pt rfl rfl (.eq (eI _) aG) (.pt rfl rfl (.eq rfl (by simp[yY])) (.pt rfl rfl (.eq rfl (by simp[rM])) (.pt rfl rfl ?_ (.nil _)))))))
    rw[hT];exact NN _ rfl
  |true=>
   have iC:∀(p':Int),yZ L i ⟨ah,data,ak,target,aD,aj,aM,am,up⟩=⟨ah,data,ak,target,p',aj,aM,am,up⟩->af (((pj L l).take i).map Obj.enc)++ [[CC.aa (.val (.int .i64 ah)),.aa (.sl 1 data),.aa (.sl 2 ak),.aa (.val (.string target)),.aa (.val (.int .i64 p')),.aa (.sl 4 (aj.map bw.enc)),.aa (.val (.int .i64 aM)),.aa (.val (.int .i64 am)),.aa (.val (.int .i64 up))]]=af (((pj L l).take (i+1)).map Obj.enc):=by intro p' e;rw[e]at hT;exact mv i _ _ rfl hT
   refine bI (fun hk=>?_) (fun hk=>?_)
   .refine ag (o7 aD L) ?_;cases ue:sO L aD with
    |false=>
     have e1:yZ L i ⟨ah,data,ak,target,aD,aj,aM,am,up⟩=⟨ah,data,ak,target,-1,aj,aM,am,up⟩:=by
      rw[yZ,if_neg (by rw[hn];simp),if_pos ⟨hk,ue⟩]
     refine⟨lJ,i+1,aB,(show l.length-(i+1)<l.length-i by omega),View.o 10 [0,1,2,3,4,5,9] [] ?_ ?_⟩
     .repeat(first|exact .nil|refine .aq ?_|refine .put (.aO (ap om).symm) ?_|refine .eq rfl ?_)
     .exact .pt rfl rfl (.eq rfl (by simp[kB])) (.pt rfl rfl (.eq rfl (by simp[fm])) (.pt rfl rfl (.eq (cY _) aG) (.pt rfl rfl (.eq (eI _) aG) (.pt rfl rfl (.eq rfl (by simp[yY])) (.pt rfl rfl (.eq rfl (by simp[rM])) (.pt rfl rfl (.bM (iC (-1) e1)) (.nil _)))))))
    |true=>
     have e1:yZ L i ⟨ah,data,ak,target,aD,aj,aM,am,up⟩=⟨ah,data,ak,target,aD,aj,aM,am,up⟩:=by
      rw[yZ,if_neg (by rw[hn];simp),if_neg (fun h=>by rw[show sO L aD=false from h.2]at ue;cases ue)]
     refine⟨lJ,i+1,aB,(show l.length-(i+1)<l.length-i by omega),View.o 10 [0,1,2,3,4,5,9] [] ?_ ?_⟩
     .repeat(first|exact .nil|refine .aq ?_|refine .put (.aO (ap om).symm) ?_|refine .eq rfl ?_)
     .exact .pt rfl rfl (.eq rfl (by simp[kB])) (.pt rfl rfl (.eq rfl (by simp[fm])) (.pt rfl rfl (.eq (cY _) aG) (.pt rfl rfl (.eq (eI _) aG) (.pt rfl rfl (.eq rfl (by simp[yY])) (.pt rfl rfl (.eq rfl (by simp[rM])) (.pt rfl rfl (.bM (iC aD e1)) (.nil _)))))))
   .have e1:yZ L i ⟨ah,data,ak,target,aD,aj,aM,am,up⟩=⟨ah,data,ak,target,aD,aj,aM,am,up⟩:=by
     rw[yZ,if_neg (by rw[hn];simp),if_neg (fun h=>hk h.1)]
    refine⟨lJ,i+1,aB,(show l.length-(i+1)<l.length-i by omega),View.o 10 [0,1,2,3,4,5,9] [] ?_ ?_⟩
    .repeat(first|exact .nil|refine .aq ?_|refine .put (.aO (ap om).symm) ?_|refine .eq rfl ?_)
    .exact .pt rfl rfl (.eq rfl (by simp[kB])) (.pt rfl rfl (.eq rfl (by simp[fm])) (.pt rfl rfl (.eq (cY _) aG) (.pt rfl rfl (.eq (eI _) aG) (.pt rfl rfl (.eq rfl (by simp[yY])) (.pt rfl rfl (.eq rfl (by simp[rM])) (.pt rfl rfl (.bM (iC aD e1)) (.nil _)))))))
 .have gX:i=l.length:=by have h:¬(i:Int)<((l.map Obj.enc).length:Int):=h;rw[Nq]at h;omega
  subst gX;have hT:(pj L l).take l.length=pj L l:=abS (by simp[pj])
  refine⟨_,View.trans (View.Sf 5 1 2 7 rfl rfl rfl rfl) (View.o1 8 [0,1,2,3,4,5,6,7] [] ?_),aa2 l ops ps ho fW Q (pj L l) (by simpa[pj]using hl) K hK⟩
  .exact .pt rfl rfl (.eq rfl (by simp[kB])) (.pt rfl rfl (.eq rfl (by simp[fm])) (.aW (.pt rfl rfl (.eq (eI _) aG) (.pt rfl rfl (.eq rfl (by simp[yY])) (.pt rfl rfl (.eq rfl (by simp[rM])) (.pt rfl rfl (.bM (by rw[hT])) (.pn rfl rfl rfl)))))))
def T1(ps:List aT)(p j:Nat)(z:Int):Prop:=∃(i:Nat)(pr:aT)(k:Nat)(s:fz),ps[i]? =some pr/\pr.aQ=true/\pr.aJ[k]? =some s/\s.has=true/\(i<p\/i=p/\k<j)/\z=s.dk
def T2(l:List Obj)(ps:List aT)(L:List Nat)(i k:Nat)(z:Int):Prop:=
 T1 ps ps.length 0 z\/∃(i':Nat)(o:Obj)(k':Nat)(q:bw),i'∈L/\l[i']? =some o/\o.aj[k']? =some q/\q.has=true/\(i'<i\/i'=i/\k'<k)/\z=q.dk
def QI(S:Int->Prop)(Q:List Int):Prop:=∀z,Dh Q z=true↔S z
theorem QI.add{S S':Int->Prop}{Q:List Int}{x:Int}(h:QI S Q)(hS:∀z,S' z↔(S z\/z=x)):QI S' (nK x Q):=fun z=>by rw[P9,hS z,h z]
theorem QI.dn{S S':Int->Prop}{Q:List Int}(h:QI S Q)(hS:∀z,S' z↔S z):QI S' Q:=fun z=>by rw[hS z,h z]
theorem Qa{ps:List aT}{z:Int}:¬T1 ps 0 0 z:=by rintro⟨i,pr,k,s,_,_,_,_,h,_⟩;omega
theorem Qb{ps:List aT}{p j:Nat}{pr:aT}{s:fz}(hp:ps[p]? =some pr)(hs:pr.aJ[j]? =some s)(y:Int):T1 ps p (j+1) y↔(T1 ps p j y\/(pr.aQ=true/\s.has=true/\y=s.dk)):=by
 constructor
 .rintro⟨i,NH,k,s',h1,h2,h3,h4,h5,h6⟩;by_cases hk:i=p/\k=j
  .obtain⟨rfl,rfl⟩:=hk;rw[hp]at h1;cases h1;rw[hs]at h3;cases h3;exact .inr ⟨h2,h4,h6⟩
  .exact .inl ⟨i,NH,k,s',h1,h2,h3,h4,om,h6⟩
 .rintro(⟨i,NH,k,s',h1,h2,h3,h4,h5,h6⟩|⟨h1,h2,h3⟩)
  .exact⟨i,NH,k,s',h1,h2,h3,h4,om,h6⟩
  .exact⟨p,pr,j,s,hp,h1,hs,h2,.inr ⟨rfl,om⟩,h3⟩
theorem Qc{ps:List aT}{p:Nat}{pr:aT}(hp:ps[p]? =some pr)(y:Int):T1 ps (p+1) 0 y↔T1 ps p pr.aJ.length y:=by
 constructor
 .rintro⟨i,NH,k,s',h1,h2,h3,h4,h5,h6⟩;refine⟨i,NH,k,s',h1,h2,h3,h4,?_,h6⟩;by_cases hi:i=p
  .subst hi;rw[hp]at h1;cases h1;exact .inr ⟨rfl,(Mh.1 h3).1⟩
  .exact .inl om
 .rintro⟨i,NH,k,s',h1,h2,h3,h4,h5,h6⟩;exact⟨i,NH,k,s',h1,h2,h3,h4,om,h6⟩
theorem Qd{l:List Obj}{ps:List aT}{L:List Nat}(z:Int):T2 l ps L 0 0 z↔T1 ps ps.length 0 z:=by
 constructor
 .rintro(h|⟨i,o,k,q,_,_,_,_,h,_⟩)
  .exact h
  .omega
 .exact .inl
theorem Qe{l:List Obj}{ps:List aT}{L:List Nat}{i k:Nat}{o:Obj}{q:bw}(ho:l[i]? =some o)(hq:o.aj[k]? =some q)(z:Int):T2 l ps L i (k+1) z↔(T2 l ps L i k z\/(i∈L/\q.has=true/\z=q.dk)):=by
 constructor
 .rintro(h|⟨i',o',k',q',h1,h2,h3,h4,h5,h6⟩)
  .exact .inl (.inl h)
  .by_cases hk:i'=i/\k'=k
   .obtain⟨rfl,rfl⟩:=hk;rw[ho]at h2;cases h2;rw[hq]at h3;cases h3;exact .inr ⟨h1,h4,h6⟩
   .exact .inl (.inr ⟨i',o',k',q',h1,h2,h3,h4,om,h6⟩)
 .rintro((h|⟨i',o',k',q',h1,h2,h3,h4,h5,h6⟩)|⟨h1,h2,h3⟩)
  .exact .inl h
  .exact .inr ⟨i',o',k',q',h1,h2,h3,h4,om,h6⟩
  .exact .inr ⟨i,o,k,q,h1,ho,hq,h2,.inr ⟨rfl,om⟩,h3⟩
theorem Qf{l:List Obj}{ps:List aT}{L:List Nat}{i:Nat}{o:Obj}(ho:l[i]? =some o)(z:Int):T2 l ps L (i+1) 0 z↔T2 l ps L i o.aj.length z:=by
 constructor
 .rintro(h|⟨i',o',k',q',h1,h2,h3,h4,h5,h6⟩)
  .exact .inl h
  .refine .inr ⟨i',o',k',q',h1,h2,h3,h4,?_,h6⟩;by_cases hi:i'=i
   .subst hi;rw[ho]at h2;cases h2;exact .inr ⟨rfl,(Mh.1 h3).1⟩
   .exact .inl om
 .rintro(h|⟨i',o',k',q',h1,h2,h3,h4,h5,h6⟩)
  .exact .inl h
  .exact .inr ⟨i',o',k',q',h1,h2,h3,h4,om,h6⟩
def uL(l:List Obj)(ps:List aT)(L:List Nat)(Q:List Int):Prop:=QI (T2 l ps L l.length 0) Q
def Rs(l:List Obj)(ops:List bi)(ps:List aT)(L:List Nat)(Q:List Int):Mem:=[kB l ops ps,fm,.mp (L.map fh),.mp (Q.map lm),yY]
theorem xE(l:List Obj)(ops:List bi)(ps:List aT)(L:List Nat)(Q:List Int)(n:Nat)(R:Mem):dV (sg [0,1,2,3,4] n) (kB l ops ps::fm:: .mp (L.map fh):: .mp (Q.map lm)::yY::R) (fun k=>bz [] k=true) 0 (Rs l ops ps L Q):=
 .pt rfl rfl (.eq rfl (by simp[kB])) (.pt rfl rfl (.eq rfl (by simp[fm])) (.pt rfl rfl (.eq (cY _) aG) (.pt rfl rfl (.eq (eI _) aG) (.pt rfl rfl (.eq rfl (by simp[yY])) (.nil _)))))
theorem Hn(l:List Obj)(ops:List bi)(ps:List aT)(L:List Nat)(Q:List Int)(ds:List Dt)(n:Nat)(R:Mem):dV (sg [0,1,2,3,4,5] n) (kB l ops ps::fm:: .mp (L.map fh):: .mp (Q.map lm)::yY:: .var (ds.map .aa)::R) (fun k=>bz [] k=true) 0 (Rs l ops ps L Q++ [.var (ds.map .aa)]):=
 .pt rfl rfl (.eq rfl (by simp[kB])) (.pt rfl rfl (.eq rfl (by simp[fm])) (.pt rfl rfl (.eq (cY _) aG) (.pt rfl rfl (.eq (eI _) aG) (.pt rfl rfl (.eq rfl (by simp[yY])) (.pt rfl rfl (.jn rfl) (.nil _))))))
structure Ye where
 i:Nat
 Q:List Int
def FU(l:List Obj)(ops:List bi)(ps:List aT)(L:List Nat)(K:Ex->St->Prop):Prop:=
 ∀Q,uL l ps L Q->TH (pj L l) (oK Q ops) (xD (pj L l) ps) (A0 (pj L l) ps ps.length) K
theorem t59(l:List Obj)(ops:List bi)(ps:List aT)(g:∀o,o∈l->o.sm)(hl:l.length<=4194304)(ho:ops.length<=4194304)(fW:ps.length<=4194304)(L:List Nat)(K:Ex->St->Prop)(hK:FU l ops ps L K)(Q:List Int)(hQ:QI (T1 ps ps.length 0) Q):
  aw Tryz.prog 0 X59 (pM (aw Tryz.prog 0 T89) K) ⟨iL 284 [(1,p0 0),(2,p0 1),(3,ax false),(4,.rv (.one (.map 2))),(5,p0 4),(6,.rv (.one (.fn 25 [4])))],Rs l ops ps L Q⟩:=by
 refine aK (fun a:Ye=>a.i<=l.length/\QI (T2 l ps L a.i 0) a.Q) [1,2,3,4,5,6,60,61] (fun a=>[(62,an .i64 (a.i:Nat))]) (fun a=>Rs l ops ps L a.Q) (fun a=>l.length-a.i) ⟨0,Q⟩ ⟨Wi _,hQ.dn Qd⟩ ?_ (fun a hJ=>?_)
 .refine View.o 5 [0,1,2,3,4] [] ?_ (xE l ops ps L Q 5 []);repeat(first|exact .nil|refine .aq ?_|refine .eq rfl ?_)
 clear hQ;obtain⟨i,Q⟩:=a;obtain⟨hi,hQ⟩:=hJ;have hi:i<=l.length:=hi;have hQ:QI (T2 l ps L i 0) Q:=hQ;refine ay (fun h=>?_) (fun h=>?_)
 .have aB:i<l.length:=by have h:(i:Int)<((l.map Obj.enc).length:Int):=h;rw[Nq]at h;omega
  have L8:=IE aB;have u9:=g _ (Z0 aB);have hg:=oZ aB;generalize l[i]=o at L8 u9 hg;obtain⟨ah,data,ak,target,aD,aj,aM,am,up⟩:=o;have Il:aj.length<=8:=u9.q;refine ag hg ?_;refine aK (fun a:Ye=>a.i<=aj.length/\QI (T2 l ps L i a.i) a.Q) [1,2,3,4,5,6,11,60,61,62,70,71] (fun a=>[(72,an .i64 (a.i:Nat))]) (fun a=>Rs l ops ps L a.Q) (fun a=>aj.length-a.i) ⟨0,Q⟩ ⟨Wi _,hQ⟩ ?_ (fun a hJ=>?_)
  .refine View.o 5 [0,1,2,3,4] [] ?_ (xE l ops ps L Q 5 []);repeat(first|exact .nil|refine .aq ?_|refine .eq rfl ?_)
  clear hQ;obtain⟨k,Q⟩:=a;obtain⟨hk,hQ⟩:=hJ;have hk:k<=aj.length:=hk;have hQ:QI (T2 l ps L i k) Q:=hQ;refine ay (fun fj=>?_) (fun fj=>?_)
  .have rb:k<aj.length:=by have h:(k:Int)<((aj.map bw.enc).length:Int):=fj;rw[Nq]at h;omega
   have P8:=IE rb;have pz:cR (aj.map bw.enc) (k:Nat)=some (aj[k].enc):=by rw[bn,Q8,P8];rfl
   generalize aj[k]=ms at P8 pz;have ua:=Qe (ps:=ps) (L:=L) L8 P8;obtain⟨mdata,has,dk,bZ⟩:=ms;refine ag (x:=[.sl 1 mdata,.val (.bool has),.val (.int .i64 dk),.val (.int .i64 bZ)]) pz ?_;refine ag (o7 (i:Int) L) ?_;cases hn:sO L (i:Int)with
   |false=>
    have C9:i∉L:=fun h=>by rw[ix.2 h]at hn;cases hn
    refine⟨⟨k+1,Q⟩,⟨rb,hQ.dn fun z=>by rw[ua z];exact⟨fun h=>h.elim id fun h=>absurd h.1 C9,.inl⟩⟩,(show aj.length-(k+1)<aj.length-k by omega),View.o 6 [0,1,2,3,4] [] ?_ (xE l ops ps L Q 6 _)⟩
    repeat(first|exact .nil|refine .aq ?_|refine .put (.aO (ap om).symm) ?_|refine .eq rfl ?_)
   |true=>
    have zp:i∈L:=ix.1 hn;refine aC (fun hh=>?_) (fun hh=>?_)
    .refine Hm (kB l ops ps) fm (.mp (L.map fh)) dk bZ Q [.var [.aa (.sl 1 mdata),.aa (.val (.bool has)),.aa (.val (.int .i64 dk)),.aa (.val (.int .i64 bZ))]] ?_;refine⟨⟨k+1,nK dk Q⟩,⟨rb,hQ.add fun z=>by rw[ua z];exact⟨fun h=>h.elim .inl fun h=>.inr h.2.2,fun h=>h.elim .inl fun h=>.inr ⟨zp,hh,h⟩⟩⟩,(show aj.length-(k+1)<aj.length-k by omega),View.o 6 [0,1,2,3,4] [] ?_ (xE l ops ps L (nK dk Q) 6 _)⟩
     repeat(first|exact .nil|refine .aq ?_|refine .put (.aO (ap om).symm) ?_|refine .eq rfl ?_)
    .refine⟨⟨k+1,Q⟩,⟨rb,hQ.dn fun z=>by rw[ua z];exact⟨fun h=>h.elim id fun h=>absurd h.2.1 (by rw[show has=false from hh];simp),.inl⟩⟩,(show aj.length-(k+1)<aj.length-k by omega),View.o 6 [0,1,2,3,4] [] ?_ (xE l ops ps L Q 6 _)⟩
     repeat(first|exact .nil|refine .aq ?_|refine .put (.aO (ap om).symm) ?_|refine .eq rfl ?_)
  .have uj:k=aj.length:=by have h:¬(k:Int)<((aj.map bw.enc).length:Int):=fj;rw[Nq]at h;omega
   subst uj;refine⟨⟨i+1,Q⟩,⟨aB,hQ.dn fun z=>Qf L8 z⟩,(show l.length-(i+1)<l.length-i by omega),View.o 5 [0,1,2,3,4] [] ?_ (xE l ops ps L Q 5 [])⟩
   repeat(first|exact .nil|refine .aq ?_|refine .put (.aO (ap om).symm) ?_|refine .eq rfl ?_)
 .have gX:i=l.length:=by have h:¬(i:Int)<((l.map Obj.enc).length:Int):=h;rw[Nq]at h;omega
  subst gX;refine⟨_,View.trans (View.Sf 5 0 9 6 rfl rfl rfl rfl) (View.o1 7 [0,1,2,3,4,5,6] [] ?_),t90 l ops ps hl ho fW L Q K (hK Q hQ)⟩
  .exact .pt rfl rfl (.eq rfl (by simp[kB])) (.pt rfl rfl (.eq rfl (by simp[fm])) (.pt rfl rfl (.eq (cY _) aG) (.pt rfl rfl (.eq (eI _) aG) (.pt rfl rfl (.eq rfl (by simp[yY])) (.pt rfl rfl (.eq rfl (by simp[rM])) (.pn rfl rfl rfl))))))
theorem t33(l:List Obj)(ops:List bi)(ps:List aT)(g:∀o,o∈l->o.sm)(hl:l.length<=4194304)(ho:ops.length<=4194304)(fW:ps.length<=4194304)(mJ:∀p,p∈ps->p.aJ.length<=4194304)(L:List Nat)(K:Ex->St->Prop)(hK:FU l ops ps L K):
  aw Tryz.prog 0 X33 (pM (aw Tryz.prog 0 T59) K) ⟨iL 284 [(1,p0 0),(2,p0 1),(3,ax false),(4,.rv (.one (.map 2))),(5,p0 4),(6,.rv (.one (.fn 25 [4])))],Rs l ops ps L []⟩:=by
 refine aK (fun a:Ye=>a.i<=ps.length/\QI (T1 ps a.i 0) a.Q) [1,2,3,4,5,6,34,35] (fun a=>[(36,an .i64 (a.i:Nat))]) (fun a=>Rs l ops ps L a.Q) (fun a=>ps.length-a.i) ⟨0,[]⟩ ⟨Wi _,fun z=>⟨(fun h=>by cases h),fun h=>absurd h Qa⟩⟩ ?_ (fun a hJ=>?_)
 .refine View.o 5 [0,1,2,3,4] [] ?_ (xE l ops ps L [] 5 []);repeat(first|exact .nil|refine .aq ?_|refine .eq rfl ?_)
 obtain⟨p,Q⟩:=a;obtain⟨hp,hQ⟩:=hJ;have hp:p<=ps.length:=hp;have hQ:QI (T1 ps p 0) Q:=hQ;refine ay (fun h=>?_) (fun h=>?_)
 .have ft:p<ps.length:=by have h:(p:Int)<((ps.map aT.enc).length:Int):=h;rw[Nq]at h;omega
  have nD:=IE ft;have uD:=mJ _ (Z0 ft);have hg:=(by rw[bn,Q8,nD];rfl:cR (ps.map aT.enc) (p:Nat)=some (ps[p].enc))
  generalize ps[p]=pr at nD hg uD;obtain⟨aQ,fenced,code,aJ⟩:=pr;have uD:aJ.length<=4194304:=uD;refine ag (x:=[.val (.bool aQ),.val (.bool fenced),.val (.int .i64 code),iu aJ]) hg ?_;refine aK (fun a:Ye=>a.i<=aJ.length/\QI (T1 ps p a.i) a.Q) [1,2,3,4,5,6,8,34,35,36,41,42] (fun a=>[(43,an .i64 (a.i:Nat))]) (fun a=>Rs l ops ps L a.Q++ [.var ([Dt.val (.bool aQ),.val (.bool fenced),.val (.int .i64 code),iu aJ].map .aa)]) (fun a=>aJ.length-a.i) ⟨0,Q⟩
   ⟨Wi _,hQ⟩ ?_ (fun a hJ=>?_)
  .refine View.o 6 [0,1,2,3,4,5] [] ?_ (Hn l ops ps L Q [.val (.bool aQ),.val (.bool fenced),.val (.int .i64 code),iu aJ] 6 []);repeat(first|exact .nil|refine .aq ?_|refine .eq rfl ?_)
  clear hQ;obtain⟨j,Q⟩:=a;obtain⟨hj,hQ⟩:=hJ;have hj:j<=aJ.length:=hj;have hQ:QI (T1 ps p j) Q:=hQ;refine ay (fun km=>?_) (fun km=>?_)
  .have da:j<aJ.length:=by have h:(j:Int)<((aJ.map fz.enc).length:Int):=km;rw[Nq]at h;omega
   have hs:=IE da;have pz:cR (aJ.map fz.enc) (j:Nat)=some (aJ[j].enc):=by rw[bn,Q8,hs];rfl
   generalize aJ[j]=s at hs pz;have ua:=Qb nD hs;obtain⟨has,dk,bZ⟩:=s;refine ag (x:=[.val (.bool has),.val (.int .i64 dk),.val (.int .i64 bZ)]) pz ?_;have skip:¬(aQ=true/\has=true)->QI (T1 ps p (j+1)) Q:=fun hn=>hQ.dn fun z=>by rw[ua z];exact⟨fun h=>h.elim id fun h=>absurd ⟨h.1,h.2.1⟩ hn,.inl⟩
   refine aC (fun cX=>?_) (fun cX=>?_)
   .refine aC (fun hh=>?_) (fun hh=>?_)
    .refine Hm (kB l ops ps) fm (.mp (L.map fh)) dk bZ Q [.var [.aa (.val (.bool aQ)),.aa (.val (.bool fenced)),.aa (.val (.int .i64 code)),.aa (iu aJ)],.var [.aa (.val (.bool has)),.aa (.val (.int .i64 dk)),.aa (.val (.int .i64 bZ))]] ?_;refine⟨⟨j+1,nK dk Q⟩,⟨da,hQ.add fun z=>by rw[ua z];exact⟨fun h=>h.elim .inl fun h=>.inr h.2.2,fun h=>h.elim .inl fun h=>.inr ⟨cX,hh,h⟩⟩⟩,(show aJ.length-(j+1)<aJ.length-j by omega),View.o 7 [0,1,2,3,4,5] [] ?_ (Hn l ops ps L (nK dk Q) [.val (.bool aQ),.val (.bool fenced),.val (.int .i64 code),iu aJ] 7 _)⟩
     repeat(first|exact .nil|refine .aq ?_|refine .put (.aO (ap om).symm) ?_|refine .eq rfl ?_)
    .refine⟨⟨j+1,Q⟩,⟨da,skip fun h=>by rw[h.2]at hh;cases hh⟩,(show aJ.length-(j+1)<aJ.length-j by omega),View.o 7 [0,1,2,3,4,5] [] ?_ (Hn l ops ps L Q [.val (.bool aQ),.val (.bool fenced),.val (.int .i64 code),iu aJ] 7 _)⟩
     repeat(first|exact .nil|refine .aq ?_|refine .put (.aO (ap om).symm) ?_|refine .eq rfl ?_)
   .refine⟨⟨j+1,Q⟩,⟨da,skip fun h=>by rw[h.1]at cX;cases cX⟩,(show aJ.length-(j+1)<aJ.length-j by omega),View.o 7 [0,1,2,3,4,5] [] ?_ (Hn l ops ps L Q [.val (.bool aQ),.val (.bool fenced),.val (.int .i64 code),iu aJ] 7 _)⟩
    repeat(first|exact .nil|refine .aq ?_|refine .put (.aO (ap om).symm) ?_|refine .eq rfl ?_)
  .have Ge:j=aJ.length:=by have h:¬(j:Int)<((aJ.map fz.enc).length:Int):=km;rw[Nq]at h;omega
   subst Ge;refine⟨⟨p+1,Q⟩,⟨ft,hQ.dn fun z=>Qc nD z⟩,(show ps.length-(p+1)<ps.length-p by omega),View.o 6 [0,1,2,3,4] [] ?_ (xE l ops ps L Q 6 _)⟩
   repeat(first|exact .nil|refine .aq ?_|refine .put (.aO (ap om).symm) ?_|refine .eq rfl ?_)
 .have ue:p=ps.length:=by have h:¬(p:Int)<((ps.map aT.enc).length:Int):=h;rw[Nq]at h;omega
  subst ue;refine⟨_,View.o 5 [0,1,2,3,4] [] ?_ (xE l ops ps L Q 5 []),t59 l ops ps g hl ho fW L K hK Q hQ⟩;repeat(first|exact .nil|refine .aq ?_|refine .eq rfl ?_)
theorem JK:eQ.sm:=⟨⟨⟨[],rfl⟩,⟨[],rfl⟩,fun q hq=>by simp[eQ]at hq⟩,by simp[eQ],by simp[eQ],by simp[eQ],fun q hq=>by simp[eQ]at hq⟩
def gV(ps:List aT):Nat:=(ps.filter fun p=>p.aQ).length
theorem y0:∀(a b:List aT),b.length=a.length->(∀(t:Nat)x y,a[t]? =some x->b[t]? =some y->y.aQ=true->x.aQ=true)->gV b<=gV a/\((∃(t:Nat)(x y:aT),a[t]? =some x/\b[t]? =some y/\x.aQ=true/\y.aQ=false)->gV b<gV a)
 | [],[],_,_=>⟨SS _,fun⟨t,x,y,h,_⟩=>by simp at h⟩
 | [],_::_,h,_=>by simp at h
 |_::_,[],h,_=>by simp at h
 |x::a,y::b,h,hm=>by
  obtain⟨VX,Zt⟩:=y0 a b (by simpa using h) (fun t u v hu hv=>hm (t+1) u v (by simpa using hu) (by simpa using hv))
  have h0:=hm 0 x y aG aG;refine⟨?_,fun⟨t,u,v,hu,hv,VY,uB⟩=>?_⟩
  .unfold gV at VX⊢;cases hx:x.aQ<;>cases hy:y.aQ<;>simp[hx,hy]at h0⊢<;>omega
  .cases t with
   |zero=>
    simp at hu hv;subst hu hv;unfold gV at VX⊢;simp[VY,uB];omega
   |succ t=>
    have:=Zt ⟨t,u,v,by simpa using hu,by simpa using hv,VY,uB⟩
    unfold gV at this⊢;cases hx:x.aQ<;>cases hy:y.aQ<;>simp[hx,hy]at h0⊢<;>omega
structure Kx where
 l:List Obj
 ops:List bi
 ps:List aT
structure AF(k:Kx):Prop where
 g:∀o,o∈k.l->o.sm
 hl:k.l.length<=4194304
 ho:k.ops.length<=4194304
 hp:k.ps.length<=4194304
 hs:∀p,p∈k.ps->p.aJ.length<=4194304
structure rN(k k':Kx)(bO:Bool):Prop where
 ex:∃L Q,gk k.l k.ops k.ps L/\uL k.l k.ps L Q/\k'.l=pj L k.l/\k'.ops=oK Q k.ops
 ps:k'.ps=xD k'.l k.ps
 mo:bO=A0 k'.l k.ps k.ps.length
inductive TI(k:Kx):Kx->Prop
 |refl:TI k k
 |step {a b:Kx} (h:TI k a) (s:rN a b true):TI k b
theorem TJ{L:List Nat}{i:Nat}{o:Obj}(h:o.sm):(yZ L i o).sm:=by
 unfold yZ;split
 .exact JK
 .split
  .exact⟨h.t,h.d,h.e,h.q,h.qd⟩
  .exact h
theorem k7{α β:Type}{f:Nat->α->β}{l:List α}{y:β}(h:y∈l.mapIdx f):∃i x,l[i]? =some x/\y=f i x:=by
 obtain⟨i,hi⟩:=List.mem_iff_getElem?.1 h;rw[abD]at hi;cases hx:l[i]? with
 |none=>rw[hx]at hi;cases hi
 |some x=>
  rw[hx]at hi;exact⟨i,x,hx,(ac3 hi).symm⟩
theorem rN.sz{a b:Kx}{m:Bool}(s:rN a b m)(h:AF a):AF b:=by
 obtain⟨⟨L,Q,_,_,e1,e2⟩,e3,_⟩:=s;refine⟨fun o ho=>?_,?_,?_,?_,fun p hp=>?_⟩
 .rw[e1]at ho;obtain⟨i,x,hx,rfl⟩:=k7 ho;exact TJ (h.g x (Rq hx))
 .rw[e1,pj,abQ];exact h.hl
 .rw[e2,oK,abQ];exact h.ho
 .rw[e3,xD,abQ];exact h.hp
 .rw[e3]at hp;obtain⟨i,x,hx,rfl⟩:=k7 hp;unfold NM;split
  .exact Wi _
  .exact h.hs x (Rq hx)
theorem CY{l':List Obj}{ps:List aT}:∀k,A0 l' ps k=true->∃t p,ps[t]? =some p/\FT l' t p=true
 |0,h=>by cases h
 |k+1,h=>by
  simp only[A0,abZ]at h;rcases h with h|h
  .cases hp:ps[k]? with
   |none=>rw[hp]at h;cases h
   |some p=>rw[hp]at h;exact⟨k,p,hp,h⟩
  .exact CY k h
theorem NO{l':List Obj}{t:Nat}{p:aT}(h:FT l' t p=true):p.aQ=true:=by simp only[FT,ZM]at h;exact h.2.1
theorem rN.Xo{a b:Kx}(s:rN a b true):gV b.ps<gV a.ps:=by
 obtain⟨_,e3,e4⟩:=s;obtain⟨t,p,hp,hb⟩:=CY _ e4.symm;have Da:∀(i:Nat)(x:aT),a.ps[i]? =some x->b.ps[i]? =some (NM b.l i x):=fun i x hx=>by rw[e3,xD,abD,hx];rfl
 refine(y0 a.ps b.ps (by rw[e3,xD,abQ]) fun i x y hx hy hl=>?_).2 ⟨t,p,eR,hp,?_,NO hb,rfl⟩
 .rw[Da i x hx]at hy;cases hy;unfold NM at hl;split at hl
  .cases hl
  .exact hl
 .rw[Da t p hp,NM,hb];rfl
def iP(k:Kx):Mem:=[rM (.row 2 9 0 none) (.row 3 2 0 none) (.row 4 4 0 none),fm,.row 9 (af (k.l.map Obj.enc)),.row 2 (af (k.ops.map bi.enc)),.row 4 (af (k.ps.map aT.enc))]
theorem aa3(k:Kx)(h:AF k)(K:Ex->St->Prop)(hK:∀L,gk k.l k.ops k.ps L->FU k.l k.ops k.ps L K):
  aw Tryz.prog 0 B21 K ⟨iL 284 [(1,p0 0),(2,p0 1),(3,ax true),(28,ax true)],[kB k.l k.ops k.ps,fm]⟩:=by
 refine JI k.l k.ops k.ps h.g h.hl h.hp h.hs fun L hL=>?_
 refine⟨_,View.o 5 [0,1,2,3,4] [] ?_ (xE k.l k.ops k.ps L [] 5 []),t33 k.l k.ops k.ps h.g h.hl h.ho h.hp h.hs L K (hK L hL)⟩;repeat(first|exact .nil|refine .aq ?_|refine .eq rfl ?_)
theorem aa4(k:Kx):dV (sg [0,1] 5) (iP k) (fun i=>bz [2,3,4] i=true) 0 [kB k.l k.ops k.ps,fm]:=by
 refine .pt rfl rfl (eP.var (.cons (.e8 ?_) (.cons (.e8 ?_) (.cons (.e8 ?_) .nil)))) (.pt rfl rfl (.eq rfl (by simp[fm])) (.nil _))
 .exact dC.dJ (Z:=fun i=>bz [2,3,4] i=true) (m:=iP k) (id:=2) (esz:=9) (ds:=k.l.map Obj.enc) rfl rfl 0 none
 .exact dC.dJ (Z:=fun i=>bz [2,3,4] i=true) (m:=iP k) (id:=3) (esz:=2) (ds:=k.ops.map bi.enc) rfl rfl 0 none
 .exact dC.dJ (Z:=fun i=>bz [2,3,4] i=true) (m:=iP k) (id:=4) (esz:=4) (ds:=k.ps.map aT.enc) rfl rfl 0 none
def aa5(k:Kx)(K:Ex->St->Prop):Prop:=
 ∀e m,View 0 ⟨e,m⟩ ⟨iL 284 [(1,p0 0),(2,p0 1)],iP k⟩->K .normal ⟨e,m⟩
def CZ(k b:Kx):Prop:=∃a,TI k a/\rN a b false
def G21:LC:=pY (bv c12.code)
structure StO where
 k:Kx
 bO:Bool
def hdM(a:StO):Mem:=match a.bO with
 |true=>[kB a.k.l a.k.ops a.k.ps,fm]
 |false=>iP a.k
def Xp:LC:=bv (bv c12.code)
def U22:LC:=bv Xp
def Xq:LC:=bv U22
def Qg:LC:=bv Xq
def TK:LC:=bv Qg
def TL:LC:=bv TK
def aa6:LC:=lX (pY Xp)
def Xr:LC:=lX (pY Xq)
def aa7:LC:=lX (pY Qg)
def aa8:LC:=lX (pY TK)
def aa9:LC:=lX (pY TL)
def dy(n len:Nat):Nat:=if(len:Int)<(n:Int)then len else n
theorem tf(n len:Nat):dy n len<=len:=by unfold dy;split<;>omega
theorem wR(n len:Nat):(if(len:Int)<(n:Int)then(len:Int)else(n:Int))=((dy n len:Nat):Int):=by unfold dy;split<;>rfl
def JL(b:Kx)(n o p:Nat):CV:=cP (b.l.take (dy n b.l.length)) (b.ops.take o) (b.ps.take (dy p b.ps.length))
def JM(Q:CV->Prop):Ex->St->Prop:=mg Tryz.prog c12.kD fun r m=>∃c,Q c/\cJ m r c
theorem NP(b:Kx)(n o p:Nat){m:Mem}(h2:m[2]? =some (.row 9 (af (b.l.map Obj.enc))))(h3:m[3]? =some (.row 2 (af (b.ops.map bi.enc))))(h4:m[4]? =some (.row 4 (af (b.ps.map aT.enc)))):
  cJ m (.rv (.agg [.row 2 9 0 (some (dy n b.l.length)),.row 3 2 0 (some o),.row 4 4 0 (some (dy p b.ps.length))])) (JL b n o p):=by
 have e2:=d9.dJ h2 0 (some (dy n b.l.length));have e3:=d9.dJ h3 0 (some o);have e4:=d9.dJ h4 0 (some (dy p b.ps.length));rw[show cD (b.l.map Obj.enc) 0 (some (dy n b.l.length))=(b.l.take (dy n b.l.length)).map Obj.enc from List.map_take.symm]at e2;rw[show cD (b.ops.map bi.enc) 0 (some o)=(b.ops.take o).map bi.enc from List.map_take.symm]at e3;rw[show cD (b.ps.map aT.enc) 0 (some (dy p b.ps.length))=(b.ps.take (dy p b.ps.length)).map aT.enc from List.map_take.symm]at e4;refine .rv (.agg rfl fun i c c' h h'=>?_)
 match i,h,h' with
 |0,h,h'=>cases h;cases h';exact e2
 |1,h,h'=>cases h;cases h';exact e3
 |2,h,h'=>cases h;cases h';exact e4
 |k+3,h,h'=>simp at h
def eN(n o p:Nat):List CV:=iL 284 [(1,p0 0),(2,p0 1),(22,an .i64 (n:Nat)),(23,an .i64 (o:Nat)),(24,an .i64 (p:Nat))]
theorem aba(b:Kx)(n o p:Nat)(ho:o<=b.ops.length)(Q:CV->Prop)(hQ:Q (JL b n o p)):
  aw Tryz.prog 0 aa9 (pM (aw Tryz.prog 0 (bv TL)) (JM Q)) ⟨eN n o p,iP b⟩:=by
 have hlO:(af (b.l.map Obj.enc)).length=b.l.length:=by rw[aU,Nq]
 have hlP:(af (b.ps.map aT.enc)).length=b.ps.length:=by rw[aU,Nq]
 have hlQ:(af (b.ops.map bi.enc)).length=b.ops.length:=by rw[aU,Nq]
 have nO:nR (an .i64 (if(((af (b.l.map Obj.enc)).length:Nat):Int)<(n:Int)then(((af (b.l.map Obj.enc)).length:Nat):Int)else(n:Int)))=some (dy n b.l.length):=by rw[hlO,wR];rfl
 have nP:nR (an .i64 (if(((af (b.ps.map aT.enc)).length:Nat):Int)<(p:Int)then(((af (b.ps.map aT.enc)).length:Nat):Int)else(p:Int)))=some (dy p b.ps.length):=by rw[hlP,wR];rfl
 have Xs:(Nat.ble 0 o&&Nat.ble o ((af (b.ops.map bi.enc)).length-0))=true:=by simp[abr,hlQ];omega
 have Wk:(Nat.ble 0 (dy n b.l.length)&&Nat.ble (dy n b.l.length) ((af (b.l.map Obj.enc)).length-0))=true:=by simp[abr,hlO];exact tf _ _
 have hPb:(Nat.ble 0 (dy p b.ps.length)&&Nat.ble (dy p b.ps.length) ((af (b.ps.map aT.enc)).length-0))=true:=by simp[abr,hlP];exact tf _ _
 refine bY Xs ?_;refine⟨?_,?_⟩
 .refine⟨⟨rfl,rfl,rfl,bY Xs rfl,rfl,rfl,trivial⟩,?_⟩;refine ag nO ?_;refine bY Wk ?_;refine⟨⟨ag nO (bY Wk rfl),rfl,bY Xs rfl,rfl,rfl,rfl,rfl,trivial⟩,?_⟩;refine ag nP ?_;refine bY hPb ?_;refine⟨trivial,?_⟩;refine⟨_,hQ,?_⟩;exact NP b n o p rfl rfl rfl
 .refine⟨⟨rfl,bY Xs rfl,rfl,rfl,rfl,rfl,trivial⟩,?_⟩;refine ag nP ?_;refine bY hPb ?_;refine⟨⟨ag nP (bY hPb rfl),rfl,rfl,rfl,bY Xs rfl,rfl,rfl,trivial⟩,?_⟩;refine ag nO ?_;refine bY Wk ?_;refine⟨trivial,?_⟩;refine⟨_,hQ,?_⟩;exact NP b n o p rfl rfl rfl
theorem wS{α:Type}{f:α->List Dt}{l:List α}{n:Nat}(h:n<l.length):dH (n:Int) (lenOf (af (l.map f)).length 0 none)=some n:=cn (by show n<(af (l.map f)).length;rw[aU,Nq];exact h)
theorem Ho{α:Type}{f:α->List Dt}{l:List α}{k:Nat}(h:(k:Int)<(((af (l.map f)).length:Nat):Int)):k<l.length:=by rw[aU,Nq]at h;omega
theorem Hp{α:Type}{f:α->List Dt}{l:List α}{k:Nat}(h:¬(k:Int)<(((af (l.map f)).length:Nat):Int)):l.length<=k:=by rw[aU,Nq]at h;omega
def fA{α:Type}(f:Nat->Nat->α->Nat)(n0:Nat)(xs:List α):Nat->Nat
 |0=>n0
 |k+1=>match xs[k]? with
  |some x=>f (fA f n0 xs k) k x
  |none=>fA f n0 xs k
theorem pa{α:Type}{f:Nat->Nat->α->Nat}{n0:Nat}{xs:List α}{k:Nat}(h:k<xs.length):fA f n0 xs (k+1)=f (fA f n0 xs k) k xs[k]:=by rw[fA,IE h]
def nF(n i:Nat)(o:Obj):Nat:=if o.ah≠0/\n<=i then i+1 else n
def oF(n i:Nat)(o:bi):Nat:=if 0<=o.bD then i+1 else n
def N9(l:List Obj)(i:Nat)(p:aT):Bool:=decide (0<i)&&(p.aQ||l.any (cH (i:Nat)))
def pF(l:List Obj)(n i:Nat)(p:aT):Nat:=if N9 l i p=true then i+1 else n
theorem Xt{n i:Nat}{o:bi}(h:n<=i):oF n i o<=i+1:=by unfold oF;split<;>omega
theorem AG(xs:List bi):∀k,fA oF 0 xs k<=k
 |0=>SS 0
 |k+1=>by
  have ih:=AG xs k;rw[fA];split
  .exact Xt ih
  .omega
theorem gz(b:Kx)(n:Nat)(R:Mem):dV (sg [0,1,2,3,4] n) (rM (.row 2 9 0 none) (.row 3 2 0 none) (.row 4 4 0 none)::fm:: .row 9 (af (b.l.map Obj.enc)):: .row 2 (af (b.ops.map bi.enc)):: .row 4 (af (b.ps.map aT.enc))::R) (fun k=>bz [] k=true) 0 (iP b):=
 .pt rfl rfl (.eq rfl (by simp[rM])) (.pt rfl rfl (.eq rfl (by simp[fm])) (.pr rfl rfl rfl (.pr rfl rfl rfl (.pn rfl rfl rfl))))
theorem abc(b:Kx)(hb:AF b)(n o:Nat)(ho:o<=b.ops.length)(Q:CV->Prop)(hQ:Q (JL b n o (fA (pF b.l) 1 b.ps b.ps.length))):
  aw Tryz.prog 0 aa8 (pM (aw Tryz.prog 0 TL) (JM Q)) ⟨eN n o 1,iP b⟩:=by
 have fW:=hb.hp;refine aK (fun i=>i<=b.ps.length) [1,2,22,23,240] (fun i=>[(24,an .i64 (fA (pF b.l) 1 b.ps i:Nat)),(241,an .i64 (i:Nat))]) (fun _=>iP b) (fun i=>b.ps.length-i) 0 (Wi _) ?_ (fun i hi=>?_)
 .refine View.o 5 [0,1,2,3,4] [] ?_ (gz b 5 []);repeat(first|exact .nil|refine .aq ?_|refine .eq rfl ?_)
 have hi:i<=b.ps.length:=hi;refine ay (fun h=>?_) (fun h=>?_)
 .have aB:i<b.ps.length:=Ho h;have hs:=pa (f:=pF b.l) (n0:=1) aB;have yes:N9 b.l i b.ps[i]=true->fA (pF b.l) 1 b.ps (i+1)=i+1:=fun hk=>by rw[hs,pF,hk];rfl
  have no:N9 b.l i b.ps[i]=false->fA (pF b.l) 1 b.ps (i+1)=fA (pF b.l) 1 b.ps i:=fun hk=>by rw[hs,pF,hk];rfl
  have hm:b.ps.length-(i+1)<b.ps.length-i:=om;refine ay (fun h0=>?_) (fun h0=>?_)
  .have h0:0<i:=by have h0:(i:Int)>0:=h0;omega
   refine ag (wS aB) ?_;refine ag (bA aT.enc b.ps aB) ?_;refine aC (fun cX=>?_) (fun cX=>?_)
   .refine⟨i+1,aB,hm,View.o 5 [0,1,2,3,4] [] ?_ (gz b 5 [])⟩;rw[yes (by unfold N9;rw[cX,decide_eq_true h0];rfl)]
    repeat(first|exact .nil|refine .aq ?_|refine .put (.aO (ap om).symm) ?_|refine .eq rfl ?_)
   .refine te b.l hb.hl (i:Nat) (id:=2) rfl ?_;refine aC (fun hh=>?_) (fun hh=>?_)
    .refine⟨i+1,aB,hm,View.o 5 [0,1,2,3,4] [] ?_ (gz b 5 [])⟩;rw[yes (by unfold N9;rw[cX,decide_eq_true h0,hh];rfl)]
     repeat(first|exact .nil|refine .aq ?_|refine .put (.aO (ap om).symm) ?_|refine .eq rfl ?_)
    .refine⟨i+1,aB,hm,View.o 5 [0,1,2,3,4] [] ?_ (gz b 5 [])⟩;rw[no (by unfold N9;rw[cX,decide_eq_true h0,hh];rfl)]
     repeat(first|exact .nil|refine .aq ?_|refine .put (.aO (ap om).symm) ?_|refine .eq rfl ?_)
  .have h0:¬0<i:=by have h0:¬(i:Int)>0:=h0;omega
   refine⟨i+1,aB,hm,View.o 5 [0,1,2,3,4] [] ?_ (gz b 5 [])⟩;rw[no (by unfold N9;rw[decide_eq_false h0];rfl)]
   repeat(first|exact .nil|refine .aq ?_|refine .put (.aO (ap om).symm) ?_|refine .eq rfl ?_)
 .have h9:=Hp h;have gX:i=b.ps.length:=om;subst gX;refine⟨_,View.o 5 [0,1,2,3,4] [] ?_ (gz b 5 []),aba b n o _ ho Q hQ⟩;repeat(first|exact .nil|refine .aq ?_|refine .eq rfl ?_)
theorem abd(b:Kx)(hb:AF b)(n:Nat)(Q:CV->Prop)(hQ:Q (JL b n (fA oF 0 b.ops b.ops.length) (fA (pF b.l) 1 b.ps b.ps.length))):
  aw Tryz.prog 0 aa7 (pM (aw Tryz.prog 0 TK) (JM Q)) ⟨eN n 0 1,iP b⟩:=by
 have zt:=hb.ho;refine aK (fun i=>i<=b.ops.length) [1,2,22,24,224] (fun i=>[(23,an .i64 (fA oF 0 b.ops i:Nat)),(225,an .i64 (i:Nat))]) (fun _=>iP b) (fun i=>b.ops.length-i) 0 (Wi _) ?_ (fun i hi=>?_)
 .refine View.o 5 [0,1,2,3,4] [] ?_ (gz b 5 []);repeat(first|exact .nil|refine .aq ?_|refine .eq rfl ?_)
 have hi:i<=b.ops.length:=hi;refine ay (fun h=>?_) (fun h=>?_)
 .have aB:i<b.ops.length:=Ho h;have hs:=pa (f:=oF) (n0:=0) aB;have hm:b.ops.length-(i+1)<b.ops.length-i:=om;refine ag (wS aB) ?_;refine ag (bA bi.enc b.ops aB) ?_;refine ay (fun h0=>?_) (fun h0=>?_)
  .refine⟨i+1,aB,hm,View.o 5 [0,1,2,3,4] [] ?_ (gz b 5 [])⟩;rw[show fA oF 0 b.ops (i+1)=i+1 from by rw[hs,oF,if_pos h0]]
   repeat(first|exact .nil|refine .aq ?_|refine .put (.aO (ap om).symm) ?_|refine .eq rfl ?_)
  .refine⟨i+1,aB,hm,View.o 5 [0,1,2,3,4] [] ?_ (gz b 5 [])⟩;rw[show fA oF 0 b.ops (i+1)=fA oF 0 b.ops i from by rw[hs,oF,if_neg h0]]
   repeat(first|exact .nil|refine .aq ?_|refine .put (.aO (ap om).symm) ?_|refine .eq rfl ?_)
 .have h9:=Hp h;have gX:i=b.ops.length:=om;subst gX;refine⟨_,View.o 5 [0,1,2,3,4] [] ?_ (gz b 5 []),abc b hb n _ (AG _ _) Q hQ⟩;repeat(first|exact .nil|refine .aq ?_|refine .eq rfl ?_)
theorem abe(b:Kx)(hb:AF b)(Q:CV->Prop)(hQ:Q (JL b (fA nF 1 b.l b.l.length) (fA oF 0 b.ops b.ops.length) (fA (pF b.l) 1 b.ps b.ps.length))):
  aw Tryz.prog 0 Xr (pM (aw Tryz.prog 0 Qg) (JM Q)) ⟨eN 1 0 1,iP b⟩:=by
 have zt:=hb.hl;refine aK (fun i=>i<=b.l.length) [1,2,23,24,203] (fun i=>[(22,an .i64 (fA nF 1 b.l i:Nat)),(204,an .i64 (i:Nat))]) (fun _=>iP b) (fun i=>b.l.length-i) 0 (Wi _) ?_ (fun i hi=>?_)
 .refine View.o 5 [0,1,2,3,4] [] ?_ (gz b 5 []);repeat(first|exact .nil|refine .aq ?_|refine .eq rfl ?_)
 have hi:i<=b.l.length:=hi;refine ay (fun h=>?_) (fun h=>?_)
 .have aB:i<b.l.length:=Ho h;have hs:=pa (f:=nF) (n0:=1) aB;have hm:b.l.length-(i+1)<b.l.length-i:=om;refine ag (wS aB) ?_;refine ag (bA Obj.enc b.l aB) ?_;refine aC (fun hk=>?_) (fun hk=>?_)
  .have hk:b.l[i].ah≠0:=by simpa using hk
   refine ay (fun h0=>?_) (fun h0=>?_)
   .have h0:fA nF 1 b.l i<=i:=by have h0:(i:Int)>=((fA nF 1 b.l i:Nat):Int):=h0;omega
    refine⟨i+1,aB,hm,View.o 5 [0,1,2,3,4] [] ?_ (gz b 5 [])⟩;rw[show fA nF 1 b.l (i+1)=i+1 from by rw[hs,nF,if_pos ⟨hk,h0⟩]]
    repeat(first|exact .nil|refine .aq ?_|refine .put (.aO (ap om).symm) ?_|refine .eq rfl ?_)
   .have h0:¬fA nF 1 b.l i<=i:=by have h0:¬(i:Int)>=((fA nF 1 b.l i:Nat):Int):=h0;omega
    refine⟨i+1,aB,hm,View.o 5 [0,1,2,3,4] [] ?_ (gz b 5 [])⟩;rw[show fA nF 1 b.l (i+1)=fA nF 1 b.l i from by rw[hs,nF,if_neg (fun h=>h0 h.2)]]
    repeat(first|exact .nil|refine .aq ?_|refine .put (.aO (ap om).symm) ?_|refine .eq rfl ?_)
  .have hk:b.l[i].ah=0:=by simpa using hk
   refine⟨i+1,aB,hm,View.o 5 [0,1,2,3,4] [] ?_ (gz b 5 [])⟩;rw[show fA nF 1 b.l (i+1)=fA nF 1 b.l i from by rw[hs,nF,if_neg (fun h=>h.1 hk)]]
   repeat(first|exact .nil|refine .aq ?_|refine .put (.aO (ap om).symm) ?_|refine .eq rfl ?_)
 .have h9:=Hp h;have gX:i=b.l.length:=om;subst gX;refine⟨_,View.o 5 [0,1,2,3,4] [] ?_ (gz b 5 []),abd b hb _ Q hQ⟩;repeat(first|exact .nil|refine .aq ?_|refine .eq rfl ?_)
def Rt(l:List Obj)(i:Nat)(p:aT):Bool:=decide (0<i)&&(!p.aQ&& !(l.any (cH (i:Nat))))
def Oa(l:List Obj)(i:Nat)(p:aT):aT:=if Rt l i p=true then eR else p
def TM(b:Kx):Kx:=⟨b.l,b.ops,b.ps.mapIdx (Oa b.l)⟩
theorem AF.cl{b:Kx}(h:AF b):AF (TM b):=by
 refine⟨h.g,h.hl,h.ho,?_,fun p hp=>?_⟩
 .show(b.ps.mapIdx (Oa b.l)).length<=_;rw[abQ];exact h.hp
 .obtain⟨i,x,hx,rfl⟩:=k7 hp;unfold Oa;split
  .exact Wi _
  .exact h.hs x (Rq hx)
def Hq(l:List Obj)(k t:Nat)(p:aT):aT:=if t<k then Oa l t p else p
theorem Qh{b:Kx}{P:List aT}(h:Pt b.ps P (Hq b.l b.ps.length)):P=(TM b).ps:=by
 refine abF fun i=>?_
 rw[show(TM b).ps=b.ps.mapIdx (Oa b.l)from rfl,abD];cases hx:b.ps[i]? with
 |none=>
  have:=ab0.1 hx;exact ab0.2 (by rw[h.1];exact this)
 |some x=>
  have:=(Mh.1 hx).1;rw[h.2 i x hx,Hq,if_pos this];rfl
structure StC where
 i:Nat
 P:List aT
def Un(b:Kx):CV:=JL (TM b) (fA nF 1 b.l b.l.length) (fA oF 0 b.ops b.ops.length) (fA (pF b.l) 1 (TM b).ps (TM b).ps.length)
theorem uM(l:List Obj)(ops:List bi)(P:List aT)(n:Nat)(R:Mem):dV (sg [0,1,2,3,4] n) (rM (.row 2 9 0 none) (.row 3 2 0 none) (.row 4 4 0 none)::fm:: .row 9 (af (l.map Obj.enc)):: .row 2 (af (ops.map bi.enc)):: .row 4 (af (P.map aT.enc))::R) (fun k=>bz [] k=true) 0 (iP ⟨l,ops,P⟩):=
 .pt rfl rfl (.eq rfl (by simp[rM])) (.pt rfl rfl (.eq rfl (by simp[fm])) (.pr rfl rfl rfl (.pr rfl rfl rfl (.pn rfl rfl rfl))))
theorem abf(b:Kx)(hb:AF b)(Q:CV->Prop)(hQ:Q (Un b)):
  aw Tryz.prog 0 aa6 (pM (aw Tryz.prog 0 U22) (JM Q)) ⟨iL 284 [(1,p0 0),(2,p0 1)],iP b⟩:=by
 have fW:=hb.hp;refine aK (fun s:StC=>s.i<=b.ps.length/\Pt b.ps s.P (Hq b.l s.i)) [1,2,173] (fun s=>[(174,an .i64 (s.i:Nat))]) (fun s=>iP ⟨b.l,b.ops,s.P⟩) (fun s=>b.ps.length-s.i) ⟨0,b.ps⟩ ⟨Wi _,(Pt.refl b.ps).congr fun t o _=>by simp[Hq]⟩ ?_ (fun s hJ=>?_)
 .refine View.o 5 [0,1,2,3,4] [] ?_ (gz b 5 []);repeat(first|exact .nil|refine .aq ?_|refine .eq rfl ?_)
 obtain⟨i,P⟩:=s;obtain⟨hi,hP⟩:=hJ;have hi:i<=b.ps.length:=hi;have hP:Pt b.ps P (Hq b.l i):=hP;have VZ:=hP.1;refine ay (fun h=>?_) (fun h=>?_)
 .have aB:i<b.ps.length:=Ho h;obtain⟨OS,Ir⟩:=hP.at aB;have Ir:P[i]=b.ps[i]:=by rw[Ir];simp[Hq]
  have hm:b.ps.length-(i+1)<b.ps.length-i:=om;have jc:∀t o,t≠i->Hq b.l (i+1) t o=Hq b.l i t o:=fun t o ht=>by
   unfold Hq;rcases ZX t i with h1|h1
   .rw[if_pos h1,if_pos om]
   .rw[if_neg om,if_neg om]
  have lL:Rt b.l i b.ps[i]=false->Pt b.ps P (Hq b.l (i+1)):=fun hf=>hP.congr fun t o w8=>by
   by_cases Gz:t=i
   .subst Gz;rw[IE aB]at w8;cases w8;rw[Hq,Hq,if_neg om,if_pos om,Oa,hf];rfl
   .exact(jc t o Gz).symm
  refine ay (fun h0=>?_) (fun h0=>?_)
  .have h0:0<i:=by have h0:(i:Int)>0:=h0;omega
   refine ag (wS OS) ?_;refine ag (bA aT.enc P OS) ?_;refine aC (fun cX=>?_) (fun cX=>?_)
   .rw[Ir]at cX;refine te b.l hb.hl (i:Nat) (id:=2) rfl ?_;refine aC (fun hh=>?_) (fun hh=>?_)
    .have he:Rt b.l i b.ps[i]=true:=by unfold Rt;rw[cX,hh];simp[h0]
     refine ag (wS OS) ?_;refine ag (bA aT.enc P OS) ?_;have hs:=hP.set (j:=i) (x:=eR) (g:=Hq b.l (i+1)) (fun o w8=>by rw[IE aB]at w8;cases w8;rw[Hq,if_pos om,Oa,he];rfl) (fun t o Gz _=>jc t o Gz)
     refine⟨⟨i+1,P.set i eR⟩,⟨aB,hs⟩,hm,View.o 5 [0,1,2,3,4] [] ?_ ?_⟩
     .repeat(first|exact .nil|refine .aq ?_|refine .put (.aO (ap om).symm) ?_|refine .eq rfl ?_)
     .exact .pt rfl rfl (.eq rfl (by simp[rM])) (.pt rfl rfl (.eq rfl (by simp[fm])) (.pr rfl rfl rfl (.pr rfl rfl rfl (.pt rfl rfl (LD P i) (.nil _)))))
    .refine⟨⟨i+1,P⟩,⟨aB,lL (by unfold Rt;rw[hh];simp)⟩,hm,View.o 5 [0,1,2,3,4] [] ?_ (uM b.l b.ops P 5 [])⟩
     repeat(first|exact .nil|refine .aq ?_|refine .put (.aO (ap om).symm) ?_|refine .eq rfl ?_)
   .rw[Ir]at cX;refine⟨⟨i+1,P⟩,⟨aB,lL (by unfold Rt;rw[cX];simp)⟩,hm,View.o 5 [0,1,2,3,4] [] ?_ (uM b.l b.ops P 5 [])⟩
    repeat(first|exact .nil|refine .aq ?_|refine .put (.aO (ap om).symm) ?_|refine .eq rfl ?_)
  .have h0:¬0<i:=by have h0:¬(i:Int)>0:=h0;omega
   refine⟨⟨i+1,P⟩,⟨aB,lL (by unfold Rt;rw[decide_eq_false h0];rfl)⟩,hm,View.o 5 [0,1,2,3,4] [] ?_ (uM b.l b.ops P 5 [])⟩
   repeat(first|exact .nil|refine .aq ?_|refine .put (.aO (ap om).symm) ?_|refine .eq rfl ?_)
 .have h9:b.ps.length<=i:=Hp h;have gX:i=b.ps.length:=om;subst gX;have hPe:=Qh hP;have eA:aw Tryz.prog 0 Xr (pM (aw Tryz.prog 0 Qg) (JM Q)) ⟨eN 1 0 1,iP ⟨b.l,b.ops,P⟩⟩:=by rw[hPe];exact abe (TM b) hb.cl Q hQ
  refine⟨_,View.o 5 [0,1,2,3,4] [] ?_ (uM b.l b.ops P 5 []),eA⟩;repeat(first|exact .nil|refine .aq ?_|refine .eq rfl ?_)
end Go.Proofs.YtojhmadmlnfpcaaGreatDoor
