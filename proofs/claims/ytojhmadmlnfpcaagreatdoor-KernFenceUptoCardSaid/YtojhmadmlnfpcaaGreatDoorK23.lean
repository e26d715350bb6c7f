/- Part 23 of 43: what the law stands on. -/
import Derived.Test.YtojhmadmlnfpcaaGreatDoorK16
import Derived.Test.YtojhmadmlnfpcaaGreatDoorK21
set_option linter.unusedVariables false
set_option linter.unusedSimpArgs false
set_option linter.unnecessarySimpa false
set_option maxRecDepth 100000
set_option maxHeartbeats 64000000
namespace Go.Proofs.YtojhmadmlnfpcaaGreatDoor
open Go.AM Go.ChangeShapes Go.WideShapes Go.ChangeAt Go.RowKit
def c11:LF:= ⟨95,[.tmp 4],(.seq (.ai [qu 2 (.box 0),qu 3 (.box 1),qu 4 (.aD (qb false))]) (.seq (.seq (.ai [qf 9 0 2,ql 10 9,qf 11 0 3,ql 12 11,qu 13 (qc 22 [10,12]),qu 14 (.un .not 13),qm 15 14,qg 16 (.bg 1 2) 15 false,qg 17 (.load false 1 16) 15 false,qg 18 (.len 1 17) 15 false,qg 19 (.bg 1 3) 15 false,qg 20 (.load false 1 19) 15 false,qg 21 (.len 1 20) 15 false,qg 22 (.aF .neq 18 21) 15 false,qu 23 (.pick 15 (qb true) 22),qm 24 23,qg 25 (.bg 2 2) 24 false,qg 26 (.load false 1 25) 24 false,qg 27 (.len 1 26) 24 false,qg 28 (.bg 2 3) 24 false,qg 29 (.load false 1 28) 24 false,qg 30 (.len 1 29) 24 false,qg 31 (.aF .neq 27 30) 24 false,qu 32 (.pick 24 (qb true) 31)]) (.cond 32 (.seq (.ai [qu 4 (.aD (qb false))]) .ret) .skip)) (.seq (.seq (.ai [qf 33 1 2,ql 34 33,qu 35 (.len 1 34),qu 36 (.aD (qi 0))]) (.block 0 (.loop (.seq (.ai [qu 37 (.aF .lss 36 35)]) (.seq (.cond 37 .skip (.exit 0)) (.seq (.block 1 (.seq (.ai [qm 38 36,qm 5 38]) (.seq (.bQ [qf 39 1 2,ql 40 39,qm 41 5,qu 42 (.bO 2 40 41),qL 43 2 42,qf 44 1 3,ql 45 44,qm 46 5,qu 47 (.bO 2 45 46),qL 48 2 47,qu 49 (.HW true [.i,.i] 43 48)] [(.cons 0 none (.cons 1 none (.cons 2 none (.cons 3 none (.cons 4 none (.cons 5 none (.cons 6 none (.cons 7 none (.cons 8 none (.cons 9 none (.cons 10 none .nil)))))))))))]) (.cond 49 (.seq (.ai [qu 4 (.aD (qb false))]) .ret) .skip)))) (.ai [qu 50 (.aF .add 36 (qi 1)),qm 36 50]))))))) (.seq (.seq (.ai [qf 51 2 2,ql 52 51,qu 53 (.len 1 52),qu 54 (.aD (qi 0))]) (.block 2 (.loop (.seq (.ai [qu 55 (.aF .lss 54 53)]) (.seq (.cond 55 .skip (.exit 2)) (.seq (.block 3 (.seq (.ai [qm 56 54,qm 6 56]) (.seq (.bQ [qf 57 2 2,ql 58 57,qm 59 6,qu 60 (.bO 4 58 59),qL 61 4 60,qf 62 2 3,ql 63 62,qm 64 6,qu 65 (.bO 4 63 64),qL 66 4 65,qu 7 (.alloc [(.aa (.val (.bool false))),(.aa (.val (.bool false))),(qd 0),.aI]),qu 8 (.alloc [(.aa (.val (.bool false))),(.aa (.val (.bool false))),(qd 0),.aI]),qw (.store 4 7 61),qw (.store 4 8 66)] [(.cons 0 none (.cons 1 none (.cons 2 none (.cons 3 none (.cons 4 none (.cons 5 none (.cons 6 none (.cons 7 none (.cons 8 none (.cons 9 none (.xK (.cons 10 (some [9,8,6,4,3,1]) (.cons 11 (some [9,8,6,4,3,1]) (.cons 12 (some [9,8,6]) (.cons 13 (some []) .nil)))) (.cons 11 (some [9,8,6,4,3,1]) (.cons 10 (some [9,8,6,4,3,1]) (.cons 12 (some [9,8,6]) (.cons 13 (some []) .nil)))))))))))))))]) (.seq (.ai [qf 67 0 7,ql 68 67,qf 69 0 8,ql 70 69,qu 71 (.beq true 68 70),qm 72 71,qg 73 (.bg 1 7) 72 false,qg 74 (.load false 1 73) 72 false,qg 75 (.bg 1 8) 72 false,qg 76 (.load false 1 75) 72 false,qg 77 (.beq true 74 76) 72 false,qu 78 (.pick 72 (qb true) 77),qm 79 78,qg 80 (.bg 2 7) 79 false,qg 81 (.load false 1 80) 79 false,qg 82 (.bg 2 8) 79 false,qg 83 (.load false 1 82) 79 false,qg 84 (.aF .neq 81 83) 79 false,qu 85 (.pick 79 (qb true) 84),qm 86 85,qg 87 (.bg 3 7) 86 false,qg 88 (.load false 1 87) 86 false,qg 89 (.bg 3 8) 86 false,qg 90 (.load false 1 89) 86 false,qg 91 (qc 23 [88,90]) 86 false,qg 92 (.un .not 91) 86 false,qu 93 (.pick 86 (qb true) 92)]) (.cond 93 (.seq (.ai [qu 4 (.aD (qb false))]) .ret) .skip))))) (.ai [qu 94 (.aF .add 54 (qi 1)),qm 54 94]))))))) (.seq (.ai [qu 4 (.aD (qb true))]) .ret)))))⟩
def c23:LF:= ⟨26,[.tmp 4],(.seq (.ai [qu 4 (.aD (qb false))]) (.seq (.seq (.ai [qm 6 0,qu 7 (.len 1 6),qm 8 1,qu 9 (.len 1 8),qu 10 (.aF .neq 7 9)]) (.cond 10 (.seq (.ai [qu 4 (.aD (qb false))]) .ret) .skip)) (.seq (.seq (.ai [qm 11 0,qu 12 (.len 1 11),qu 13 (.aD (qi 0))]) (.block 0 (.loop (.seq (.ai [qu 14 (.aF .lss 13 12)]) (.seq (.cond 14 .skip (.exit 0)) (.seq (.block 1 (.seq (.ai [qm 15 13,qm 5 15]) (.seq (.bQ [qm 16 0,qm 17 5,qu 18 (.bO 3 16 17),qL 19 3 18,qm 20 1,qm 21 5,qu 22 (.bO 3 20 21),qL 23 3 22,qu 24 (.HW true [.b,.i,.i] 19 23)] [(.cons 0 none (.cons 1 none (.cons 2 none (.cons 3 none (.cons 4 none (.cons 5 none (.cons 6 none (.cons 7 none (.cons 8 none .nil)))))))))]) (.cond 24 (.seq (.ai [qu 4 (.aD (qb false))]) .ret) .skip)))) (.ai [qu 25 (.aF .add 13 (qi 1)),qm 13 25]))))))) (.seq (.ai [qu 4 (.aD (qb true))]) .ret))))⟩
theorem l23:bs Tryz.prog Tryz.f23=some c23:=by kernel_rfl
theorem E5(d:List fH)(hd:d.length<=4194304):body Tryz.prog c23 [j7 d,j7 d] [] (fun r m=>r=ay true):=by
 refine dZ aG ?_;refine aO (fun k=>k<=d.length) [0,1,12] (fun k=>[(13,an .i64 (k:Nat))]) (fun _=>[]) (fun k=>d.length-k) 0 (aao _) ?_ (fun k hk=>?_)
 .refine View.o 0 [] [] ?_ (.nil _);repeat(first|exact .nil|refine .ap ?_|refine .eq rfl ?_)
 have hk:k<=d.length:=hk;refine aB (fun h=>?_) (fun h=>?_)
 .have aC:k<d.length:=by have h:(k:Int)<((d.map fH.enc).length:Int):=h;rw[aad]at h;omega
  refine ag (uT aC) ?_;refine ag (uT aC) ?_;refine dZ aG ?_;refine⟨k+1,aC,(show d.length-(k+1)<d.length-k by omega),View.o 0 [] [] ?_ (.nil _)⟩
  repeat(first|exact .nil|refine .ap ?_|refine .put (.aQ (aq om).symm) ?_|refine .eq rfl ?_)
 .exact rfl
theorem Cz(d:List fH)(hd:d.length<=4194304){m:Mem}{K:CV->Mem->Prop}(h:K (ay true) m):ar Tryz.prog 23 [j7 d,j7 d] m K:=
 bm Tryz.func23 l23 rfl (aak rfl) (E5 d hd) rfl rfl h
theorem l11:bs Tryz.prog Tryz.f11=some c11:=by kernel_rfl
theorem oR{l:List bG}{k:Nat}(h:k<l.length):cy (l.map bG.enc) (k:Nat)=some [.val (.int .i64 l[k].bv),.val (.int .i64 l[k].dm)]:=by rw[bl,aaf,aab h];rfl
theorem E6(k:Kr)(hk:dE k.l k.ops k.ps):body Tryz.prog c11 [dJ k.l k.ops k.ps,dJ k.l k.ops k.ps] [] (fun r m=>r=ay true):=by
 obtain⟨l,ops,ps⟩:=k;have hk:dE l ops ps:=hk;have h1:=hk.lo;have h2:=hk.lp;refine LP l ⟨hk.ll,fun o ho=>(hk.sm o ho).mP⟩ (fun o ho=>(hk.sm o ho).t) ?_
 refine dZ aG ?_;refine dZ aG ?_;refine aO (fun j=>j<=ops.length) [2,3,35] (fun j=>[(36,an .i64 (j:Nat))]) (fun _=>[.var [.aa (cX l),.aa (eA ops),.aa (fC ps)],.var [.aa (cX l),.aa (eA ops),.aa (fC ps)]]) (fun j=>ops.length-j) 0 (aao _) ?_ (fun j hj=>?_)
 .refine View.o1 2 [0,1] [] ?_
  .exact .pe rfl rfl rfl (.pm rfl rfl rfl)
 have hj:j<=ops.length:=hj;refine aB (fun h=>?_) (fun h=>?_)
 .have dA:j<ops.length:=by have h:(j:Int)<((ops.map bG.enc).length:Int):=h;rw[aad]at h;omega
  refine ag (oR dA) ?_;refine ag (oR dA) ?_;refine dZ aG ?_;refine⟨j+1,dA,(show ops.length-(j+1)<ops.length-j by omega),View.o 2 [0,1] [] ?_ ?_⟩
  .repeat(first|exact .nil|refine .ap ?_|refine .put (.aQ (aq om).symm) ?_|refine .eq rfl ?_)
  .exact .pe rfl rfl rfl (.pm rfl rfl rfl)
 .refine aO (fun p=>p<=ps.length) [2,3,53] (fun p=>[(54,an .i64 (p:Nat))]) (fun _=>[.var [.aa (cX l),.aa (eA ops),.aa (fC ps)],.var [.aa (cX l),.aa (eA ops),.aa (fC ps)]]) (fun p=>ps.length-p) 0 (aao _) ?_ (fun p hp=>?_)
  .refine View.o1 2 [0,1] [] ?_
   .exact .pe rfl rfl rfl (.pm rfl rfl rfl)
  have hp:p<=ps.length:=hp;refine aB (fun h=>?_) (fun h=>?_)
  .have gu:p<ps.length:=by have h:(p:Int)<((ps.map bi.enc).length:Int):=h;rw[aad]at h;omega
   have hg:=d5 gu;have DE:=hk.sl _ (aau gu);generalize ps[p]=x at hg DE;refine ag hg ?_;refine ag hg ?_;refine⟨⟨⟨rfl,ag hg rfl,rfl,rfl,ag hg rfl,rfl,trivial⟩,⟨rfl,ag hg rfl,rfl,rfl,ag hg rfl,rfl,trivial⟩,⟨rfl,ag hg rfl,rfl,trivial⟩,trivial,?_⟩,
    ⟨⟨rfl,ag hg rfl,rfl,rfl,ag hg rfl,rfl,trivial⟩,⟨rfl,ag hg rfl,rfl,rfl,ag hg rfl,rfl,trivial⟩,⟨rfl,ag hg rfl,rfl,trivial⟩,trivial,?_⟩⟩
   .refine dZ aG ?_;refine dZ aG ?_;refine dZ aG ?_;refine Cz x.aU om ?_;refine⟨p+1,gu,(show ps.length-(p+1)<ps.length-p by omega),View.o 4 [0,1] [] ?_ ?_⟩
    .repeat(first|exact .nil|refine .ap ?_|refine .put (.aQ (aq om).symm) ?_|refine .eq rfl ?_)
    .exact .pe rfl rfl rfl (.pm rfl rfl rfl)
   .refine dZ aG ?_;refine dZ aG ?_;refine dZ aG ?_;refine Cz x.aU om ?_;refine⟨p+1,gu,(show ps.length-(p+1)<ps.length-p by omega),View.o 4 [0,1] [] ?_ ?_⟩
    .repeat(first|exact .nil|refine .ap ?_|refine .put (.aQ (aq om).symm) ?_|refine .eq rfl ?_)
    .exact .pe rfl rfl rfl (.pm rfl rfl rfl)
  .exact rfl
theorem Mh(k:Kr)(hk:dE k.l k.ops k.ps){m:Mem}{K:CV->Mem->Prop}(h:K (ay true) m):ar Tryz.prog 11 [dJ k.l k.ops k.ps,dJ k.l k.ops k.ps] m K:=
 bm Tryz.func11 l11 rfl (aak rfl) (E6 k hk) (by simp[dJ,cX,eA,fC,CV.dx,CC.dx,RV.dx]) rfl h
inductive jO(m:Mem)(Z:Nat->Prop)(p:Option Nat):List CC->List Dt->Prop
 |nil:jO m Z p [] []
 |cons {c:CC} {d:Dt} {r:List CC} {r':List Dt} (h:dP m Z p c d) (hr:jO m Z p r r'):jO m Z p (c::r) (d::r')
theorem jO.len{m:Mem}{Z:Nat->Prop}{p:Option Nat}{a:List CC}{b:List Dt}(h:jO m Z p a b):a.length=b.length:=by induction h<;>simp[*]
theorem jO.get{m:Mem}{Z:Nat->Prop}{p:Option Nat}{a:List CC}{b:List Dt}(h:jO m Z p a b):∀(i:Nat)c d,a[i]? =some c->b[i]? =some d->dP m Z p c d:=by
 induction h with
 |nil=>intro i c d h;simp at h
 |cons h hr ih=>
  intro i c d h1 h2;cases i with
  |zero=>simp at h1 h2;subst h1 h2;exact h
  |succ i=>exact ih i c d (by simpa using h1) (by simpa using h2)
inductive gv(m:Mem)(Z:Nat->Prop)(p:Option Nat):List (List CC)->List (List Dt)->Prop
 |nil:gv m Z p [] []
 |cons {c:List CC} {d:List Dt} {r:List (List CC)} {r':List (List Dt)} (h:jO m Z p c d) (hr:gv m Z p r r'):gv m Z p (c::r) (d::r')
theorem gv.len{m:Mem}{Z:Nat->Prop}{p:Option Nat}{a:List (List CC)}{b:List (List Dt)}(h:gv m Z p a b):a.length=b.length:=by induction h<;>simp[*]
theorem gv.get{m:Mem}{Z:Nat->Prop}{p:Option Nat}{a:List (List CC)}{b:List (List Dt)}(h:gv m Z p a b):∀(i:Nat)c d,a[i]? =some c->b[i]? =some d->jO m Z p c d:=by
 induction h with
 |nil=>intro i c d h;simp at h
 |cons h hr ih=>
  intro i c d h1 h2;cases i with
  |zero=>simp at h1 h2;subst h1 h2;exact h
  |succ i=>exact ih i c d (by simpa using h1) (by simpa using h2)
theorem gv.fv{m:Mem}{Z:Nat->Prop}{p:Option Nat}{id esz:Nat}{elems:List (List CC)}{ds:List (List Dt)}(h:gv m Z (some id) elems ds)(hz:Z id)(hm:m[id]? =some (.row esz elems)):dP m Z p (.row id esz 0 none) (.sl esz ds):=
 dP.row id esz 0 none elems ds hz hm h.len (fun i cs es h1 h2=>(h.get i cs es h1 h2).len) (fun i cs es j c d h1 h2 h3 h4=>(h.get i cs es h1 h2).get j c d h3 h4)
def c15:LF:= ⟨28,[.cell true 2 4,.tmp 5],(.seq (.ai [qu 4 (.alloc [(qd 0),(qd 0)]),qu 5 (.aD (qi 0))]) (.seq (.seq (.ai [qm 6 1,qu 7 (.aF .lss 6 (qi 0)),qm 8 7,qg 9 (.aD 1) 8 false,qg 10 (.aD 0) 8 false,qg 11 (.len 1 10) 8 false,qg 12 (.aF .geq 9 11) 8 false,qu 13 (.pick 8 (qb true) 12),qm 14 13,qg 15 (.aD 0) 14 false,qg 16 (.aD 1) 14 false,qg 17 (.bO 3 15 16) 14 false,qg 18 (.bg 0 17) 14 false,qg 19 (.load false 1 18) 14 false,qg 20 (.un .not 19) 14 false,qu 21 (.pick 14 (qb true) 20)]) (.cond 21 (.seq (.ai [qu 22 (.build [(qd 0),(qd 0)] []),qw (.store 2 4 22),qu 5 (.aD (qi 6))]) .ret) .skip)) (.seq (.ai [qm 23 0,qm 24 1,qu 25 (.bO 3 23 24),qf 26 1 25,qL 27 2 26,qw (.store 2 4 27),qu 5 (.aD (qi 0))]) .ret)))⟩
def c61:LF:= ⟨9,[.tmp 2],(.seq (.ai [qu 2 (.aD (qb false))]) (.seq (.ai [qm 3 0,qu 4 (.aF .geq 3 (qi 0)),qm 5 4,qg 6 (.aD 0) 5 true,qg 7 (.aF .leq 6 (qi 4095)) 5 true,qu 8 (.pick 5 7 (qb false)),qm 2 8]) .ret))⟩
def c68:LF:= ⟨24,[.tmp 4,.tmp 5,.tmp 6],(.seq (.ai [qu 4 (.aD qe),qu 5 (.aD (qi 0)),qu 6 (.aD (qi 0))]) (.seq (.ai [qm 10 0,qm 11 1,qu 12 (qc 80 [10,11]),qm 9 12,qu 13 (.ext 9 0),qu 14 (.ext 9 1),qu 7 (.alloc [(qd 0),(qd 0)]),qw (.store 2 7 13),qm 8 14]) (.seq (.seq (.ai [qm 15 8,qu 16 (.aF .neq 15 (qi 0))]) (.cond 16 (.seq (.ai [qm 17 8,qu 4 (.aD qe),qu 5 (.aD (qi 0)),qm 6 17]) .ret) .skip)) (.seq (.ai [qm 18 0,qL 19 2 7,qu 20 (qc 83 [18,19]),qu 21 (.ext 20 0),qu 22 (.ext 20 1),qu 23 (.ext 20 2),qm 4 21,qm 5 22,qm 6 23]) .ret))))⟩
def c80:LF:= ⟨28,[.cell true 2 4,.tmp 5],(.seq (.ai [qu 4 (.alloc [(qd 0),(qd 0)]),qu 5 (.aD (qi 0))]) (.seq (.seq (.ai [qm 6 1,qu 7 (.aF .lss 6 (qi 0)),qm 8 7,qg 9 (.aD 1) 8 false,qg 10 (.aD 0) 8 false,qg 11 (.len 1 10) 8 false,qg 12 (.aF .geq 9 11) 8 false,qu 13 (.pick 8 (qb true) 12),qm 14 13,qg 15 (.aD 0) 14 false,qg 16 (.aD 1) 14 false,qg 17 (.bO 3 15 16) 14 false,qg 18 (.bg 0 17) 14 false,qg 19 (.load false 1 18) 14 false,qg 20 (.un .not 19) 14 false,qu 21 (.pick 14 (qb true) 20)]) (.cond 21 (.seq (.ai [qu 22 (.build [(qd 0),(qd 0)] []),qw (.store 2 4 22),qu 5 (.aD (qi 6))]) .ret) .skip)) (.seq (.ai [qm 23 0,qm 24 1,qu 25 (.bO 3 23 24),qf 26 1 25,qL 27 2 26,qw (.store 2 4 27),qu 5 (.aD (qi 0))]) .ret)))⟩
def c83:LF:= ⟨44,[.tmp 4,.tmp 5,.tmp 6],(.seq (.ai [qu 3 (.box 1),qu 4 (.aD qe),qu 5 (.aD (qi 0)),qu 6 (.aD (qi 0))]) (.seq (.seq (.ai [qf 9 1 3,ql 10 9,qu 11 (qc 61 [10]),qu 12 (.un .not 11),qm 13 12,qg 14 (.bg 0 3) 13 false,qg 15 (.load false 1 14) 13 false,qg 16 (.aF .lss 15 (qi 0)) 13 false,qu 17 (.pick 13 (qb true) 16)]) (.cond 17 (.seq (.ai [qu 4 (.aD qe),qu 5 (.aD (qi 0)),qu 6 (.aD (qi 3))]) .ret) .skip)) (.seq (.ai [qm 18 0,qu 19 (qc 123 [18,(.c (.rv (.one (.fn 124 []))))]),qm 7 19]) (.seq (.seq (.ai [qm 20 7,qu 21 (.aF .lss 20 (qi 0))]) (.cond 21 (.seq (.seq (.ai [qm 22 0,qu 23 (.len 1 22),qu 24 (.aF .geq 23 (qi 10))]) (.cond 24 (.seq (.ai [qu 4 (.aD qe),qu 5 (.aD (qi 0)),qu 6 (.aD (qi 15))]) .ret) .skip)) (.ai [qm 25 0,qu 26 (.len 1 25),qm 7 26])) .skip)) (.seq (.ai [qm 27 0,qu 28 (qc 107 [27]),qm 8 28]) (.seq (.seq (.ai [qm 29 7,qm 30 8,qu 31 (.len 1 30),qu 32 (.aF .eql 29 31)]) (.cond 32 (.ai [qm 33 8,qu 34 (.build [(.aa (.val (.bool false))),(qd 0),(qd 0)] []),qu 35 (.mh 3 [(.aa (.val (.bool false))),(qd 0),(qd 0)] 1 [(0,34)]),qu 36 (.nO 3 24 33 35),qm 8 36]) .skip)) (.seq (.ai [qm 37 8,qm 38 7,qL 39 2 3,qu 40 (.build [(.aa (.val (.bool false))),(qd 0),(qd 0)] [(0,1,(qb true)),(1,2,39)]),qu 41 (.bO 3 37 38),qw (.store 3 41 40)]) (.seq (.ai [qm 42 8,qm 43 7,qm 4 42,qm 5 43,qu 6 (.aD (qi 0))]) .ret))))))))⟩
def c123:LF:= ⟨19,[.tmp 4],(.seq (.ai [qu 4 (.aD (qi 0))]) (.seq (.seq (.ai [qm 6 0,qu 7 (.len 1 6),qu 8 (.aD (qi 0))]) (.block 0 (.loop (.seq (.ai [qu 9 (.aF .lss 8 7)]) (.seq (.cond 9 .skip (.exit 0)) (.seq (.block 1 (.seq (.ai [qm 10 8,qm 5 10]) (.seq (.ai [qm 11 1,qm 12 0,qm 13 5,qu 14 (.bO 3 12 13),qL 15 3 14,qu 16 (.call 11 [15])]) (.cond 16 (.seq (.ai [qm 17 5,qm 4 17]) .ret) .skip)))) (.ai [qu 18 (.aF .add 8 (qi 1)),qm 8 18]))))))) (.seq (.ai [qu 4 (.aD (qi (-1)))]) .ret)))⟩
def c124:LF:= ⟨6,[.tmp 2],(.seq (.ai [qu 1 (.box 0),qu 2 (.aD (qb false))]) (.seq (.ai [qf 3 0 1,ql 4 3,qu 5 (.un .not 4),qm 2 5]) .ret))⟩
namespace Tb
structure Cap where
 eT:Int
 cf:Int
 deriving DecidableEq
structure bZ where
 has:Bool
 cap:Cap
 deriving DecidableEq
def bZ.enc(s:bZ):List Dt:=[.val (.bool s.has),.val (.int .i64 s.cap.eT),.val (.int .i64 s.cap.cf)]
def pS(l:List bZ):Dt:= .sl 3 (l.map bZ.enc)
def ef(l:List bZ):CV:= .rv (.one (.aa (pS l)))
def Cap.rv(c:Cap):RV:= .agg [.aa (.val (.int .i64 c.eT)),.aa (.val (.int .i64 c.cf))]
def cH(n:Int):RV:= .one (.aa (.val (.int .i64 n)))
theorem l80:bs Tryz.prog Tryz.f80=some c80:=by kernel_rfl
def dt(l:List bZ)(fd:Int):Cap×Int:=
 match (if 0<=fd then l[fd.toNat]? else none)with
 |some s=>if s.has then(s.cap,0)else(⟨0,0⟩,6)
 |none=>(⟨0,0⟩,6)
theorem Mi(l:List bZ)(fd:Int):body Tryz.prog c80 [ef l,an .i64 fd] [] (fun r m=>r= .bF [(dt l fd).1.rv,cH (dt l fd).2]):=by
 refine aE (fun h=>?_) (fun h=>?_)
 .have h:fd<0:=of_decide_eq_true h;show CV.bF _=CV.bF _;rw[dt,if_neg om];rfl
 .have h:¬fd<0:=of_decide_eq_false h;refine aE (fun h2=>?_) (fun h2=>?_)
  .have h2:fd>=((l.map bZ.enc).length:Int):=of_decide_eq_true h2;simp at h2;show CV.bF _=CV.bF _;rw[dt,if_pos om,aaG om];rfl
  .have h2:¬fd>=((l.map bZ.enc).length:Int):=of_decide_eq_false h2;simp at h2;have aC:fd.toNat<l.length:=om;have hg:cy (l.map bZ.enc) fd=some (l[fd.toNat].enc):=by rw[zR,if_pos om,aaf,aab aC];rfl
   have hs:dt l fd=if l[fd.toNat].has then(l[fd.toNat].cap,0)else(⟨0,0⟩,6):=by rw[dt,if_pos om,aab aC]
   refine ag hg ?_;refine aE (fun h3=>?_) (fun h3=>?_)
   .have h3:l[fd.toNat].has=false:=by simpa using h3
    show CV.bF _=CV.bF _;rw[hs,h3];rfl
   .have h3:l[fd.toNat].has=true:=by simpa using h3
    refine ag hg ?_;show CV.bF _=CV.bF _;rw[hs,h3];rfl
theorem wb(l:List bZ)(fd:Int){m:Mem}{K:CV->Mem->Prop}(h:K (.bF [(dt l fd).1.rv,cH (dt l fd).2]) m):ar Tryz.prog 80 [ef l,an .i64 fd] m K:=
 bm Tryz.func80 l80 rfl (aak rfl) (Mi l fd) rfl rfl h
theorem l107:bs Tryz.prog Tryz.f107=some c107:=by kernel_rfl
theorem l61:bs Tryz.prog Tryz.f61=some c61:=by kernel_rfl
theorem l123:bs Tryz.prog Tryz.f123=some c123:=by kernel_rfl
theorem l124:bs Tryz.prog Tryz.f124=some c124:=by kernel_rfl
def eQ(n:Int):Bool:=decide (n>=0)&&decide (n<=4095)
theorem E7(n:Int):body Tryz.prog c61 [an .i64 n] [] (fun r m=>r=ay (eQ n)):=by
 refine aE (fun h=>?_) (fun h=>?_)
 .show ay _=ay _;unfold eQ;rw[h];rfl
 .show ay _=ay _;unfold eQ;rw[h];rfl
theorem wd(n:Int){m:Mem}{K:CV->Mem->Prop}(h:K (ay (eQ n)) m):ar Tryz.prog 61 [an .i64 n] m K:=
 bm Tryz.func61 l61 rfl (aak rfl) (E7 n) rfl rfl h
def bZ.cv(s:bZ):CV:= .rv (.agg (s.enc.map .aa))
theorem sK(s:bZ):body Tryz.prog c124 [s.cv] [] (fun r m=>r=ay (!s.has)):=by show ay _=ay _;rfl
theorem Aj(s:bZ){m:Mem}{K:CV->Mem->Prop}(h:K (ay (!s.has)) m):ar Tryz.prog 124 [s.cv] m K:=
 bm Tryz.func124 l124 rfl (aak rfl) (sK s) rfl rfl h
def t8{α:Type}(p:α->Bool)(l:List α):Int:=match l.findIdx? p with|some i=>(i:Int)|none=>-1
theorem E8(l:List bZ)(hb:l.length<=2097152)(f:Nat)(p:bZ->Bool)(hf:∀(s:bZ)(m:Mem)(K:CV->Mem->Prop),K (ay (p s)) m->ar Tryz.prog f [s.cv] m K):
  body Tryz.prog c123 [ef l,.rv (.one (.fn f []))] [] (fun r m=>r=an .i64 (t8 p l)):=by
 refine Lj (fun k=>k<=l.length/\∀(i:Nat)s,i<k->l[i]? =some s->p s=false) (fun k=>[(8,an .i64 (k:Nat)),(5,.ap),(9,.ap),(10,.ap),(11,.ap),(12,.ap),(13,.ap),(14,.ap),(15,.ap),(16,.ap),(17,.ap),(18,.ap)])
  (fun _=>[]) (fun k=>l.length-k) 0 ⟨aao _,fun i s h=>absurd h (aaL i)⟩ (B3 (aao _) ?_) (fun k hk=>?_)
 .repeat(first|exact .nil|refine .ap ?_|refine .eH ?_)
 .refine aE (fun h=>?_) (fun h=>?_)
  .have aC:k<l.length:=by have h:(k:Int)<((l.map bZ.enc).length:Int):=of_decide_eq_true h;simp at h;omega
   have hg:cy (l.map bZ.enc) (k:Nat)=some (l[k].enc):=by rw[bl,aaf,aab aC];rfl
   refine ag hg ?_;refine hf l[k] _ _ ?_;refine aE (fun h3=>?_) (fun h3=>?_)
   .show an _ _=an _ _;have:l.findIdx? p=some k:=by
     rw[aaN];refine⟨aC,h3,fun j hj=>?_⟩
     have:=hk.2 j l[j] hj (aab om);simp[this]
    rw[t8,this]
   .refine⟨k+1,⟨aC,fun i s hi hs=>?_⟩,?_,B3 (aao _) ?_⟩
    .rcases aaq i k with h5|h5
     .exact hk.2 i s h5 hs
     .have:i=k:=om;subst this;rw[aab aC]at hs;cases hs;exact h3
    .show l.length-(k+1)<l.length-k;omega
    .repeat(first|exact .nil|refine .ap ?_|refine .put (aq om) ?_|refine .eH ?_)
  .have ei:¬(k:Int)<((l.map bZ.enc).length:Int):=of_decide_eq_false h;simp at ei;show an _ _=an _ _;have:l.findIdx? p=none:=by rw[abM];intro s hs;obtain⟨i,hi⟩:=aam hs;have:=(aac.1 hi).1;simpa using hk.2 i s om hi
   rw[t8,this]
theorem Mj(l:List bZ)(hb:l.length<=2097152)(f:Nat)(p:bZ->Bool)(hf:∀(s:bZ)(m:Mem)(K:CV->Mem->Prop),K (ay (p s)) m->ar Tryz.prog f [s.cv] m K){m:Mem}{K:CV->Mem->Prop}(h:K (an .i64 (t8 p l)) m):ar Tryz.prog 123 [ef l,.rv (.one (.fn f []))] m K:=
 bm Tryz.func123 l123 rfl (aak rfl) (E8 l hb f p hf) rfl rfl h
def ce(l:List bZ):List (List CC):=(l.map bZ.enc).map fun ds=>ds.map CC.aa
theorem CA(l:List bZ)(hb:l.length<=2097152):body Tryz.prog c107 [ef l] [] (fun r m=>(l=[]/\r= .rv (.one .aI))\/(r= .rv (.one (.row 1 3 0 none))/\m[1]? =some (.row 3 ([]++ce l)))):=by
 have rR:((([]:List (List CC)).length+((l.map bZ.enc).map fun ds=>ds.map CC.aa).length)*24)<=140737488355328:=by simp;omega
 refine aE (fun h=>?_) (fun h=>?_)
 .have hl:l=[]:=aat (by simpa using aav h)
  exact⟨.inl ⟨hl,rfl⟩,rR,.inr ⟨rfl,rfl⟩⟩
 .exact⟨rR,.inr ⟨rfl,rfl⟩⟩
theorem oS(l:List bZ)(hb:l.length<=2097152){m:Mem}{K:CV->Mem->Prop}(h1:l=[]->K (.rv (.one .aI)) m)(h2:K (.rv (.one (.row m.length 3 0 none))) (m++ [.row 3 (ce l)])):
  ar Tryz.prog 107 [ef l] m K:=by
 refine IC (aZ Tryz.func107 l107 (CA l hb)) (by simp[ef,CV.dx,CC.dx]) fun r m1 hr=>?_
 rcases hr with⟨hl,rfl⟩|⟨rfl,hm⟩
 .exact .inl ⟨rfl,h1 hl⟩
 .refine .inr ⟨1,3,ce l,rfl,by simpa using hm,fun cs dG c hc=>?_,fun i cs j d hi hj=>?_,h2⟩
  .simp only[ce,aay]at dG;obtain⟨ds,⟨s,_,rfl⟩,rfl⟩:=dG;obtain⟨d,_,rfl⟩:=aay.1 hc;exact⟨d,rfl⟩
  .have dG:=aag hi;simp only[ce,aay]at dG;obtain⟨ds,⟨s,_,rfl⟩,rfl⟩:=dG;have hd:=aag hj;simp only[bZ.enc,aaX,acr,aaJ,CC.aa.injEq,abB,or_false]at hd;rcases hd with rfl|rfl|rfl<;>exact⟨_,rfl⟩
theorem l83:bs Tryz.prog Tryz.f83=some c83:=by kernel_rfl
def iz(l:List bZ)(c:Cap):List bZ×Int×Int:=
 if eQ c.cf=false\/c.eT<0 then([],0,3)else
 match l.findIdx? (fun s=>!s.has)with
 |some k=>(l.set k ⟨true,c⟩,k,0)
 |none=>if l.length>=10 then([],0,15)else(l++ [⟨true,c⟩],l.length,0)
def ja(l:List bZ):RV:= .one (.aa (pS l))
theorem lX{m:Mem}{a b:RV}{x y:Int}(h:eP m a b):cJ m (.bF [a,cH x,cH y]) (.bF [b,cH x,cH y]):=by
 refine .bF rfl fun i r r' h1 h2=>?_
 match i,h1,h2 with
 |0,h1,h2=>cases h1;cases h2;exact h
 |1,h1,h2=>cases h1;cases h2;exact eP.self rfl
 |2,h1,h2=>cases h1;cases h2;exact eP.self rfl
theorem Hj{l:List bZ}{c:Cap}{m:Mem}(h:eQ c.cf=false\/c.eT<0):cJ m (.bF [.one .aI,cH 0,cH 3]) (.bF [ja (iz l c).1,cH (iz l c).2.1,cH (iz l c).2.2]):=by rw[iz,if_pos h];exact lX (.one (.aI 3))
theorem Ml{l:List bZ}{c:Cap}{m:Mem}(h:¬(eQ c.cf=false\/c.eT<0))(hk:l.findIdx? (fun s=>!s.has)=none)(hl:l.length>=10):
  cJ m (.bF [.one .aI,cH 0,cH 15]) (.bF [ja (iz l c).1,cH (iz l c).2.1,cH (iz l c).2.2]):=by
 rw[iz,if_neg h,hk];simp only;rw[if_pos hl];exact lX (.one (.aI 3))
theorem Hk{l:List bZ}{c:Cap}{m:Mem}{id:Nat}(h:¬(eQ c.cf=false\/c.eT<0))(hk:l.findIdx? (fun s=>!s.has)=none)(hl:¬l.length>=10)(hm:m[id]? =some (.row 3 (ce (l++ [⟨true,c⟩])))):
  cJ m (.bF [.one (.row id 3 0 none),cH ((l.map bZ.enc).length:Nat),cH 0]) (.bF [ja (iz l c).1,cH (iz l c).2.1,cH (iz l c).2.2]):=by
 rw[iz,if_neg h,hk,aad];simp only;rw[if_neg hl];exact lX (.one (eI.eE hm 0 none))
theorem Pa{l:List bZ}{c:Cap}{m:Mem}{id k:Nat}(h:¬(eQ c.cf=false\/c.eT<0))(hk:l.findIdx? (fun s=>!s.has)=some k)(hm:m[id]? =some (.row 3 (ce (l.set k ⟨true,c⟩)))):
  cJ m (.bF [.one (.row id 3 0 none),cH k,cH 0]) (.bF [ja (iz l c).1,cH (iz l c).2.1,cH (iz l c).2.2]):=by
 rw[iz,if_neg h,hk];exact lX (.one (eI.eE hm 0 none))
theorem Mm(l:List bZ)(hb:l.length<=2097152)(c:Cap):body Tryz.prog c83 [ef l,.rv c.rv] [] (fun r m=>cJ m r (.bF [ja (iz l c).1,cH (iz l c).2.1,cH (iz l c).2.2])):=by
 refine wd c.cf ?_;refine aE (fun h=>?_) (fun hr=>?_)
 .exact Hj (.inl (by simpa using h))
 .refine aE (fun h=>?_) (fun ho=>?_)
  .exact Hj (.inr (of_decide_eq_true h))
  .have jz:¬(eQ c.cf=false\/c.eT<0):=by have:=of_decide_eq_false ho;simp at hr;simp[hr];omega
   refine Mj l hb 124 (fun s=>!s.has) (fun s m K h=>Aj s h) ?_
   cases hk:l.findIdx? (fun s=>!s.has)with
   |none=>
    have hi:t8 (fun s:bZ=>!s.has) l= -1:=by rw[t8,hk]
    rw[hi];refine aE (fun h=>?_) (fun h=>?_)
    .have ei:l.length>=10:=by have h:=of_decide_eq_true h;simp at h;omega
     exact Ml jz hk ei
    .have aC:¬l.length>=10:=by have h:=of_decide_eq_false h;simp at h;omega
     refine oS l hb (fun hl=>?_) ?_
     .subst hl;refine⟨by decide,?_⟩
      exact Hk jz hk aC rfl
     .refine cF (by simp[ce,lenOf]) ?_
      refine⟨by simp[ce,cw];omega,?_⟩
      have hlen:(ce l).length=l.length:=by simp[ce]
      refine ag (bT (k:=(l.map bZ.enc).length) (by simp[ce,lenOf,cw])) ?_
      refine ag (x:=[CC.aa (.val (.bool false)),CC.aa (.val (.int .i64 0)),CC.aa (.val (.int .i64 0))]) (by simp[aX,ce,cw,ii]) ?_
      refine Hk (id:=3) jz hk aC ?_;refine congrArg (fun x=>some (Bk.row 3 x)) ?_
      show ba (ce l++ [[CC.aa (.val (.bool false)),CC.aa (.val (.int .i64 0)),CC.aa (.val (.int .i64 0))]]) (l.map bZ.enc).length [CC.aa (.val (.bool true)),CC.aa (.val (.int .i64 c.eT)),CC.aa (.val (.int .i64 c.cf))]=_;rw[bn,aad,<-hlen,aco _ _ (aaj _),ab9];simp[ce,bZ.enc]
   |some k=>
    have hi:t8 (fun s:bZ=>!s.has) l=(k:Int):=by rw[t8,hk]
    have fP:k<l.length:=(aaN.1 hk).1;rw[hi];refine oS l hb (fun hl=>?_) ?_
    .subst hl;simp at fP
    .have hlen:(ce l).length=l.length:=by simp[ce]
     refine dZ (by simp[hlen,lenOf];omega) ?_
     refine ag (bT (k:=k) (by simp[hlen,lenOf];omega)) ?_
     refine ag (x:=(l[k].enc).map .aa) (by simp[aX,ce,ii,fP]) ?_
     refine Pa (id:=1) jz hk ?_;refine congrArg (fun x=>some (Bk.row 3 x)) ?_
     show ba (ce l) k [CC.aa (.val (.bool true)),CC.aa (.val (.int .i64 c.eT)),CC.aa (.val (.int .i64 c.cf))]=_;rw[bn];simp[ce,bZ.enc]
theorem Mn(l:List bZ)(hb:l.length<=2097152)(c:Cap){m:Mem}{K:CV->Mem->Prop}(h:K (.bF [ja (iz l c).1,cH (iz l c).2.1,cH (iz l c).2.2]) m):ar Tryz.prog 83 [ef l,.rv c.rv] m K:=
 bb (aZ Tryz.func83 l83 (Mm l hb c)) (by simp[ef,Cap.rv,CV.dx,CC.dx]) fun r m1 hf=>⟨_,hf,h⟩
theorem l15:bs Tryz.prog Tryz.f15=some c15:=by kernel_rfl
theorem I2(l:List bZ)(fd:Int):body Tryz.prog c15 [ef l,an .i64 fd] [] (fun r m=>r= .bF [(dt l fd).1.rv,cH (dt l fd).2]):=by
 refine aE (fun h=>?_) (fun h=>?_)
 .have h:fd<0:=of_decide_eq_true h;show CV.bF _=CV.bF _;rw[dt,if_neg om];rfl
 .have h:¬fd<0:=of_decide_eq_false h;refine aE (fun h2=>?_) (fun h2=>?_)
  .have h2:fd>=((l.map bZ.enc).length:Int):=of_decide_eq_true h2;simp at h2;show CV.bF _=CV.bF _;rw[dt,if_pos om,aaG om];rfl
  .have h2:¬fd>=((l.map bZ.enc).length:Int):=of_decide_eq_false h2;simp at h2;have aC:fd.toNat<l.length:=om;have hg:cy (l.map bZ.enc) fd=some (l[fd.toNat].enc):=by rw[zR,if_pos om,aaf,aab aC];rfl
   have hs:dt l fd=if l[fd.toNat].has then(l[fd.toNat].cap,0)else(⟨0,0⟩,6):=by rw[dt,if_pos om,aab aC]
   refine ag hg ?_;refine aE (fun h3=>?_) (fun h3=>?_)
   .have h3:l[fd.toNat].has=false:=by simpa using h3
    show CV.bF _=CV.bF _;rw[hs,h3];rfl
   .have h3:l[fd.toNat].has=true:=by simpa using h3
    refine ag hg ?_;show CV.bF _=CV.bF _;rw[hs,h3];rfl
theorem Pb(l:List bZ)(fd:Int){m:Mem}{K:CV->Mem->Prop}(h:K (.bF [(dt l fd).1.rv,cH (dt l fd).2]) m):ar Tryz.prog 15 [ef l,an .i64 fd] m K:=
 bm Tryz.func15 l15 rfl (aak rfl) (I2 l fd) rfl rfl h
theorem l68:bs Tryz.prog Tryz.f68=some c68:=by kernel_rfl
def uv(l:List bZ)(fd:Int):List bZ×Int×Int:=if(dt l fd).2=0 then iz l (dt l fd).1 else([],0,(dt l fd).2)
theorem Mo(l:List bZ)(hb:l.length<=2097152)(fd:Int):body Tryz.prog c68 [ef l,an .i64 fd] [] (fun r m=>cJ m r (.bF [ja (uv l fd).1,cH (uv l fd).2.1,cH (uv l fd).2.2])):=by
 refine wb l fd ?_;refine aE (fun h=>?_) (fun h=>?_)
 .have h:¬(dt l fd).2=0:=by simpa using h
  rw[uv,if_neg h];exact lX (.one (.aI 3))
 .have h:(dt l fd).2=0:=by simpa using h
  rw[uv,if_pos h];refine Mn l hb (dt l fd).1 ?_;exact cJ.self rfl
theorem Sl(l:List bZ)(hb:l.length<=2097152)(fd:Int){m:Mem}{K:CV->Mem->Prop}(h:K (.bF [ja (uv l fd).1,cH (uv l fd).2.1,cH (uv l fd).2.2]) m):ar Tryz.prog 68 [ef l,an .i64 fd] m K:=
 bb (aZ Tryz.func68 l68 (Mo l hb fd)) (by simp[ef,an,CV.dx,CC.dx]) fun r m1 hf=>⟨_,hf,h⟩
end Tb
def c27:LF:= ⟨17,[.cell true 12 2],(.seq (.ai [qu 2 (.alloc [(.aa (.val (.bool false))),(.aa (.val (.bool false))),(.aa (.val (.bool false))),(.aa (.val (.bool false))),(.aa (.val (.bool false))),(.aa (.val (.bool false))),(.aa (.val (.bool false))),(.aa (.val (.bool false))),(.aa (.val (.bool false))),(.aa (.val (.bool false))),(.aa (.val (.bool false))),(.aa (.val (.bool false)))])]) (.seq (.ai [qu 3 (.alloc [(.aa (.val (.bool false))),(.aa (.val (.bool false))),(.aa (.val (.bool false))),(.aa (.val (.bool false))),(.aa (.val (.bool false))),(.aa (.val (.bool false))),(.aa (.val (.bool false))),(.aa (.val (.bool false))),(.aa (.val (.bool false))),(.aa (.val (.bool false))),(.aa (.val (.bool false))),(.aa (.val (.bool false)))])]) (.seq (.seq (.ai [qu 5 (.aD (qi 0))]) (.block 0 (.loop (.seq (.ai [qu 6 (.aF .lss 5 (qi 12))]) (.seq (.cond 6 .skip (.exit 0)) (.seq (.block 1 (.seq (.ai [qm 7 5,qm 4 7]) (.seq (.ai [qm 8 4,qm 9 0,qu 10 (.aF .rem 9 (qi 2)),qu 11 (.aF .eql 10 (qi 1)),qu 12 (.pA 12 1 3 8),qw (.store 1 12 11)]) (.ai [qm 13 0,qu 14 (.aF .quo 13 (qi 2)),qm 0 14])))) (.ai [qu 15 (.aF .add 5 (qi 1)),qm 5 15]))))))) (.seq (.ai [qL 16 12 3,qw (.store 12 2 16)]) .ret))))⟩
def c67:LF:= ⟨43,[.tmp 4,.tmp 5],(.seq (.ai [qu 4 (.aD qe),qu 5 (.aD (qi 0))]) (.seq (.seq (.ai [qm 10 0,qm 11 1,qu 12 (qc 80 [10,11]),qm 9 12,qu 13 (.ext 9 0),qu 14 (.ext 9 1),qu 6 (.alloc [(qd 0),(qd 0)]),qw (.store 2 6 13),qm 7 14]) (.seq (.ai [qm 15 7,qu 16 (.aF .neq 15 (qi 0))]) (.cond 16 (.seq (.ai [qm 17 7,qu 4 (.aD qe),qm 5 17]) .ret) .skip))) (.seq (.ai [qm 18 0,qu 19 (qc 107 [18]),qm 8 19]) (.seq (.ai [qm 20 8,qm 21 1,qu 22 (.build [(.aa (.val (.bool false))),(qd 0),(qd 0)] []),qu 23 (.bO 3 20 21),qw (.store 3 23 22)]) (.seq (.block 0 (.loop (.seq (.seq (.ai [qm 24 8,qu 25 (.len 1 24),qu 26 (.aF .gtr 25 (qi 0)),qm 27 26,qg 28 (.aD 8) 27 true,qg 29 (.aD 8) 27 true,qg 30 (.len 1 29) 27 true,qg 31 (.aF .sub 30 (qi 1)) 27 true,qg 32 (.bO 3 28 31) 27 true,qg 33 (.bg 0 32) 27 true,qg 34 (.load false 1 33) 27 true,qg 35 (.un .not 34) 27 true,qu 36 (.pick 27 35 (qb false))]) (.cond 36 .skip (.exit 0))) (.block 1 (.ai [qm 37 8,qm 38 8,qu 39 (.len 1 38),qu 40 (.aF .sub 39 (qi 1)),qu 41 (.nN 3 37 none (some 40) none),qm 8 41]))))) (.seq (.ai [qm 42 8,qm 4 42,qu 5 (.aD (qi 0))]) .ret))))))⟩
def c103:LF:= ⟨28,[.cell true 2 6,.tmp 7],(.seq (.ai [qu 6 (.alloc [(qd 0),(qd 0)]),qu 7 (.aD (qi 0))]) (.seq (.ai [qm 11 0,qm 12 1,qu 13 (qc 80 [11,12]),qm 10 13,qu 14 (.ext 10 0),qu 15 (.ext 10 1),qu 8 (.alloc [(qd 0),(qd 0)]),qw (.store 2 8 14),qm 9 15]) (.seq (.seq (.ai [qm 16 9,qu 17 (.aF .eql 16 (qi 0)),qm 18 17,qg 19 (.aD 2) 18 true,qg 20 (.bg 1 8) 18 true,qg 21 (.load false 1 20) 18 true,qg 22 (qc 108 [19,21]) 18 true,qg 23 (.un .not 22) 18 true,qu 24 (.pick 18 23 (qb false))]) (.cond 24 (.seq (.ai [qu 25 (.build [(qd 0),(qd 0)] []),qw (.store 2 6 25),qu 7 (.aD (qi 10))]) .ret) .skip)) (.seq (.ai [qL 26 2 8,qm 27 9,qw (.store 2 6 26),qm 7 27]) .ret))))⟩
def c108:LF:= ⟨9,[.tmp 4],(.seq (.ai [qu 4 (.aD (qb false))]) (.seq (.ai [qm 5 0,qm 6 1,qu 7 (.aF .andNot 5 6),qu 8 (.aF .eql 7 (qi 0)),qm 4 8]) .ret))⟩
namespace Tb
theorem l108:bs Tryz.prog Tryz.f108=some c108:=by kernel_rfl
def d6(a b:Int):Bool:=(IntKind.i64.wrap ((BitVec.ofInt 64 a&&& ~~~ BitVec.ofInt 64 b).toNat:Int))==0
theorem yZ(a b:Int){m:Mem}{K:CV->Mem->Prop}(h:K (ay (d6 a b)) m):ar Tryz.prog 108 [an .i64 a,an .i64 b] m K:=
 bm (r0:=ay (d6 a b)) Tryz.func108 l108 rfl (aak rfl) (show body Tryz.prog c108 [an .i64 a,an .i64 b] [] (fun r m=>r=ay (d6 a b))from rfl) rfl rfl h
theorem l103:bs Tryz.prog Tryz.f103=some c103:=by kernel_rfl
def kU(l:List bZ)(fd need:Int):Cap×Int:=
 if(dt l fd).2=0/\d6 need (dt l fd).1.cf=false then(⟨0,0⟩,10)else dt l fd
theorem sL(l:List bZ)(fd need:Int):body Tryz.prog c103 [ef l,an .i64 fd,an .i64 need] [] (fun r m=>r= .bF [(kU l fd need).1.rv,cH (kU l fd need).2]):=by
 refine wb l fd ?_;refine aE (fun h=>?_) (fun h=>?_)
 .have h:(dt l fd).2=0:=by simpa using h
  refine yZ _ _ ?_;refine aE (fun h2=>?_) (fun h2=>?_)
  .have h2:d6 need (dt l fd).1.cf=false:=by simpa using h2
   show CV.bF _=CV.bF _;rw[kU,if_pos ⟨h,h2⟩];rfl
  .have h2:d6 need (dt l fd).1.cf=true:=by simpa using h2
   show CV.bF _=CV.bF _;rw[kU,if_neg (by simp[h2])];rfl
 .have h:¬(dt l fd).2=0:=by simpa using h
  show CV.bF _=CV.bF _;rw[kU,if_neg (by simp[h])];rfl
theorem j8(l:List bZ)(fd need:Int){m:Mem}{K:CV->Mem->Prop}(h:K (.bF [(kU l fd need).1.rv,cH (kU l fd need).2]) m):ar Tryz.prog 103 [ef l,an .i64 fd,an .i64 need] m K:=
 bm Tryz.func103 l103 rfl (aak rfl) (sL l fd need) rfl rfl h
theorem l67:bs Tryz.prog Tryz.f67=some c67:=by kernel_rfl
def y0:Nat->Nat->List bZ->Nat
 |_,b,[]=>b
 |k,b,s::r=>y0 (k+1) (if s.has then k+1 else b) r
theorem E9(l:List bZ)(k b i:Nat)(h:i<l.length):y0 k b (l.take (i+1))=if l[i].has then k+i+1 else y0 k b (l.take i):=by
 induction l generalizing k b i with
 |nil=>simp at h
 |cons s r ih=>
  cases i with
  |zero=>simp[y0]
  |succ i=>
   simp at h;have:=ih (k+1) (if s.has then k+1 else b) i h
   rw[show k+1+i=k+(i+1) by omega]at this
   simp only[List.take_succ_cons,y0,this,List.getElem_cons_succ]
def ro(l:List bZ):Nat:=y0 0 0 l
theorem Fa(l:List bZ)(i:Nat)(h:i<l.length):ro (l.take (i+1))=if l[i].has then i+1 else ro (l.take i):=by rw[ro,E9 l 0 0 i h];simp[ro]
def sM:bZ:=⟨false,⟨0,0⟩⟩
def m8(l:List bZ)(fd:Int):List bZ×Int:=
 if(dt l fd).2=0 then((l.set fd.toNat sM).take (ro (l.set fd.toNat sM)),0)else([],(dt l fd).2)
theorem Hl{l:List bZ}{fd:Int}(h:(dt l fd).2=0):∃k:Nat,fd=k/\∃hk:k<l.length,l[k].has=true/\(dt l fd).1=l[k].cap:=by
 unfold dt at h;split at h
 .rename_i s hs;split at hs
  .refine⟨fd.toNat,om,(aac.1 hs).1,?_⟩;have e:=(aac.1 hs).2;split at h
   .rename_i h0 hh;rw[e];refine⟨hh,?_⟩;rw[dt,if_pos h0,hs];simp[hh]
   .simp at h
  .cases hs
 .simp at h
theorem j0{m:Mem}{a b:RV}{x:Int}(h:eP m a b):cJ m (.bF [a,cH x]) (.bF [b,cH x]):=by
 refine .bF rfl fun i r r' h1 h2=>?_
 match i,h1,h2 with
 |0,h1,h2=>cases h1;cases h2;exact h
 |1,h1,h2=>cases h1;cases h2;exact eP.self rfl
theorem CB{m:Mem}{id h:Nat}{l:List bZ}(hm:m[id]? =some (.row 3 (af (l.map bZ.enc)))):eI m (.row id 3 0 (some h)) (.aa (pS (l.take h))):=by
 have h1:eI m (.row id 3 0 (some h)) (.aa (.sl 3 (cw (l.map bZ.enc) 0 (some h)))):=eI.eE hm 0 (some h);have h2:cw (l.map bZ.enc) 0 (some h)=(l.take h).map bZ.enc:=by simp[cw,abS]
 rw[h2]at h1;exact h1
theorem Fb(l:List bZ)(hb:l.length<=2097152)(fd:Int):body Tryz.prog c67 [ef l,an .i64 fd] [] (fun r m=>cJ m r (.bF [ja (m8 l fd).1,cH (m8 l fd).2])):=by
 refine wb l fd ?_;refine aE (fun h=>?_) (fun h=>?_)
 .have h:¬(dt l fd).2=0:=by simpa using h
  rw[m8,if_neg h];exact j0 (.one (.aI 3))
 .have h:(dt l fd).2=0:=by simpa using h
  rw[m8,if_pos h];obtain⟨k,rfl,hk,Vj,_⟩:=Hl h;refine oS l hb (fun hl=>by subst hl;simp at hk) ?_
  refine ag (bT (k:=k) (by simp[ce,lenOf];omega)) ?_
  refine ag (x:=(l[k].enc).map .aa) (by simp[aX,ce,ii,hk]) ?_
  have jU:ba (ce l) (ii 0 k) [CC.aa (.val (.bool false)),CC.aa (.val (.int .i64 0)),CC.aa (.val (.int .i64 0))]=af ((l.set k sM).map bZ.enc):=by rw[bn];simp[ce,bZ.enc,af,ii,sM]
  have hlen:(l.set k sM).length=l.length:=aG;rw[show((k:Nat):Int).toNat=k from rfl];generalize l.set k sM=l2 at jU hlen;refine oc (fun h=>h<=l2.length/\ro (l2.take h)=ro l2) (fun h=>[(8,.rv (.one (.row 1 3 0 (some h)))),(24,.ap),(25,.ap),(26,.ap),(27,.ap),(28,.ap),(29,.ap),(30,.ap),(31,.ap),(32,.ap),(33,.ap),(34,.ap),(35,.ap),(36,.ap),(37,.ap),(38,.ap),(39,.ap),(40,.ap),(41,.ap),(19,.ap),(20,.ap),(23,.ap)])
   (fun h=>[.bh,.row 3 (af (l2.map bZ.enc))]) (fun h=>h) l2.length ⟨aaj _,by rw[aaO]⟩ ?_ (fun h hh=>?_)
  .refine View.o 2 [0,1] [] ?_ ?_
   .repeat(first|exact .nil|refine .ap ?_|refine .put (.hi rfl rfl ((congrArg List.length jU).trans (by simp[af]))) ?_|refine .eq rfl ?_)
   .exact .bh (.put (by simp[bq]) rfl (.bV jU) (.nil _))
  .refine aE (fun h2=>?_) (fun h2=>?_)
   .have h2:0<h:=by have h2:((h:Nat):Int)>0:=of_decide_eq_true h2;omega
    obtain⟨j,rfl⟩:∃j,h=j+1:=⟨h-1,om⟩;have hj:j<l2.length:=om;have hi:(IntKind.i64.wrap (((j+1:Nat):Int)-1))=((j:Nat):Int):=by rw[<-jN (n:=j) om];congr 1;omega
    have sA:dU (IntKind.i64.wrap (((j+1:Nat):Int)-1)) (j+1)=some j:=by rw[hi];exact bT om
    refine ag sA ?_;refine ag (x:=(l2[j].enc).map .aa) (by simp[aX,af,ii,hj]) ?_
    have ht:=Fa l2 j hj;refine aE (fun h3=>?_) (fun h3=>?_)
    .have h3:l2[j].has=false:=by simpa using h3
     refine ag (x:=j) (by show pF (.rv (.one (.aa (.val (.int .i64 (IntKind.i64.wrap (((j+1:Nat):Int)-1)))))))=_;rw[hi];rfl) ?_
     refine cF (by simp[lenOf,aaR,af];try omega) ?_
     refine⟨j,⟨om,by rw[h3]at ht;simp at ht;rw[<-ht];exact hh.2⟩,abp j,View.o1 2 [0,1] [] ?_⟩
     .exact .bh (.put (by simp[bq]) rfl (.bV rfl) (.nil _))
    .have h3:l2[j].has=true:=by simpa using h3
     have:ro l2=j+1:=by rw[<-hh.2,ht,if_pos h3]
     rw[this];exact j0 (.one (CB rfl))
   .have h2:h=0:=by have h2:¬((h:Nat):Int)>0:=of_decide_eq_false h2;omega
    subst h2;have:ro l2=0:=by rw[<-hh.2];rfl
    rw[this];exact j0 (.one (CB rfl))
theorem Mp(l:List bZ)(hb:l.length<=2097152)(fd:Int){m:Mem}{K:CV->Mem->Prop}(h:K (.bF [ja (m8 l fd).1,cH (m8 l fd).2]) m):ar Tryz.prog 67 [ef l,an .i64 fd] m K:=
 bb (aZ Tryz.func67 l67 (Fb l hb fd)) (by simp[ef,an,CV.dx,CC.dx]) fun r m1 hf=>⟨_,hf,h⟩
end Tb
end Go.Proofs.YtojhmadmlnfpcaaGreatDoor
