/- Part 15 of 16. -/
import Derived.Test.YtodckkkbiidffaaGreatDoorG11
import Derived.Test.YtodckkkbiidffaaGreatDoorG12
import Derived.Test.YtodckkkbiidffaaGreatDoorG13
import Derived.Test.YtodckkkbiidffaaGreatDoorG14
import Derived.Shelf.SlSortCmp.WholeK
import Derived.Shelf.SlicesG.Cmp
import Derived.WalkKit
import Derived.OwnWalkIn
set_option linter.unusedVariables false
set_option linter.unusedSimpArgs false
set_option maxRecDepth 100000
set_option maxHeartbeats 0
namespace Go.Proofs.YtodckkkbiidffaaGreatDoor
open Proofs.Tryz
open Go.AM Go.ChangeShapes Go.WideShapes Go.ChangeAt Go.RowKit
def c40:LF:= ⟨195,[.cell true 4 4],(.seq (.ai [qu 4 (.alloc [qd 0,qd 0,qd 0,.aO])]) (.seq (.seq (.ai [qm 17 1,qu 18 (.aP 17),qf 19 1 18,ql 20 19]) (.block 0 (.seq (.ai [qu 22 (.aJ .eql 20 (qi 1)),qm 21 22]) (.cond 21 (.seq (.ai [qm 23 0,qm 24 0,qu 25 (.aP 24),qf 26 0 25,qL 27 3 26,qu 28 (qc 59 [27]),qu 29 (.aP 23),qf 30 0 29,qw (.store 3 30 28)]) (.seq (.bR [qm 31 0,qu 32 (.aP 31),qf 33 0 32,qf 34 2 33,ql 35 34,qm 36 0,qu 37 (.aP 36),qf 38 3 37,ql 39 38,qu 40 (.cw 4 35 39),qf 41 1 40,qw (.store 1 41 (qb true))] [(.cons 0 none (.cons 1 none (.cons 2 none (.cons 3 none (.cons 4 none (.cons 5 none (.cons 6 none (.cons 7 none (.cons 8 none (.cons 9 none (.cons 10 none (.cons 11 (some []) .nil))))))))))))]) (.seq (.ai [qu 42 (.build [qd 0,qd 0,qd 0,.aO] []),qw (.store 4 4 42)]) .ret))) (.seq (.ai [qu 44 (.aJ .eql 20 (qi 22)),qm 43 44]) (.cond 43 (.seq (.seq (.bR [qm 45 0,qu 46 (.aP 45),qf 47 0 46,qf 48 2 47,ql 49 48,qm 50 0,qu 51 (.aP 50),qf 52 3 51,ql 53 52,qu 54 (.cw 4 49 53),qf 55 1 54,ql 56 55] [(.cons 0 none (.cons 1 none (.cons 2 none (.cons 3 none (.cons 4 none (.cons 5 none (.cons 6 none (.cons 7 none (.cons 8 none (.cons 9 none (.cons 10 none (.cons 11 none .nil))))))))))))]) (.cond 56 (.seq (.ai [qu 57 (.build [qd 0,qd 0,qd 0,.aO] [(1,1,qi 1)]),qw (.store 4 4 57)]) .ret) .skip)) (.seq (.ai [qu 58 (.build [qd 0,qd 0,qd 0,.aO] []),qw (.store 4 4 58)]) .ret)) (.seq (.ai [qu 60 (.aJ .eql 20 (qi 18)),qm 59 60]) (.cond 59 (.seq (.bR [qm 62 0,qu 63 (.aP 62),qf 64 0 63,qL 65 3 64,qm 66 0,qu 67 (.aP 66),qf 68 3 67,ql 69 68,qu 70 (qc 77 [65,69]),qm 61 70,qu 71 (.ext 61 0),qu 72 (.ext 61 1),qu 73 (.ext 61 2),qu 74 (.ext 61 3),qu 5 (.alloc [.aO,.aO,.aO]),qw (.store 3 5 71),qm 6 72,qm 7 73,qm 8 74] [(.cons 0 none (.cons 1 none (.cons 2 none (.cons 3 none (.cons 4 none (.cons 5 none (.cons 6 none (.cons 7 none (.vn (.cons 8 (some []) (.cons 9 none (.cons 10 none (.cons 11 none (.cons 12 none (.cons 13 none (.cons 14 (some [7,3]) (.cons 15 (some []) (.cons 16 none (.cons 17 none (.cons 18 none .nil))))))))))) (.cons 14 (some [7,3]) (.cons 8 (some []) (.cons 9 none (.cons 10 none (.cons 11 none (.cons 12 none (.cons 13 none (.cons 15 (some []) (.cons 16 none (.cons 17 none (.cons 18 none .nil))))))))))))))))))))]) (.seq (.seq (.ai [qm 75 8,qu 76 (.aJ .neq 75 (qi 0))]) (.cond 76 (.seq (.ai [qm 77 8,qu 78 (.build [qd 0,qd 0,qd 0,.aO] [(0,1,77)]),qw (.store 4 4 78)]) .ret) .skip)) (.seq (.ai [qm 79 0,qL 80 3 5,qu 81 (.aP 79),qf 82 0 81,qw (.store 3 82 80)]) (.seq (.ai [qm 83 6,qm 84 7,qu 85 (.build [qd 0,qd 0,qd 0,.aO] [(1,1,83),(2,1,84)]),qw (.store 4 4 85)]) .ret)))) (.seq (.ai [qu 87 (.aJ .eql 20 (qi 19)),qm 86 87]) (.cond 86 (.seq (.bR [qm 89 0,qu 90 (.aP 89),qf 91 0 90,qL 92 3 91,qm 93 0,qu 94 (.aP 93),qf 95 3 94,ql 96 95,qm 97 1,qu 98 (.aP 97),qf 99 4 98,ql 100 99,qu 101 (qc 78 [92,96,100]),qm 88 101,qu 102 (.ext 88 0),qu 103 (.ext 88 1),qu 9 (.alloc [.aO,.aO,.aO]),qw (.store 3 9 102),qm 10 103] [(.cons 0 none (.cons 1 none (.cons 2 none (.cons 3 none (.cons 4 none (.cons 5 none (.cons 6 none (.cons 7 none (.cons 8 none (.cons 9 none (.cons 10 none (.cons 11 none (.vn (.cons 12 (some []) (.cons 13 none (.cons 14 none (.cons 15 none (.cons 16 (some [11,7,3]) (.cons 17 (some []) (.cons 18 none .nil))))))) (.cons 16 (some [11,7,3]) (.cons 12 (some []) (.cons 13 none (.cons 14 none (.cons 15 none (.cons 17 (some []) (.cons 18 none .nil))))))))))))))))))))]) (.seq (.seq (.ai [qm 104 10,qu 105 (.aJ .eql 104 (qi 0))]) (.cond 105 (.ai [qm 106 0,qL 107 3 9,qu 108 (.aP 106),qf 109 0 108,qw (.store 3 109 107)]) .skip)) (.seq (.ai [qm 110 10,qu 111 (.build [qd 0,qd 0,qd 0,.aO] [(0,1,110)]),qw (.store 4 4 111)]) .ret))) .skip)))))))))) (.seq (.ai [qu 112 (.ua),qw (.vm (.i .i64) 112 (qi 20) (qi 2048)),qw (.vm (.i .i64) 112 (qi 21) (qi 1024)),qm 113 112,qm 114 1,qu 115 (.aP 114),qf 116 1 115,ql 117 116,qu 118 (.zQ (.one (qd 0)) (.i .i64) 113 117 false),qm 11 118]) (.cS (.seq (.ai [qm 120 0,qm 121 1,qu 122 (.aP 121),qf 123 2 122,ql 124 123,qm 125 11,qu 126 (qc 56 [120,124,125]),qm 119 126,qu 127 (.ext 119 0),qu 128 (.ext 119 1),qu 129 (.ext 119 2),qu 12 (.alloc [qd 0,qd 0]),qw (.store 2 12 127),qm 13 128,qm 14 129]) (.seq (.block 1 (.seq (.ai [qm 131 14,qu 132 (.aJ .neq 131 (qi 0)),qm 130 132]) (.cond 130 (.seq (.ai [qm 133 14,qu 134 (.build [qd 0,qd 0,qd 0,.aO] [(0,1,133)]),qw (.store 4 4 134)]) .ret) (.seq (.ai [qm 136 0,qu 137 (.aP 136),qf 138 0 137,qf 139 0 138,ql 140 139,qm 141 13,qu 142 (.cw 9 140 141),qf 143 0 142,ql 144 143,qu 145 (.aJ .neq 144 (qi 5)),qm 135 145]) (.cond 135 (.seq (.ai [qu 146 (.build [qd 0,qd 0,qd 0,.aO] [(0,1,qi 8)]),qw (.store 4 4 146)]) .ret) .skip))))) (.seq (.ai [qm 147 0,qu 148 (.aP 147),qf 149 0 148,qf 150 0 149,ql 151 150,qm 152 13,qu 153 (.cw 9 151 152),qf 154 6 153,ql 155 154,qm 15 155]) (.seq (.seq (.ai [qm 156 1,qu 157 (.aP 156),qf 158 1 157,ql 159 158,qu 160 (.aJ .eql 159 (qi 21))]) (.cond 160 (.seq (.seq (.ai [qm 161 0,qu 162 (.aP 161),qf 163 0 162,qL 164 3 163,qm 165 15,qu 166 (qc 29 [164,165])]) (.cond 166 (.seq (.ai [qu 167 (.build [qd 0,qd 0,qd 0,.aO] [(0,1,qi 16)]),qw (.store 4 4 167)]) .ret) .skip)) (.seq (.ai [qm 168 0,qu 169 (.aP 168),qf 170 0 169,qf 171 2 170,ql 172 171,qm 173 15,qu 174 (.cw 4 172 173),qf 175 2 174,ql 176 175,qu 177 (.build [qd 0,qd 0,qd 0,.aO] [(1,1,176)]),qw (.store 4 4 177)]) .ret)) .skip)) (.seq (.ai [qm 179 0,qu 180 (.aP 179),qf 181 0 180,qL 182 3 181,qm 183 15,qu 184 (qc 78 [182,183,qi 255]),qm 178 184,qu 185 (.ext 178 0),qu 186 (.ext 178 1),qu 16 (.alloc [.aO,.aO,.aO]),qw (.store 3 16 185),qm 14 186]) (.seq (.seq (.ai [qm 187 14,qu 188 (.aJ .eql 187 (qi 0))]) (.cond 188 (.ai [qm 189 0,qL 190 3 16,qu 191 (.aP 189),qf 192 0 191,qw (.store 3 192 190)]) .skip)) (.seq (.ai [qm 193 14,qu 194 (.build [qd 0,qd 0,qd 0,.aO] [(0,1,193)]),qw (.store 4 4 194)]) .ret)))))))))))⟩
namespace Kn
def kF(ps:List bl)(p:Nat):Bool:=match ps[p]? with|some x=>x.fenced|none=>false
def oQ(ps:List bl)(p:Nat):List bl:=match ps[p]? with|some x=>ps.set p {x with fenced:=true}|none=>ps
def FX(ps:List bl)(z:Int):Int:=match ps[z.toNat]? with|some x=>x.code|none=>0
def kg(k:Kr)(e:Kr×Int):Kr×An:=(if e.2=0 then e.1 else k,An.no e.2)
def pS(k:Kr)(f:Kr×Int×Int×Int):Kr×An:=if f.2.2.2≠0 then(k,An.no f.2.2.2)else(f.1,⟨0,f.2.1,f.2.2.1,[]⟩)
def tR(k:Kr)(c:Cl)(o:Obj):Kr×An:=
 if o.ah≠5 then(k,An.no 8)
 else if c.ah=21 then(if ft k.ps o.aA=true then(k,An.no 16)else(k,⟨0,FX k.ps o.aA,0,[]⟩))
 else kg k (ij k o.aA 255)
def mj(k:Kr)(c:Cl)(w:(Int×Int)×Int×Int):Kr×An:=if w.2.2≠0 then(k,An.no w.2.2)else tR k c (ld k.l w.2.1)
def eX(k:Kr)(p:Nat)(c:Cl):Kr×An:=
 if c.ah=1 then(⟨k.l,k.ops,oQ k.ps p⟩,⟨0,0,0,[]⟩)
 else if c.ah=22 then(k,⟨0,if kF k.ps p=true then 1 else 0,0,[]⟩)
 else if c.ah=18 then pS k (gD k p)
 else if c.ah=19 then kg k (ij k p c.n)
 else mj k c (bo k p c.fd (if c.ah=20 then 2048 else 1024))
def qG(x:Int):Prop:=x=1\/x=22\/x=18\/x=19\/x=20\/x=21
theorem l40:bu prog f40=some c40.er:=by kernel_rfl
def W8:LC:=bL (bL (bL c40.code))
def W9:LC:=qt W8
theorem FY(k:Kr)(p:Nat)(hw:KW k p)(c:Cl)(need:Int)(hq:∀o,o∈k.l->o.ah=5->∃n:Nat,o.aA=n/\n<k.ps.length):
  aw prog 2 W9 (QC c40.lK (mj k c (bo k p c.fd need)).1 p c (mj k c (bo k p c.fd need)).2)
   ⟨km 195 [(0,.rv (.one (.ptr 0 0))),(1,.rv (.one (.ptr 1 0))),(4,.rv (.one (.ptr 2 0))),(11,an .i64 need)],[xB k p,cB c,bW]⟩:=by
 refine ku k p hw c.fd need 0 rfl ?_;have hh:= @KW.held k p hw c.fd need;generalize bo k p c.fd need=w at hh|-;obtain⟨⟨o,r⟩,b,e⟩:=w;refine bs (λhe=>?_) (λhe=>?_)
 .have he:e≠0:=he;rw[mj,if_pos he];exact cY (X:=[_,_])
 have he:e=0:=he;subst he;obtain⟨n,j,h1,h2,h3,h4,h5⟩:=hh rfl;have h3:b=j:=h3;subst h3;have e1:mj k c ((o,r),((j:Nat):Int),0)=tR k c k.l[j]:=by rw[mj,if_neg aC,tO h4]
 rw[e1];have SC:=hq _ (aal h4);have hg:=iN h4;generalize k.l[j]=ob at SC hg|-;refine ag hg ?_;refine bs (λh6=>?_) (λh6=>?_)
 .have h6:ob.ah≠5:=h6;rw[tR,if_pos h6];exact cY (X:=[_,_])
 have h6:ob.ah=5:=h6;rw[tR,if_neg (λh=>h h6)]
 obtain⟨q,Ha,OG⟩:=SC h6;refine ag hg ?_;refine bp (λh7=>?_) (λh7=>?_)
 .have h7:c.ah=21:=h7;rw[if_pos h7];refine oF k.l k.ops k.ps ob.aA ?_;cases hl:ft k.ps ob.aA with
  |true=>
   rw[if_pos rfl];exact cY (X:=[_,_])
  |false=>
   rw[if_neg aC];have hc:FX k.ps ob.aA=k.ps[q].code:=by rw[FX,Ha,aac,uX OG]
   rw[hc];refine ag (x:=[.val (.bool k.ps[q].aQ),.val (.bool k.ps[q].fenced),.val (.int .i64 k.ps[q].code),yh k.ps[q].aV]) (by rw[Ha];exact dz OG) ?_
   exact cY (X:=[_,_])
 .have h7:¬c.ah=21:=h7;rw[if_neg h7];refine AP k hw.kr ob.aA 255 ?_;generalize ij k ob.aA 255=E;obtain⟨k2,e⟩:=E;refine bp (λhe=>?_) (λhe=>?_)
  .have he:e=0:=he;subst he;rw[kg,if_pos rfl];exact cY (X:=[_,_,_])
  .have he:¬e=0:=he;rw[kg,if_neg he];exact cY (X:=[_,_,_])
theorem Dm{ps:List bl}{n:Nat}(hn:n<ps.length):aW (af (ps.map bl.enc)) n ((bl.enc ⟨ps[n].aQ,true,ps[n].code,ps[n].aV⟩).map .aa)=af ((oQ ps n).map bl.enc):=by
 have:oQ ps n=ps.set n {ps[n]with fenced:=true}:=by rw[oQ,uX hn]
 rw[this,a8,af,af,abE,abE]
theorem Dn(k:Kr)(p:Nat)(hw:KW k p)(c:Cl)(hc:c.ah=1):
  body prog c40 [.rv (.one (.ptr 0 0)),.rv (.one (.ptr 1 0))] [xB k p,cB c] (TC ⟨k.l,k.ops,oQ k.ps p⟩ p c ⟨0,0,0,[]⟩):=by
 obtain⟨aA,ah,fd,fD,n,bt,ba,cJ,data⟩:=c;have hc:ah=1:=hc;subst hc;refine iI k.l k.ops k.ps hw.nT hw.kr.lo hw.kr.lp hw.kr.sl hw.kr.ne ?_;refine ag (mc hw.hp) ?_;refine ag (bH bl.enc k.ps hw.hp) ?_;refine⟨trivial,_,_,View.o 6 [0,1] [3,4,5] (.put Ni .nil) (.pt rfl rfl (TB (k:=⟨k.l,k.ops,oQ k.ps p⟩) (im rfl rfl) (im rfl rfl) (im rfl (congrArg (λx=>some (Bk.row 4 x)) (Dm hw.hp)))) (.pt rfl rfl (.eq rfl (cf _)) (.nil _))),rfl,rfl⟩
theorem FZ(k:Kr)(p:Nat)(hw:KW k p)(c:Cl)(hc:c.ah=22):
  body prog c40 [.rv (.one (.ptr 0 0)),.rv (.one (.ptr 1 0))] [xB k p,cB c] (TC k p c ⟨0,if kF k.ps p=true then 1 else 0,0,[]⟩):=by
 obtain⟨aA,ah,fd,fD,n,bt,ba,cJ,data⟩:=c;have hc:ah=22:=hc;subst hc;have hp:=hw.hp;have hf:kF k.ps p=k.ps[p].fenced:=by rw[kF,uX hp]
 rw[hf];refine ag (dz hp) ?_;cases k.ps[p].fenced with
 |true=>exact cY (X:=[_])
 |false=>exact cY (X:=[_])
theorem F0(k:Kr)(p:Nat)(hw:KW k p)(c:Cl)(hc:c.ah=18):
  body prog c40 [.rv (.one (.ptr 0 0)),.rv (.one (.ptr 1 0))] [xB k p,cB c] (TC (pS k (gD k p)).1 p c (pS k (gD k p)).2):=by
 obtain⟨aA,ah,fd,fD,n,bt,ba,cJ,data⟩:=c;have hc:ah=18:=hc;subst hc;have Xa:k.l.length<=4194303:=by have:=hw.l40;omega
 refine⟨?_,?_⟩
 .refine Hm k hw.kr Xa p ?_;generalize gD k p=F;obtain⟨k2,ch,fd,e⟩:=F;refine⟨trivial,⟨rfl,rfl,trivial⟩,trivial,?_⟩;refine bs (λhe=>?_) (λhe=>?_)
  .have he:e≠0:=he;rw[pS,if_pos he];exact cY (X:=[_,_])
  .have he:¬e≠0:=λh=>h he
   rw[pS,if_neg he];exact cY (k:=k2) (X:=[_,_])
 .refine⟨⟨rfl,rfl,trivial⟩,?_⟩;refine Hm k hw.kr Xa p ?_;generalize gD k p=F;obtain⟨k2,ch,fd,e⟩:=F;refine⟨trivial,trivial,?_⟩;refine bs (λhe=>?_) (λhe=>?_)
  .have he:e≠0:=he;rw[pS,if_pos he];exact cY (X:=[_,_])
  .have he:¬e≠0:=λh=>h he
   rw[pS,if_neg he];exact cY (k:=k2) (X:=[_,_])
theorem F3(k:Kr)(p:Nat)(hw:KW k p)(c:Cl)(hc:c.ah=19):
  body prog c40 [.rv (.one (.ptr 0 0)),.rv (.one (.ptr 1 0))] [xB k p,cB c] (TC (kg k (ij k p c.n)).1 p c (kg k (ij k p c.n)).2):=by
 obtain⟨aA,ah,fd,fD,n,bt,ba,cJ,data⟩:=c;have hc:ah=19:=hc;subst hc;show body prog c40 _ _ (TC (kg k (ij k p n)).1 p _ (kg k (ij k p n)).2);refine⟨?_,?_⟩
 .refine AP k hw.kr p n ?_;generalize ij k p n=F;obtain⟨k2,e⟩:=F;refine⟨trivial,⟨rfl,rfl,rfl,trivial⟩,trivial,?_⟩;refine bp (λhe=>?_) (λhe=>?_)
  .have he:e=0:=he;rw[kg,if_pos he];exact cY (k:=k2) (X:=[_,_])
  .have he:¬e=0:=he;rw[kg,if_neg he];exact cY (X:=[_,_])
 .refine⟨⟨rfl,rfl,rfl,trivial⟩,?_⟩;refine AP k hw.kr p n ?_;generalize ij k p n=F;obtain⟨k2,e⟩:=F;refine⟨trivial,trivial,?_⟩;refine bp (λhe=>?_) (λhe=>?_)
  .have he:e=0:=he;rw[kg,if_pos he];exact cY (k:=k2) (X:=[_,_])
  .have he:¬e=0:=he;rw[kg,if_neg he];exact cY (X:=[_,_])
theorem xk(k:Kr)(p:Nat)(hw:KW k p)(c:Cl)(hc:c.ah=20\/c.ah=21)(hq:∀o,o∈k.l->o.ah=5->∃n:Nat,o.aA=n/\n<k.ps.length):
  body prog c40 [.rv (.one (.ptr 0 0)),.rv (.one (.ptr 1 0))] [xB k p,cB c] (TC (mj k c (bo k p c.fd (if c.ah=20 then 2048 else 1024))).1 p c (mj k c (bo k p c.fd (if c.ah=20 then 2048 else 1024))).2):=by
 have hs:=λneed=>FY k p hw c need hq
 obtain⟨aA,ah,fd,fD,n,bt,ba,cJ,data⟩:=c;rcases hc with hc|hc
 .have hc:ah=20:=hc;subst hc;refine⟨_,View.o1 4 [0,1,2] [] ?_,hs 2048⟩
  .exact .pt rfl rfl (.eq rfl (bC _ _)) (.pt rfl rfl (.eq rfl (cf _)) (.pt rfl rfl (.eq rfl (by simp[bW])) (.nil _)))
 .have hc:ah=21:=hc;subst hc;refine⟨_,View.o1 4 [0,1,2] [] ?_,hs 1024⟩
  .exact .pt rfl rfl (.eq rfl (bC _ _)) (.pt rfl rfl (.eq rfl (cf _)) (.pt rfl rfl (.eq rfl (by simp[bW])) (.nil _)))
theorem jr(k:Kr)(p:Nat)(hw:KW k p)(c:Cl)(hc:qG c.ah)(hq:∀o,o∈k.l->o.ah=5->∃n:Nat,o.aA=n/\n<k.ps.length):
  aq prog 40 [.rv (.one (.ptr 0 0)),.rv (.one (.ptr 1 0))] [xB k p,cB c] (TC (eX k p c).1 p c (eX k p c).2):=by
 refine b8 func40 l40 ?_;rcases hc with hc|hc|hc|hc|hc|hc
 .rw[eX,if_pos hc];exact Dn k p hw c hc
 .rw[eX,if_neg om,if_pos hc];exact FZ k p hw c hc
 .rw[eX,if_neg om,if_neg om,if_pos hc];exact F0 k p hw c hc
 .rw[eX,if_neg om,if_neg om,if_neg om,if_pos hc];exact F3 k p hw c hc
 .rw[eX,if_neg om,if_neg om,if_neg om,if_neg om];exact xk k p hw c (.inl hc) hq
 .rw[eX,if_neg om,if_neg om,if_neg om,if_neg om];exact xk k p hw c (.inr hc) hq
end Kn
def c95:LF:= ⟨74,[.tmp 6],(.seq (.ai [qu 3 (.box 0),qu 6 (.aK (qi 0))]) (.seq (.seq (.ai [qf 7 0 3,ql 8 7]) (.block 0 (.seq (.ai [qu 10 (.aJ .eql 8 (qi 1)),qm 9 10]) (.cond 9 (.seq (.ai [qf 11 3 3,ql 12 11,qu 13 (.aJ .lss 12 (qi 0)),qm 14 13,qg 15 (.cj 3 3) 14 false,qg 16 (.load false 1 15) 14 false,qg 17 (.aJ .geq 16 (qi 6)) 14 false,qu 18 (.pick 14 (qb true) 17)]) (.cond 18 (.seq (.ai [qu 6 (.aK (qi 3))]) .ret) .skip)) (.seq (.seq (.ai [qu 20 (.aJ .eql 8 (qi 2)),qm 19 20]) (.cond 19 .skip (.seq (.ai [qu 21 (.aJ .eql 8 (qi 3)),qm 19 21]) (.cond 19 .skip (.ai [qu 22 (.aJ .eql 8 (qi 4)),qm 19 22]))))) (.cond 19 (.seq (.seq (.ai [qf 23 3 3,ql 24 23,qu 25 (.aJ .lss 24 (qi 0)),qm 26 25,qg 27 (.cj 3 3) 26 false,qg 28 (.load false 1 27) 26 false,qg 29 (.aJ .geq 28 (qi 2147483648)) 26 false,qu 30 (.pick 26 (qb true) 29),qm 31 30,qg 32 (.aK 1) 31 false,qg 33 (.cj 1 3) 31 false,qg 34 (.load false 1 33) 31 false,qg 35 (.aK 2) 31 false,qg 36 (qc 127 [32,34,qi 40,35]) 31 false,qg 37 (.un .not 36) 31 false,qu 38 (.pick 31 (qb true) 37),qm 39 38,qg 40 (.aK 1) 39 false,qg 41 (.cj 2 3) 39 false,qg 42 (.load false 1 41) 39 false,qg 43 (.aK 2) 39 false,qg 44 (qc 127 [40,42,qi 40,43]) 39 false,qg 45 (.un .not 44) 39 false,qu 46 (.pick 39 (qb true) 45)]) (.cond 46 (.seq (.ai [qu 6 (.aK (qi 3))]) .ret) .skip)) (.seq (.ai [qu 6 (.aK (qi 0))]) .ret)) (.seq (.ai [qu 48 (.aJ .eql 8 (qi 5)),qm 47 48]) (.cond 47 (.seq (.ai [qm 49 1,qf 50 3 3,ql 51 50,qm 52 2,qm 53 2,qu 54 (qc 127 [49,51,52,53]),qu 55 (.un .not 54)]) (.cond 55 (.seq (.ai [qu 6 (.aK (qi 3))]) .ret) .skip)) (.seq (.ai [qu 57 (.aJ .eql 8 (qi 6)),qm 56 57]) (.cond 56 (.seq (.ai [qf 58 3 3,ql 59 58,qu 60 (.aJ .neq 59 (qi 1)),qm 61 60,qg 62 (.cj 3 3) 61 true,qg 63 (.load false 1 62) 61 true,qg 64 (.aJ .neq 63 (qi 0)) 61 true,qu 65 (.pick 61 64 (qb false))]) (.cond 65 (.seq (.ai [qu 6 (.aK (qi 3))]) .ret) .skip)) (.seq (.ai [qu 6 (.aK (qi 1))]) .ret))))))))))) (.seq (.seq (.ai [qf 66 1 3,ql 67 66,qu 68 (.aJ .neq 67 (qi 0)),qm 69 68,qg 70 (.cj 2 3) 69 false,qg 71 (.load false 1 70) 69 false,qg 72 (.aJ .neq 71 (qi 0)) 69 false,qu 73 (.pick 69 (qb true) 72)]) (.cond 73 (.seq (.ai [qu 6 (.aK (qi 2))]) .ret) .skip)) (.seq (.ai [qu 6 (.aK (qi 0))]) .ret))))⟩
def c127:LF:= ⟨24,[.tmp 8],(.seq (.ai [qu 8 (.aK (qb false))]) (.seq (.ai [qm 9 1,qu 10 (.aJ .geq 9 (qi 0)),qm 11 10,qg 12 (.aK 1) 11 true,qg 13 (.aK 2) 11 true,qg 14 (.aJ .leq 12 13) 11 true,qu 15 (.pick 11 14 (qb false)),qm 16 15,qg 17 (.aK 0) 16 true,qg 18 (.aJ .add 17 (qi 1)) 16 true,qg 19 (.aK 1) 16 true,qg 20 (.aJ .add 18 19) 16 true,qg 21 (.aK 3) 16 true,qg 22 (.aJ .lss 20 21) 16 true,qu 23 (.pick 16 22 (qb false)),qm 8 23]) .ret))⟩
structure dA where
 op:Int
 jt:Int
 jf:Int
 k:Int
 deriving DecidableEq
def dA.enc(i:dA):List Dt:=[.val (.int .i64 i.op),.val (.int .i64 i.jt),.val (.int .i64 i.jf),.val (.int .i64 i.k)]
def dA.cv(i:dA):CV:= .rv (.agg (i.enc.map .aa))
def xl(l:List dA):Dt:= .sl 4 (l.map dA.enc)
def sr(l:List dA):CV:= .rv (.one (.aa (xl l)))
def Bi(f:Int×Int):CV:= .rv (.agg [.aa (.val (.int .i64 f.1)),.aa (.val (.int .i64 f.2))])
def nP(a n xm s:Int):Bool:=decide (n>=0)&&decide (n<=xm)&&decide (a+1+n<s)
theorem l127:bu prog f127=some c127:=by kernel_rfl
theorem JC(a n xm s:Int)(ha:0<=a)(UF:a<=4194304)(hm:xm<=4194304):body prog c127 [an .i64 a,an .i64 n,an .i64 xm,an .i64 s] [] (λr m=>r=aE (nP a n xm s)):=by
 refine aM (λh=>?_) (λh=>?_)
 .refine aM (λh2=>?_) (λh2=>?_)
  .have e1:n>=0:=of_decide_eq_true h;have e2:n<=xm:=of_decide_eq_true h2;show aE _=aE _;rw[nP,h,h2,ic (n:=a+1) om om,ic om om];rfl
  .show aE _=aE _;rw[nP,h,h2];rfl
 .show aE _=aE _;rw[nP,h];rfl
theorem P4(a n xm s:Int)(ha:0<=a)(UF:a<=4194304)(hm:xm<=4194304){m:Mem}{K:CV->Mem->Prop}(h:K (aE (nP a n xm s)) m):aq prog 127 [an .i64 a,an .i64 n,an .i64 xm,an .i64 s] m K:=
 bv func127 l127 rfl (aae rfl) (JC a n xm s ha UF hm) rfl rfl h
def xn(i:dA):Int:=if(i.jt !=0)||(i.jf !=0)then 2 else 0
def ix(i:dA)(a s:Int):Int:=
 if(i.op==1)then(if(decide (i.k<0)||decide (i.k>=6))then 3 else xn i)
 else if(i.op==2)||(i.op==3)||(i.op==4)then(if(decide (i.k<0)||decide (i.k>=2147483648)|| !nP a i.jt 40 s|| !nP a i.jf 40 s)then 3 else 0)
 else if(i.op==5)then(if !nP a i.k s s then 3 else xn i)
 else if(i.op==6)then(if(i.k !=1)&&(i.k !=0)then 3 else xn i)
 else 1
theorem l95:bu prog f95=some c95:=by kernel_rfl
theorem F4(i:dA)(a s:Int)(ha:0<=a)(UF:a<=4194304)(hs:s<=4194304):body prog c95 [i.cv,an .i64 a,an .i64 s] [] (λr m=>r=an .i64 (ix i a s)):=by
 repeat' (first
  |(refine aM (λh=>?_) (λh=>?_))
  |(refine P4 _ _ _ _ ha UF om ?_))
 all_goals(show an .i64 _=an .i64 _;refine congrArg _ ?_;simp only[ix,xn, *];try(first|rfl|simp[*]))
theorem Nu(i:dA)(a s:Int)(ha:0<=a)(UF:a<=4194304)(hs:s<=4194304){m:Mem}{K:CV->Mem->Prop}(h:K (an .i64 (ix i a s)) m):aq prog 95 [i.cv,an .i64 a,an .i64 s] m K:=
 bv func95 l95 rfl (aae rfl) (F4 i a s ha UF hs) rfl rfl h
def c53:LF:= ⟨46,[.cell true 2 2],(.seq (.ai [qu 2 (.alloc [qd 0,qd 0])]) (.seq (.seq (.ai [qm 6 0,qu 7 (.len 1 6),qu 8 (.aJ .lss 7 (qi 1)),qm 9 8,qg 10 (.aK 0) 9 false,qg 11 (.len 1 10) 9 false,qg 12 (.aJ .gtr 11 (qi 400)) 9 false,qu 13 (.pick 9 (qb true) 12)]) (.cond 13 (.seq (.ai [qu 14 (.build [qd 0,qd 0] [(0,1,qi 5)]),qw (.store 2 2 14)]) .ret) .skip)) (.seq (.seq (.ai [qm 15 0,qu 16 (.len 1 15),qu 17 (.aK (qi 0))]) (.block 0 (.loop (.seq (.ai [qu 18 (.aJ .lss 17 16)]) (.seq (.cond 18 .skip (.exit 0)) (.seq (.block 1 (.seq (.ai [qm 19 17,qu 20 (.cw 4 15 17),qL 21 4 20,qu 4 (.alloc [qd 0,qd 0,qd 0,qd 0]),qm 3 19,qw (.store 4 4 21)]) (.seq (.ai [qL 22 4 4,qm 23 3,qm 24 0,qu 25 (.len 1 24),qu 26 (qc 95 [22,23,25]),qm 5 26]) (.seq (.ai [qm 27 5,qu 28 (.aJ .neq 27 (qi 0))]) (.cond 28 (.seq (.ai [qm 29 5,qm 30 3,qu 31 (.build [qd 0,qd 0] [(0,1,29),(1,1,30)]),qw (.store 2 2 31)]) .ret) .skip))))) (.ai [qu 32 (.aJ .add 17 (qi 1)),qm 17 32]))))))) (.seq (.seq (.ai [qm 33 0,qm 34 0,qu 35 (.len 1 34),qu 36 (.aJ .sub 35 (qi 1)),qu 37 (.cw 4 33 36),qf 38 0 37,ql 39 38,qu 40 (.aJ .neq 39 (qi 6))]) (.cond 40 (.seq (.ai [qm 41 0,qu 42 (.len 1 41),qu 43 (.aJ .sub 42 (qi 1)),qu 44 (.build [qd 0,qd 0] [(0,1,qi 2),(1,1,43)]),qw (.store 2 2 44)]) .ret) .skip)) (.seq (.ai [qu 45 (.build [qd 0,qd 0] []),qw (.store 2 2 45)]) .ret)))))⟩
def uZ(s:Int):Nat->List dA->Int×Int
 |_,[]=>(0,0)
 |k,i::r=>if ix i (k:Int) s=0 then uZ s (k+1) r else(ix i (k:Int) s,(k:Int))
theorem Bj(s:Int):∀(l:List dA)(k:Nat),(∀(j:Nat)i,l[j]? =some i->ix i ((k+j:Nat):Int) s=0)->uZ s k l=(0,0)
 | [],_,_=>rfl
 |i::r,k,h=>by
  rw[uZ,if_pos (by simpa using h 0 i rfl)]
  exact Bj s r (k+1) λj x hx=>by
   have:=h (j+1) x (by simpa using hx)
   rwa [show k+(j+1)=k+1+j by omega]at this
theorem Dp(s:Int):∀(l:List dA)(k j:Nat)(i:dA),l[j]? =some i->(∀(j':Nat)i,j'<j->l[j']? =some i->ix i ((k+j':Nat):Int) s=0)->ix i ((k+j:Nat):Int) s≠0->uZ s k l=(ix i ((k+j:Nat):Int) s,((k+j:Nat):Int))
 | [],_,j,i,h,_,_=>by simp at h
 |x::r,k,0,i,h,_,hb=>by
  simp at h;subst h;rw[uZ,if_neg (by simpa using hb)];rfl
 |x::r,k,j+1,i,h,hg,hb=>by
  rw[uZ,if_pos (by simpa using hg 0 x om rfl)]
  rw[show k+(j+1)=k+1+j by omega]at hb|-
  exact Dp s r (k+1) j i (by simpa using h) (λj' y hj hy=>by
   have:=hg (j'+1) y om (by simpa using hy)
   rwa [show k+(j'+1)=k+1+j' by omega]at this) hb
def jV(p:List dA):Int×Int:=
 if p.length<1\/p.length>400 then(5,0)
 else if(uZ p.length 0 p).1≠0 then uZ p.length 0 p
 else match p[p.length-1]? with
  |some i=>if i.op=6 then(0,0)else(2,((p.length-1:Nat):Int))
  |none=>(0,0)
theorem l53:bu prog f53=some c53:=by kernel_rfl
theorem F5(p:List dA):body prog c53 [sr p] [] (λr m=>r=Bi (jV p)):=by
 refine aM (λh=>?_) (λh0=>?_)
 .have h:p.length<1:=by have h:(((p.map dA.enc).length:Nat):Int)<1:=of_decide_eq_true h;rw[ML]at h;omega
  rw[jV,if_pos (.inl h)];exact rfl
 .refine aM (λh=>?_) (λh1=>?_)
  .have h:p.length>400:=by have h:(((p.map dA.enc).length:Nat):Int)>400:=of_decide_eq_true h;simp at h;omega
   rw[jV,if_pos (.inr h)];exact rfl
  .have h0:¬p.length<1:=by have h:¬(((p.map dA.enc).length:Nat):Int)<1:=of_decide_eq_false h0;rw[ML]at h;omega
   have h1:¬p.length>400:=by have h:¬(((p.map dA.enc).length:Nat):Int)>400:=of_decide_eq_false h1;rw[ML]at h;omega
   have hc:jV p=if(uZ p.length 0 p).1≠0 then uZ p.length 0 p else match p[p.length-1]? with
     |some i=>if i.op=6 then(0,0)else(2,((p.length-1:Nat):Int))
     |none=>(0,0):=by rw[jV,if_neg om]
   refine rG (λk=>k<=p.length/\∀(j:Nat)i,j<k->p[j]? =some i->ix i (j:Int) p.length=0) (λk=>[(17,an .i64 (k:Nat)),(3,.ap),(4,.ap),(5,.ap),(18,.ap),(19,.ap),(20,.ap),(21,.ap),(22,.ap),(23,.ap),(24,.ap),(25,.ap),(26,.ap),(27,.ap),(28,.ap),(32,.ap)])
    (λk=>[.var [.aa (.val (.int .i64 0)),.aa (.val (.int .i64 0))]]) (λk=>p.length-k) 0 ⟨aaj _,λj i h=>absurd h (abi j)⟩ ?_ (λk hk=>?_)
   .refine View.o1 1 [0] [] ?_
    .exact .put (by simp[bw]) rfl (.eq rfl aC) (.nil _)
   .refine aM (λh=>?_) (λh=>?_)
    .have aD:k<p.length:=by have h:(k:Int)<((p.map dA.enc).length:Int):=of_decide_eq_true h;rw[ML]at h;omega
     have hg:dx (p.map dA.enc) (k:Nat)=some (p[k].enc):=by rw[bA,RA,uX aD];rfl
     have hlen:(((p.map dA.enc).length:Nat):Int)=(p.length:Int):=by rw[ML]
     refine ag hg ?_;have ur:∀{m:Mem}{K:CV->Mem->Prop},K (an .i64 (ix p[k] k p.length)) m->aq prog 95 [p[k].cv,an .i64 k,an .i64 (((p.map dA.enc).length:Nat):Int)] m K:=by intro m K h;rw[hlen];exact Nu _ _ _ om om om h
     refine ur ?_;refine aM (λh3=>?_) (λh3=>?_)
     .have h3:ix p[k] k p.length≠0:=by simpa using h3
      have:=Dp p.length p 0 k p[k] (uX aD) (λj i hj hi=>by simpa using hk.2 j i hj hi) (by simpa using h3)
      rw[abb]at this;rw[hc,this,if_pos h3];exact rfl
     .have h3:ix p[k] k p.length=0:=by simpa using h3
      refine⟨k+1,⟨aD,λj i hj hi=>?_⟩,?_,View.o 2 [0] [] ?_ ?_⟩
      .rcases aad j k with h5|h5
       .exact hk.2 j i h5 hi
       .have:j=k:=om;subst this;rw[uX aD]at hi;cases hi;exact h3
      .show p.length-(k+1)<p.length-k;omega
      .repeat(first|exact .nil|refine .ap ?_|refine .put (.aU (aN om).symm) ?_|refine .eq rfl ?_)
      .exact .put (by simp[bw]) rfl (.eq rfl aC) (.nil _)
    .have d7:¬(k:Int)<((p.map dA.enc).length:Int):=of_decide_eq_false h;rw[ML]at d7;have fI:=Bj p.length p 0 λj i hi=>by have:=(I4.1 hi).1;simpa using hk.2 j i om hi
     rw[hc,fI,if_neg aC];have lX:p.length-1<p.length:=om;rw[uX lX];have hw:IntKind.i64.wrap ((((p.map dA.enc).length:Nat):Int)-1)=((p.length-1:Nat):Int):=by rw[ML,ic om om];omega
     have hg:dx (p.map dA.enc) (IntKind.i64.wrap ((((p.map dA.enc).length:Nat):Int)-1))=some (p[p.length-1].enc):=by rw[hw,bA,RA,uX lX];rfl
     refine ag hg ?_;refine aM (λh3=>?_) (λh3=>?_)
     .have h3:p[p.length-1].op≠6:=by simpa using h3
      show Bi (2,IntKind.i64.wrap ((((p.map dA.enc).length:Nat):Int)-1))=_;rw[hw];simp only;rw[if_neg h3]
     .have h3:p[p.length-1].op=6:=by simpa using h3
      simp only;rw[if_pos h3];exact rfl
theorem Nv(p:List dA){m:Mem}{K:CV->Mem->Prop}(h:K (Bi (jV p)) m):aq prog 53 [sr p] m K:=
 bv func53 l53 rfl (aae rfl) (F5 p) rfl rfl h
end Go.Proofs.YtodckkkbiidffaaGreatDoor
namespace Go.Proofs.YtodckkkbiidffaaGreatDoor
open Go.AM Go.ChangeShapes Go.WideShapes Go.ChangeAt Go.RowKit
theorem F6(jt jf k a s:Int):ix ⟨1,jt,jf,k⟩ a s=if k<0\/k>=6 then 3 else if jt≠0\/jf≠0 then 2 else 0:=by simp[ix,xn,<-Bool.decide_or]
theorem tS(o jt jf k a s:Int)(ho:o=2\/o=3\/o=4):ix ⟨o,jt,jf,k⟩ a s=if k<0\/k>=2147483648\/jt<0\/jf<0\/jt>40\/jf>40\/jt>s-a-2\/jf>s-a-2 then 3 else 0:=by
 have h1:(o==1)=false:=by rcases ho with rfl|rfl|rfl<;>rfl
 have h2:((o==2)||(o==3)||(o==4))=true:=by rcases ho with rfl|rfl|rfl<;>rfl
 simp only[ix,h1,h2,abQ,if_false,if_true];by_cases hc:k<0\/k>=2147483648\/jt<0\/jf<0\/jt>40\/jf>40\/jt>s-a-2\/jf>s-a-2
 .rw[if_pos hc,if_pos];simp only[nP,abU,abP,acv,decide_eq_true_eq,decide_eq_false_iff_not];omega
 .rw[if_neg hc,if_neg];simp only[nP,abU,abP,acv,decide_eq_true_eq,decide_eq_false_iff_not];omega
theorem Nw(jt jf k a s:Int)(ha:0<=a):ix ⟨5,jt,jf,k⟩ a s=if k<0\/k>s-a-2 then 3 else if jt≠0\/jf≠0 then 2 else 0:=by
 have e:(!nP a k s s)=decide (k<0\/k>s-a-2):=by rw[acZ];simp only[nP,abP,acv,decide_eq_true_eq,decide_eq_false_iff_not];omega
 simp[ix,e,xn,<-Bool.decide_or]
theorem xp(jt jf k a s:Int):ix ⟨6,jt,jf,k⟩ a s=if k≠0/\k≠1 then 3 else if jt≠0\/jf≠0 then 2 else 0:=by simp[ix,xn,<-Bool.decide_or,<-Bool.decide_and];simp only[and_comm]
theorem TF(o jt jf k a s:Int)(ho:o<1\/o>6):ix ⟨o,jt,jf,k⟩ a s=1:=by
 have h:∀c:Int,1<=c->c<=6->(o==c)=false:=λc h1 h2=>by rw[beq_eq_false_iff_ne];omega
 simp[ix,h 1 om om,h 2 om om,h 3 om om,h 4 om om,h 5 om om,h 6 om om]
end Go.Proofs.YtodckkkbiidffaaGreatDoor
namespace Go.Proofs.YtodckkkbiidffaaGreatDoor
open Proofs.Tryz
open Go.AM Go.ChangeShapes Go.WideShapes Go.ChangeAt Go.RowKit
def c30:LF:= ⟨75,[.tmp 4,.tmp 5],(.seq (.ai [qu 3 (.box 1),qu 4 (.aK (qi 0)),qu 5 (.aK (qi 0))]) (.seq (.seq (.ai [qm 11 0,qu 12 (qc 53 [11]),qu 6 (.alloc [qd 0,qd 0]),qw (.store 2 6 12)]) (.seq (.ai [qf 13 0 6,ql 14 13,qu 15 (.aJ .neq 14 (qi 0))]) (.cond 15 (.seq (.ai [qu 4 (.aK (qi 0)),qu 5 (.aK (qi 0))]) .ret) .skip))) (.seq (.ai [qu 7 (.aK (qi 0))]) (.seq (.ai [qu 8 (.aK (qi 0))]) (.block 0 (.loop (.seq (.block 1 (.seq (.ai [qm 18 0,qm 19 8,qu 20 (.cw 4 18 19),qL 21 4 20,qu 9 (.alloc [qd 0,qd 0,qd 0,qd 0]),qw (.store 4 9 21)]) (.seq (.ai [qu 10 (.aK (qb false))]) (.seq (.seq (.ai [qf 22 0 9,ql 23 22]) (.block 2 (.seq (.ai [qu 25 (.aJ .eql 23 (qi 1)),qm 24 25]) (.cond 24 (.seq (.ai [qf 26 3 9,ql 27 26,qu 28 (.BN 6 1 3 27),ql 29 28,qm 7 29]) (.seq (.ai [qm 30 8,qu 31 (.aJ .add 30 (qi 1)),qm 8 31]) (.exit 1))) (.seq (.ai [qu 33 (.aJ .eql 23 (qi 5)),qm 32 33]) (.cond 32 (.seq (.ai [qm 34 8,qf 35 3 9,ql 36 35,qu 37 (.aJ .add (qi 1) 36),qu 38 (.aJ .add 34 37),qm 8 38]) (.exit 1)) (.seq (.ai [qu 40 (.aJ .eql 23 (qi 6)),qm 39 40]) (.cond 39 (.seq (.ai [qf 41 3 9,ql 42 41,qm 43 5,qu 44 (.aJ .add 43 (qi 1)),qm 4 42,qm 5 44]) .ret) (.seq (.ai [qu 46 (.aJ .eql 23 (qi 2)),qm 45 46]) (.cond 45 (.ai [qm 47 7,qf 48 3 9,ql 49 48,qu 50 (.aJ .eql 47 49),qm 10 50]) (.seq (.ai [qu 52 (.aJ .eql 23 (qi 3)),qm 51 52]) (.cond 51 (.ai [qm 53 7,qf 54 3 9,ql 55 54,qu 56 (.aJ .geq 53 55),qm 10 56]) (.seq (.ai [qu 58 (.aJ .eql 23 (qi 4)),qm 57 58]) (.cond 57 (.ai [qm 59 7,qf 60 3 9,ql 61 60,qu 62 (.aJ .and 59 61),qu 63 (.aJ .neq 62 (qi 0)),qm 10 63]) .skip)))))))))))))) (.seq (.ai [qm 64 10]) (.cond 64 (.ai [qm 65 8,qf 66 1 9,ql 67 66,qu 68 (.aJ .add (qi 1) 67),qu 69 (.aJ .add 65 68),qm 8 69]) (.ai [qm 70 8,qf 71 2 9,ql 72 71,qu 73 (.aJ .add (qi 1) 72),qu 74 (.aJ .add 70 73),qm 8 74]))))))) (.ai [qm 16 5,qu 17 (.aJ .add 16 (qi 1)),qm 5 17]))))))))⟩
structure pT where
 r0:Int
 r1:Int
 r2:Int
 r3:Int
 r4:Int
 r5:Int
def pT.enc(r:pT):List Dt:=[.val (.int .i64 r.r0),.val (.int .i64 r.r1),.val (.int .i64 r.r2),.val (.int .i64 r.r3),.val (.int .i64 r.r4),.val (.int .i64 r.r5)]
def pT.cv(r:pT):CV:= .rv (.agg (r.enc.map .aa))
def pT.get(r:pT):Nat->Int
 |0=>r.r0
 |1=>r.r1
 |2=>r.r2
 |3=>r.r3
 |4=>r.r4
 |_=>r.r5
theorem pT.aaV(r:pT){k:Nat}(h:k<6):iX (r.enc.map .aa) (0+k*1) 1=some [.aa (.val (.int .i64 (r.get k)))]:=by
 rw[show 0+k*1=k by omega]
 apply yZ
 match k,h with
 |0,_=>rfl
 |1,_=>rfl
 |2,_=>rfl
 |3,_=>rfl
 |4,_=>rfl
 |5,_=>rfl
def Nx(a b:Int):Int:=IntKind.i64.wrap ((BitVec.ofInt 64 a&&&BitVec.ofInt 64 b).toNat:Int)
def sH(i:dA)(cZ:Int)(r:pT):Nat×Int:=
 if i.op=1 then(1,r.get i.k.toNat)
 else if i.op=5 then(1+i.k.toNat,cZ)
 else if(if i.op=2 then cZ==i.k else if i.op=3 then decide (cZ>=i.k)else if i.op=4 then Nx cZ i.k !=0 else false)=true then(1+i.jt.toNat,cZ)
 else(1+i.jf.toNat,cZ)
theorem Ny(x y:Nat)(k cZ:Int)(r:pT):(cZ=k->sH ⟨2,x,y,k⟩ cZ r=(1+x,cZ))/\(cZ≠k->sH ⟨2,x,y,k⟩ cZ r=(1+y,cZ)):=
 ⟨λh=>by subst h;simp[sH],λh=>by simp[sH,h]⟩
theorem Nz(x y:Nat)(k cZ:Int)(r:pT):(cZ>=k->sH ⟨3,x,y,k⟩ cZ r=(1+x,cZ))/\(¬cZ>=k->sH ⟨3,x,y,k⟩ cZ r=(1+y,cZ)):=
 ⟨λh=>by simp[sH];omega,λh=>by simp[sH];omega⟩
theorem NA(x y:Nat)(k cZ:Int)(r:pT):(Nx cZ k≠0->sH ⟨4,x,y,k⟩ cZ r=(1+x,cZ))/\(Nx cZ k=0->sH ⟨4,x,y,k⟩ cZ r=(1+y,cZ)):=
 ⟨λh=>by simp[sH,h],λh=>by simp[sH,h]⟩
theorem P5(i:dA)(cZ:Int)(r:pT):1<=(sH i cZ r).1:=by
 unfold sH;repeat' split
 all_goals simp
def gA(p:List dA)(r:pT)(a:Nat)(cZ:Int):Int×Int:=
 if h:a<p.length then
  if p[a].op=6 then(p[a].k,1)
  else((gA p r (a+(sH p[a] cZ r).1) (sH p[a] cZ r).2).1,(gA p r (a+(sH p[a] cZ r).1) (sH p[a] cZ r).2).2+1)
 else(0,0)
 termination_by p.length-a
 decreasing_by
 all_goals
  have:=P5 p[a] cZ r;omega
theorem kN{p:List dA}{r:pT}{a:Nat}{cZ:Int}{i:dA}(h:p[a]? =some i)(ho:i.op=6):gA p r a cZ=(i.k,1):=by obtain⟨aD,rfl⟩:=I4.1 h;rw[gA,dif_pos aD,if_pos ho]
theorem fb{p:List dA}{r:pT}{a:Nat}{cZ:Int}{i:dA}(h:p[a]? =some i)(ho:i.op≠6){d:Nat}{acc2:Int}(hn:sH i cZ r=(d,acc2)):gA p r a cZ=((gA p r (a+d) acc2).1,(gA p r (a+d) acc2).2+1):=by obtain⟨aD,rfl⟩:=I4.1 h;rw[gA,dif_pos aD,if_neg ho,hn]
theorem Dq(s:Int):∀(l:List dA)(k:Nat),(uZ s k l).1=0->∀(j:Nat)i,l[j]? =some i->ix i ((k+j:Nat):Int) s=0
 | [],_,_,j,i,h=>by simp at h
 |x::r,k,h,j,i,hi=>by
  simp only[uZ]at h;split at h
  .rename_i h0;cases j with
   |zero=>simp at hi;subst hi;simpa using h0
   |succ j=>
    have:=Dq s r (k+1) h j i (by simpa using hi)
    rwa [show k+1+j=k+(j+1) by omega]at this
  .rename_i h0;exact absurd h h0
theorem zy{p:List dA}(h:(jV p).1=0):1<=p.length/\p.length<=400/\(∀(j:Nat)i,p[j]? =some i->ix i (j:Int) p.length=0)/\∃i,p[p.length-1]? =some i/\i.op=6:=by
 unfold jV at h;split at h
 .simp at h
 .rename_i hl;split at h
  .rename_i hc;exact absurd h hc
  .rename_i hc;have fI:=Dq p.length p 0 (by simpa using hc)
   refine⟨om,om,λj i hi=>by simpa using fI j i hi,?_⟩
   have aD:p.length-1<p.length:=om;rw[uX aD]at h|-;simp only at h;split at h
   .rename_i h6;exact⟨_,rfl,h6⟩
   .simp at h
theorem P6{i:dA}{a s:Int}(h:ix i a s=0):i.op=1\/i.op=2\/i.op=3\/i.op=4\/i.op=5\/i.op=6:=by
 by_cases ho:i.op<1\/i.op>6
 .have:=TF i.op i.jt i.jf i.k a s ho;have e:ix ⟨i.op,i.jt,i.jf,i.k⟩ a s=ix i a s:=rfl;omega
 .omega
theorem JD{p:List dA}(h:(jV p).1=0){a:Nat}{o jt jf k:Int}(hi:p[a]? =some ⟨o,jt,jf,k⟩):
  (o=1/\0<=k/\k<6/\a+1<p.length)\/((o=2\/o=3\/o=4)/\0<=jt/\0<=jf/\a+1+jt.toNat<p.length/\a+1+jf.toNat<p.length/\jt<=40/\jf<=40)\/(o=5/\0<=k/\a+1+k.toNat<p.length)\/(o=6/\(k=0\/k=1)):=by
 obtain⟨h1,h2,h3,i6,h4,h5⟩:=zy h;have he:=h3 a _ hi;have aD:=(I4.1 hi).1;rcases P6 he with ho|ho|ho|ho|ho|ho<;>simp only at ho<;>subst ho
 .rw[F6]at he;have dt:a≠p.length-1:=λe=>by rw[<-e,hi]at h4;cases h4;simp at h5
  split at he
  .simp at he
  .exact .inl ⟨rfl,om,om,om⟩
 .rw[tS _ _ _ _ _ _ om]at he;split at he
  .simp at he
  .exact .inr (.inl ⟨om,om,om,om,om,om,om⟩)
 .rw[tS _ _ _ _ _ _ om]at he;split at he
  .simp at he
  .exact .inr (.inl ⟨om,om,om,om,om,om,om⟩)
 .rw[tS _ _ _ _ _ _ om]at he;split at he
  .simp at he
  .exact .inr (.inl ⟨om,om,om,om,om,om,om⟩)
 .rw[Nw _ _ _ _ _ om]at he;split at he
  .simp at he
  .exact .inr (.inr (.inl ⟨rfl,om,om⟩))
 .rw[xp]at he;split at he
  .simp at he
  .exact .inr (.inr (.inr ⟨rfl,om⟩))
def tT(p:List dA)(r:pT):Int×Int:=if(jV p).1=0 then gA p r 0 0 else(0,0)
theorem l30:bu prog f30=some c30:=by kernel_rfl
def RM(x:Int×Int):CV:= .bz [cK x.1,cK x.2]
theorem TG{s:Nat}(h:s<9223372036854775807):((s+1:Nat):Int)=IntKind.i64.wrap ((s:Int)+1):=by
 rw[show(s:Int)+1=((s+1:Nat):Int) by omega,nI om]
theorem NB(p:List dA)(r:pT):body prog c30 [sr p,r.cv] [] (λx m=>x=RM (tT p r)):=by
 refine Nv p ?_;refine bs (λh=>?_) (λh=>?_)
 .have e:tT p r=(0,0):=by rw[tT,if_neg h]
  rw[e];exact rfl
 .have e:tT p r=gA p r 0 0:=by rw[tT,if_pos h]
  rw[e];obtain⟨g1,g2,g3,_⟩:=zy h;refine rG (α:=Nat×Int×Nat) (λx=>x.1<p.length/\x.2.2<=x.1/\(gA p r x.1 x.2.1).1=(gA p r 0 0).1/\(gA p r x.1 x.2.1).2+x.2.2=(gA p r 0 0).2)
   (λx=>[(8,an .i64 (x.1:Nat)),(7,an .i64 x.2.1),(5,an .i64 (x.2.2:Nat)),(6,.ap),(9,.ap),(10,.ap),(11,.ap),(12,.ap),(13,.ap),(14,.ap),(15,.ap),(16,.ap),(17,.ap),(18,.ap),(19,.ap),(20,.ap),(21,.ap),(22,.ap),(23,.ap),(24,.ap),(25,.ap),(26,.ap),(27,.ap),(28,.ap),(29,.ap),(30,.ap),(31,.ap),(32,.ap),(33,.ap),(34,.ap),(35,.ap),(36,.ap),(37,.ap),(38,.ap),(39,.ap),(40,.ap),(41,.ap),(42,.ap),(43,.ap),(44,.ap),(45,.ap),(46,.ap),(47,.ap),(48,.ap),(49,.ap),(50,.ap),(51,.ap),(52,.ap),(53,.ap),(54,.ap),(55,.ap),(56,.ap),(57,.ap),(58,.ap),(59,.ap),(60,.ap),(61,.ap),(62,.ap),(63,.ap),(64,.ap),(65,.ap),(66,.ap),(67,.ap),(68,.ap),(69,.ap),(70,.ap),(71,.ap),(72,.ap),(73,.ap),(74,.ap)])
   (λx=>[.var (r.enc.map .aa)]) (λx=>p.length-x.1) (0,0,0) ⟨by show 0<p.length;omega,Ts 0,rfl,aC⟩ ?_ (λx hJ=>?_)
  .refine View.o1 2 [0] [] ?_
   .exact .put (by simp[bw]) rfl (.eq rfl aC) (.nil _)
  .obtain⟨a,cZ,s⟩:=x;obtain⟨aD,zi,rC,qB⟩:=hJ;have aD:a<p.length:=aD;have zi:s<=a:=zi;have rC:(gA p r a cZ).1=(gA p r 0 0).1:=rC;have qB:(gA p r a cZ).2+s=(gA p r 0 0).2:=qB;have hi:=uX aD;generalize p[a]=i at hi;obtain⟨o,jt,jf,k⟩:=i;have hg:dx (p.map dA.enc) (a:Nat)=some [.val (.int .i64 o),.val (.int .i64 jt),.val (.int .i64 jf),.val (.int .i64 k)]:=by rw[bA,RA,hi];rfl
   have next:∀(d:Nat)(acc2:Int),gA p r a cZ=((gA p r (a+d) acc2).1,(gA p r (a+d) acc2).2+1)->(1<=d/\a+d<p.length)->∀{G:Prop},
     (((a+d<p.length)/\s+1<=a+d/\(gA p r (a+d) acc2).1=(gA p r 0 0).1/\(gA p r (a+d) acc2).2+((s+1:Nat):Int)=(gA p r 0 0).2)->(p.length-(a+d)<p.length-a)->G)->G:=by
    intro d acc2 hw hd G hG;refine hG ⟨hd.2,om,?_,?_⟩ om
    .rw[<-rC,hw]
    .rw[<-qB,hw];simp only;omega
   refine ag hg ?_;rcases JD h hi with⟨rfl,k1,k2,k3⟩|⟨ho,j1,j2,j3,j4,j5,j6⟩|⟨rfl,k1,k2⟩|⟨rfl,k1⟩
   .obtain⟨n,rfl⟩:∃n:Nat,k=n:=⟨k.toNat,om⟩;refine ag (cr om) ?_;refine ag (r.aaV om) ?_;refine next 1 (r.get n) (fb hi aC (by simp[sH])) om (λhJ hm=>?_)
    exact⟨(a+1,r.get n,s+1),hJ,hm,View.o 2 [0] [] (by
     repeat(first|exact .nil|refine .ap ?_|refine .put (.aU (aN om).symm) ?_|refine .eq rfl ?_|refine .eq (congrArg (λx=>an .i64 x) ((by rw[nI (n:=a+1) om]:((a+1:Nat):Int)=_))) ?_)) (.put (by simp[bw]) rfl (.eq rfl aC) (.nil _))⟩
   .obtain⟨x,rfl⟩:∃n:Nat,jt=n:=⟨jt.toNat,om⟩;obtain⟨y,rfl⟩:∃n:Nat,jf=n:=⟨jf.toNat,om⟩;have ex:IntKind.i64.wrap ((a:Int)+IntKind.i64.wrap (1+(x:Int)))=((a+(1+x):Nat):Int):=by rw[ic (n:=1+(x:Int)) om om,ic om om];omega
    have ey:IntKind.i64.wrap ((a:Int)+IntKind.i64.wrap (1+(y:Int)))=((a+(1+y):Nat):Int):=by rw[ic (n:=1+(y:Int)) om om,ic om om];omega
    rcases ho with rfl|rfl|rfl
    .refine bp (λhy=>?_) (λhy=>?_)
     .skip
      refine next (1+x) cZ (fb hi aC ((Ny x y k cZ r).1 hy)) om (λhJ hm=>?_)
      exact⟨(a+(1+x),cZ,s+1),hJ,hm,View.o 2 [0] [] (by
       repeat(first|exact .nil|refine .ap ?_|refine .put (.aU (aN om).symm) ?_|refine .eq rfl ?_|refine .eq (congrArg (λx=>an .i64 x) (ex.symm)) ?_)) (.put (by simp[bw]) rfl (.eq rfl aC) (.nil _))⟩
     .skip
      refine next (1+y) cZ (fb hi aC ((Ny x y k cZ r).2 hy)) om (λhJ hm=>?_)
      exact⟨(a+(1+y),cZ,s+1),hJ,hm,View.o 2 [0] [] (by
       repeat(first|exact .nil|refine .ap ?_|refine .put (.aU (aN om).symm) ?_|refine .eq rfl ?_|refine .eq (congrArg (λx=>an .i64 x) (ey.symm)) ?_)) (.put (by simp[bw]) rfl (.eq rfl aC) (.nil _))⟩
    .refine aL (λhy=>?_) (λhy=>?_)
     .skip
      refine next (1+x) cZ (fb hi aC ((Nz x y k cZ r).1 hy)) om (λhJ hm=>?_)
      exact⟨(a+(1+x),cZ,s+1),hJ,hm,View.o 2 [0] [] (by
       repeat(first|exact .nil|refine .ap ?_|refine .put (.aU (aN om).symm) ?_|refine .eq rfl ?_|refine .eq (congrArg (λx=>an .i64 x) (ex.symm)) ?_)) (.put (by simp[bw]) rfl (.eq rfl aC) (.nil _))⟩
     .skip
      refine next (1+y) cZ (fb hi aC ((Nz x y k cZ r).2 hy)) om (λhJ hm=>?_)
      exact⟨(a+(1+y),cZ,s+1),hJ,hm,View.o 2 [0] [] (by
       repeat(first|exact .nil|refine .ap ?_|refine .put (.aU (aN om).symm) ?_|refine .eq rfl ?_|refine .eq (congrArg (λx=>an .i64 x) (ey.symm)) ?_)) (.put (by simp[bw]) rfl (.eq rfl aC) (.nil _))⟩
    .refine bs (λhy=>?_) (λhy=>?_)
     .skip
      refine next (1+x) cZ (fb hi aC ((NA x y k cZ r).1 hy)) om (λhJ hm=>?_)
      exact⟨(a+(1+x),cZ,s+1),hJ,hm,View.o 2 [0] [] (by
       repeat(first|exact .nil|refine .ap ?_|refine .put (.aU (aN om).symm) ?_|refine .eq rfl ?_|refine .eq (congrArg (λx=>an .i64 x) (ex.symm)) ?_)) (.put (by simp[bw]) rfl (.eq rfl aC) (.nil _))⟩
     .skip
      refine next (1+y) cZ (fb hi aC ((NA x y k cZ r).2 hy)) om (λhJ hm=>?_)
      exact⟨(a+(1+y),cZ,s+1),hJ,hm,View.o 2 [0] [] (by
       repeat(first|exact .nil|refine .ap ?_|refine .put (.aU (aN om).symm) ?_|refine .eq rfl ?_|refine .eq (congrArg (λx=>an .i64 x) (ey.symm)) ?_)) (.put (by simp[bw]) rfl (.eq rfl aC) (.nil _))⟩
   .obtain⟨n,rfl⟩:∃n:Nat,k=n:=⟨k.toNat,om⟩;have ex:IntKind.i64.wrap ((a:Int)+IntKind.i64.wrap (1+(n:Int)))=((a+(1+n):Nat):Int):=by rw[ic (n:=1+(n:Int)) om om,ic om om];omega
    refine next (1+n) cZ (fb hi aC (by simp[sH])) om (λhJ hm=>?_)
    exact⟨(a+(1+n),cZ,s+1),hJ,hm,View.o 2 [0] [] (by
     repeat(first|exact .nil|refine .ap ?_|refine .put (.aU (aN om).symm) ?_|refine .eq rfl ?_|refine .eq (congrArg (λx=>an .i64 x) (ex.symm)) ?_)) (.put (by simp[bw]) rfl (.eq rfl aC) (.nil _))⟩
   .have hb:gA p r a cZ=(k,1):=kN hi rfl;rw[hb]at rC qB;show CV.bz [cK k,cK (IntKind.i64.wrap ((s:Int)+1))]=_;rw[<-TG (s:=s) om];have e2:gA p r 0 0=(k,((s+1:Nat):Int)):=Prod.ext rC.symm (by rw[<-qB];simp only;omega)
    rw[e2];rfl
theorem TH(p:List dA)(r:pT){m:Mem}{K:CV->Mem->Prop}(h:K (RM (tT p r)) m):aq prog 30 [sr p,r.cv] m K:=
 bv func30 l30 rfl (aae rfl) (NB p r) rfl rfl h
def c19:LF:= ⟨116,[.cell true 3 6,.cell true 4 7],(.seq (.ai [qu 4 (.box 1),qu 5 (.box 2),qu 6 (.alloc [.aO,.aO,.aO]),qu 7 (.alloc [qd 0,qd 0,qd 0,.aO])]) (.seq (.block 0 (.seq (.ai [qL 13 3 4,qf 14 0 5,ql 15 14,qu 16 (qc 29 [13,15]),qu 17 (.un .not 16),qm 12 17]) (.cond 12 (.seq (.ai [qL 18 3 4,qu 19 (.build [qd 0,qd 0,qd 0,.aO] [(0,1,qi 6)]),qw (.store 3 6 18),qw (.store 4 7 19)]) .ret) (.seq (.ai [qf 21 1 5,ql 22 21,qu 23 (.aJ .lss 22 (qi 1)),qm 24 23,qg 25 (.cj 1 5) 24 false,qg 26 (.load false 1 25) 24 false,qg 27 (.aJ .gtr 26 (qi 22)) 24 false,qu 28 (.pick 24 (qb true) 27),qm 20 28]) (.cond 20 (.seq (.ai [qL 29 3 4,qu 30 (.build [qd 0,qd 0,qd 0,.aO] [(0,1,qi 1)]),qw (.store 3 6 29),qw (.store 4 7 30)]) .ret) .skip))))) (.cS (.seq (.seq (.ai [qf 31 2 4,ql 32 31,qf 33 0 5,ql 34 33,qu 35 (.cw 4 32 34),qf 36 1 35,ql 37 36]) (.cond 37 (.seq (.ai [qm 39 0,qL 40 9 5,qu 41 (qc 31 [40]),qu 42 (qc 30 [39,41]),qm 38 42,qu 43 (.ext 38 0),qu 44 (.ext 38 1),qm 8 43,qm 9 44]) (.seq (.ai [qm 45 8,qu 46 (.aJ .neq 45 (qi 1)),qm 47 46,qg 48 (.cj 1 5) 47 false,qg 49 (.load false 1 48) 47 false,qg 50 (.aJ .eql 49 (qi 2)) 47 false,qu 51 (.pick 47 (qb true) 50)]) (.cond 51 (.seq (.ai [qL 52 3 4,qu 53 (.build [qd 0,qd 0,qd 0,.aO] [(0,1,qi 9)]),qw (.store 3 6 52),qw (.store 4 7 53)]) .ret) .skip))) .skip)) (.cS (.seq (.ai [qL 54 3 4,qf 55 0 5,ql 56 55,qu 57 (.build [.aO,.aO,.aO,qd 0] [(0,3,54),(3,1,56)]),qu 58 (.box 57),qm 10 58]) (.seq (.ai [qu 11 (.alloc [qd 0,qd 0,qd 0,.aO])]) (.seq (.seq (.ai [qf 59 1 5,ql 60 59]) (.block 1 (.seq (.seq (.ai [qu 64 (.aJ .eql 60 (qi 2)),qm 63 64]) (.cond 63 .skip (.ai [qu 65 (.aJ .eql 60 (qi 3)),qm 63 65]))) (.cond 63 (.ai [qm 66 10,qu 67 (qc 32 [66,5]),qw (.store 4 11 67)]) (.seq (.seq (.ai [qu 69 (.aJ .eql 60 (qi 4)),qm 68 69]) (.cond 68 .skip (.seq (.ai [qu 70 (.aJ .eql 60 (qi 5)),qm 68 70]) (.cond 68 .skip (.ai [qu 71 (.aJ .eql 60 (qi 6)),qm 68 71]))))) (.cond 68 (.ai [qm 72 10,qu 73 (qc 33 [72,5]),qw (.store 4 11 73)]) (.seq (.seq (.ai [qu 75 (.aJ .eql 60 (qi 7)),qm 74 75]) (.cond 74 .skip (.seq (.ai [qu 76 (.aJ .eql 60 (qi 8)),qm 74 76]) (.cond 74 .skip (.ai [qu 77 (.aJ .eql 60 (qi 9)),qm 74 77]))))) (.cond 74 (.ai [qm 78 10,qu 79 (qc 34 [78,5]),qw (.store 4 11 79)]) (.seq (.seq (.ai [qu 81 (.aJ .eql 60 (qi 10)),qm 80 81]) (.cond 80 .skip (.ai [qu 82 (.aJ .eql 60 (qi 11)),qm 80 82]))) (.cond 80 (.ai [qm 83 10,qu 84 (qc 35 [83,5]),qw (.store 4 11 84)]) (.seq (.seq (.ai [qu 86 (.aJ .eql 60 (qi 12)),qm 85 86]) (.cond 85 .skip (.seq (.ai [qu 87 (.aJ .eql 60 (qi 13)),qm 85 87]) (.cond 85 .skip (.ai [qu 88 (.aJ .eql 60 (qi 14)),qm 85 88]))))) (.cond 85 (.ai [qm 89 10,qu 90 (qc 36 [89,5]),qw (.store 4 11 90)]) (.seq (.ai [qu 92 (.aJ .eql 60 (qi 15)),qm 91 92]) (.cond 91 (.ai [qm 93 10,qu 94 (qc 37 [93]),qw (.store 4 11 94)]) (.seq (.ai [qu 96 (.aJ .eql 60 (qi 16)),qm 95 96]) (.cond 95 (.ai [qm 97 10,qu 98 (qc 38 [97,5]),qw (.store 4 11 98)]) (.seq (.ai [qu 100 (.aJ .eql 60 (qi 17)),qm 99 100]) (.cond 99 (.ai [qm 101 10,qu 102 (qc 39 [101,5]),qw (.store 4 11 102)]) (.ai [qm 61 10,qu 62 (qc 40 [61,5]),qw (.store 4 11 62)]))))))))))))))))))) (.cS (.seq (.seq (.ai [qf 103 0 11,ql 104 103,qu 105 (.aJ .neq 104 (qi 0))]) (.cond 105 (.seq (.bR [qL 106 3 4,qf 107 0 11,ql 108 107,qu 109 (.build [qd 0,qd 0,qd 0,.aO] [(0,1,108)]),qw (.store 3 6 106),qw (.store 4 7 109)] [(.cons 0 none (.cons 1 none (.cons 2 none (.cons 3 none (.cons 4 (some [2]) (.cons 5 (some []) .nil))))))]) .ret) .skip)) (.seq (.bR [qm 110 10,qu 111 (.aP 110),qf 112 0 111,qL 113 3 112,qu 114 (qc 41 [113]),qL 115 4 11,qw (.store 3 6 114),qw (.store 4 7 115)] [(.cons 0 none (.cons 1 none (.cons 2 none (.cons 3 none (.cons 5 none (.cons 4 (some [5]) (.cons 6 (some [5]) (.cons 7 (some []) .nil))))))))]) .ret)))))))))))⟩
def c31:LF:= ⟨22,[.cell true 6 2],(.seq (.ai [qu 1 (.box 0),qu 2 (.alloc [qd 0,qd 0,qd 0,qd 0,qd 0,qd 0])]) (.seq (.ai [qf 3 1 1,ql 4 3,qu 5 (.aJ .and 4 (qi 2147483647)),qf 6 2 1,ql 7 6,qu 8 (.aJ .and 7 (qi 2147483647)),qf 9 3 1,ql 10 9,qu 11 (.aJ .and 10 (qi 2147483647)),qf 12 4 1,ql 13 12,qu 14 (.aJ .and 13 (qi 2147483647)),qf 15 5 1,ql 16 15,qu 17 (.aJ .and 16 (qi 2147483647)),qf 18 6 1,ql 19 18,qu 20 (.aJ .and 19 (qi 2147483647)),qu 21 (.build [qd 0,qd 0,qd 0,qd 0,qd 0,qd 0] [(0,1,5),(1,1,8),(2,1,11),(3,1,14),(4,1,17),(5,1,20)]),qw (.store 6 2 21)]) .ret))⟩
namespace Kn
def sO(a:Int):Int:=lH a 2147483647
def nA(c:Cl):pT:=⟨sO c.ah,sO c.fd,sO c.fD,sO c.n,sO c.bt,sO c.ba⟩
def fF(k:Kr)(p:Nat)(c:Cl):Kr×An:=
 if c.ah=2\/c.ah=3 then gm k p c
 else if c.ah=4\/c.ah=5\/c.ah=6 then hU k p c
 else if c.ah=7\/c.ah=8\/c.ah=9 then l4 k p c
 else if c.ah=10\/c.ah=11 then lh k p c
 else if c.ah=12\/c.ah=13\/c.ah=14 then j8 k p c
 else if c.ah=15 then jL k p
 else if c.ah=16 then ke k p c
 else if c.ah=17 then i9 k p c
 else eX k p c
def OJ(k:Kr)(x:Kr×An):Kr×An:=if x.2.fC≠0 then(k,An.no x.2.fC)else(gK x.1,x.2)
def lI(prog:List dA)(k:Kr)(c:Cl):Kr×An:=
 if ft k.ps c.aA=false then(k,An.no 6)
 else if c.ah<1\/c.ah>22 then(k,An.no 1)
 else if kF k.ps c.aA.toNat=true/\((tT prog (nA c)).1≠1\/c.ah=2)then(k,An.no 9)
 else OJ k (fF k c.aA.toNat c)
structure NC(k:Kr)(p:Nat)(c:Cl):Prop where
 w:KW k p
 op:∀ar ax,FK k p c (iO k ar c.cJ ax true)
 pr:TE k p (fq k.l)
 q:∀o,o∈k.l->o.ah=5->∃n:Nat,o.aA=n/\n<k.ps.length
 iy:(fF k p c).2.fC=0->dF (fF k p c).1.l (fF k p c).1.ops (fF k p c).1.ps
theorem l31:bu prog f31=some c31:=by kernel_rfl
theorem JE(c:Cl){m:Mem}{K:CV->Mem->Prop}(h:K (nA c).cv m):aq prog 31 [c.cv] m K:=
 bv func31 l31 rfl (aae rfl) (show body prog c31 [c.cv] [] (λr m=>r=(nA c).cv)from rfl) rfl rfl h
theorem l19:bu prog f19=some c19.er:=by kernel_rfl
def aaW:LC:=bL (bL c19.code)
def Xb:LC:=qt aaW
def aaX:LC:=bL Xb
def Xc:LC:=qt aaX
def Xd:LC:=bL (bL (bL Xc))
def Xe:LC:=qt Xd
def UG(x:Kr×An):CV:= .bz [jH x.1,x.2.rv]
def QD(x:Kr×An):Ex->St->Prop:=oc prog c19.lK (λr m=>cQ m r (UG x))
def sN:Bk:= .var [.aO,.aO,.aO]
theorem zA{m:Mem}{k:Kr}{e n x:Int}:cQ m (.bz [jH k,.agg [.aa (.val (.int .i64 e)),.aa (.val (.int .i64 n)),.aa (.val (.int .i64 x)),.aO]]) (UG (k,⟨e,n,x,[]⟩)):=by
 refine .bz rfl λi r r' h1 h2=>?_
 match i,h1,h2 with
 |0,h1,h2=>cases h1;cases h2;exact e7.self rfl
 |1,h1,h2=>
  cases h1;cases h2;refine .agg rfl λi c c' h1 h2=>?_
  match i,h1,h2 with
  |0,h1,h2=>cases h1;cases h2;exact .self rfl
  |1,h1,h2=>cases h1;cases h2;exact .self rfl
  |2,h1,h2=>cases h1;cases h2;exact .self rfl
  |3,h1,h2=>cases h1;cases h2;exact .aO 1
  |n+4,h1,h2=>simp at h1
 |n+2,h1,h2=>simp at h1
theorem P7(k:Kr)(p:Nat)(c:Cl)(x:Kr×An)(hx:x.2.fC=0->dF x.1.l x.1.ops x.1.ps):
  aw prog 0 Xe (QD (OJ k x))
   ⟨km 116 [(4,.rv (.one (.ptr 0 0))),(6,.rv (.one (.ptr 1 0))),(7,.rv (.one (.ptr 2 0))),(10,.rv (.one (.ptr 3 0))),(11,.rv (.one (.ptr 4 0)))],[kB k,sN,bW,xB x.1 p,.var (x.2.enc.map .aa)]⟩:=by
 obtain⟨k',⟨fC,n,mm,data⟩⟩:=x;refine bs (λhe=>?_) (λhe=>?_)
 .have he:fC≠0:=he;rw[OJ,if_pos he];refine⟨⟨rfl,trivial⟩,trivial,?_⟩;exact zA
 .have he:fC=0:=he;subst he;rw[OJ,if_neg aC];refine IW k' (hx rfl) ?_;refine⟨⟨rfl,trivial⟩,⟨rfl,trivial⟩,trivial,?_⟩;exact cQ.self rfl
theorem TI(k:Kr)(p:Nat)(bY:p<k.ps.length)(c:Cl)(hc:c.aA=p)(hk:¬(c.ah<1\/c.ah>22))(hi:NC k p c)(hd:c.data.length<=4194304):
  aw prog 0 Xc (QD (OJ k (fF k p c)))
   ⟨km 116 [(4,.rv (.one (.ptr 0 0))),(5,.rv (.one (.ptr 1 0))),(6,.rv (.one (.ptr 2 0))),(7,.rv (.one (.ptr 3 0)))],[kB k,cB c,sN,bW]⟩:=by
 have hs:=λ(x:Kr×An)(h:fF k p c=x)=>P7 k p c x (by rw[<-h];exact hi.iy)
 obtain⟨aA,ah,fd,fD,n,bt,ba,cJ,data⟩:=c;have hc:aA=(p:Nat):=hc;subst hc;have hr:ah=1\/ah=2\/ah=3\/ah=4\/ah=5\/ah=6\/ah=7\/ah=8\/ah=9\/ah=10\/ah=11\/ah=12\/ah=13\/ah=14\/ah=15\/ah=16\/ah=17\/ah=18\/ah=19\/ah=20\/ah=21\/ah=22:=by have hk:¬(ah<1\/ah>22):=hk;omega
 rcases hr with h|h|h|h|h|h|h|h|h|h|h|h|h|h|h|h|h|h|h|h|h|h
 .subst h;have dH:fF k p ⟨(p:Nat),1,fd,fD,n,bt,ba,cJ,data⟩=eX k p ⟨(p:Nat),1,fd,fD,n,bt,ba,cJ,data⟩:=by rw[fF,if_neg aC,if_neg aC,if_neg aC,if_neg aC,if_neg aC,if_neg aC,if_neg aC,if_neg aC]
  rw[dH];refine dL (jr k p hi.w _ (by simp[qG]) hi.q) 4 1 rfl rfl rfl rfl ?_
  refine⟨_,View.o1 6 [0,2,3,4,5] [] ?_,hs _ dH⟩
  .exact .pt rfl rfl (.eq rfl (fR _)) (.pt rfl rfl (.eq rfl (by simp[sN])) (.pt rfl rfl (.eq rfl (by simp[bW])) (.pt rfl rfl (.eq rfl (bC _ _)) (.pm rfl rfl rfl))))
 .subst h;have dH:fF k p ⟨(p:Nat),2,fd,fD,n,bt,ba,cJ,data⟩=gm k p ⟨(p:Nat),2,fd,fD,n,bt,ba,cJ,data⟩:=by rw[fF,if_pos aC]
  rw[dH];refine dL (zq k p hi.w _ hi.op) 4 1 rfl rfl rfl rfl ?_;refine⟨_,View.o1 6 [0,2,3,4,5] [] ?_,hs _ dH⟩
  .exact .pt rfl rfl (.eq rfl (fR _)) (.pt rfl rfl (.eq rfl (by simp[sN])) (.pt rfl rfl (.eq rfl (by simp[bW])) (.pt rfl rfl (.eq rfl (bC _ _)) (.pm rfl rfl rfl))))
 .subst h;have dH:fF k p ⟨(p:Nat),3,fd,fD,n,bt,ba,cJ,data⟩=gm k p ⟨(p:Nat),3,fd,fD,n,bt,ba,cJ,data⟩:=by rw[fF,if_pos aC]
  rw[dH];refine dL (zq k p hi.w _ hi.op) 4 1 rfl rfl rfl rfl ?_;refine⟨_,View.o1 6 [0,2,3,4,5] [] ?_,hs _ dH⟩
  .exact .pt rfl rfl (.eq rfl (fR _)) (.pt rfl rfl (.eq rfl (by simp[sN])) (.pt rfl rfl (.eq rfl (by simp[bW])) (.pt rfl rfl (.eq rfl (bC _ _)) (.pm rfl rfl rfl))))
 .subst h;have dH:fF k p ⟨(p:Nat),4,fd,fD,n,bt,ba,cJ,data⟩=hU k p ⟨(p:Nat),4,fd,fD,n,bt,ba,cJ,data⟩:=by rw[fF,if_neg aC,if_pos aC]
  rw[dH];refine dL (qF k p hi.w _ (.inl rfl) hd) 4 1 rfl rfl rfl rfl ?_;refine⟨_,View.o1 6 [0,2,3,4,5] [] ?_,hs _ dH⟩
  .exact .pt rfl rfl (.eq rfl (fR _)) (.pt rfl rfl (.eq rfl (by simp[sN])) (.pt rfl rfl (.eq rfl (by simp[bW])) (.pt rfl rfl (.eq rfl (bC _ _)) (.pm rfl rfl rfl))))
 .subst h;have dH:fF k p ⟨(p:Nat),5,fd,fD,n,bt,ba,cJ,data⟩=hU k p ⟨(p:Nat),5,fd,fD,n,bt,ba,cJ,data⟩:=by rw[fF,if_neg aC,if_pos aC]
  rw[dH];refine dL (qF k p hi.w _ (.inr (.inl rfl)) hd) 4 1 rfl rfl rfl rfl ?_;refine⟨_,View.o1 6 [0,2,3,4,5] [] ?_,hs _ dH⟩
  .exact .pt rfl rfl (.eq rfl (fR _)) (.pt rfl rfl (.eq rfl (by simp[sN])) (.pt rfl rfl (.eq rfl (by simp[bW])) (.pt rfl rfl (.eq rfl (bC _ _)) (.pm rfl rfl rfl))))
 .subst h;have dH:fF k p ⟨(p:Nat),6,fd,fD,n,bt,ba,cJ,data⟩=hU k p ⟨(p:Nat),6,fd,fD,n,bt,ba,cJ,data⟩:=by rw[fF,if_neg aC,if_pos aC]
  rw[dH];refine dL (qF k p hi.w _ (.inr (.inr rfl)) hd) 4 1 rfl rfl rfl rfl ?_;refine⟨_,View.o1 6 [0,2,3,4,5] [] ?_,hs _ dH⟩
  .exact .pt rfl rfl (.eq rfl (fR _)) (.pt rfl rfl (.eq rfl (by simp[sN])) (.pt rfl rfl (.eq rfl (by simp[bW])) (.pt rfl rfl (.eq rfl (bC _ _)) (.pm rfl rfl rfl))))
 .subst h;have dH:fF k p ⟨(p:Nat),7,fd,fD,n,bt,ba,cJ,data⟩=l4 k p ⟨(p:Nat),7,fd,fD,n,bt,ba,cJ,data⟩:=by rw[fF,if_neg aC,if_neg aC,if_pos aC]
  rw[dH];refine dL (tP k p hi.w _) 4 1 rfl rfl rfl rfl ?_;refine⟨_,View.o1 6 [0,2,3,4,5] [] ?_,hs _ dH⟩
  .exact .pt rfl rfl (.eq rfl (fR _)) (.pt rfl rfl (.eq rfl (by simp[sN])) (.pt rfl rfl (.eq rfl (by simp[bW])) (.pt rfl rfl (.eq rfl (bC _ _)) (.pm rfl rfl rfl))))
 .subst h;have dH:fF k p ⟨(p:Nat),8,fd,fD,n,bt,ba,cJ,data⟩=l4 k p ⟨(p:Nat),8,fd,fD,n,bt,ba,cJ,data⟩:=by rw[fF,if_neg aC,if_neg aC,if_pos aC]
  rw[dH];refine dL (tP k p hi.w _) 4 1 rfl rfl rfl rfl ?_;refine⟨_,View.o1 6 [0,2,3,4,5] [] ?_,hs _ dH⟩
  .exact .pt rfl rfl (.eq rfl (fR _)) (.pt rfl rfl (.eq rfl (by simp[sN])) (.pt rfl rfl (.eq rfl (by simp[bW])) (.pt rfl rfl (.eq rfl (bC _ _)) (.pm rfl rfl rfl))))
 .subst h;have dH:fF k p ⟨(p:Nat),9,fd,fD,n,bt,ba,cJ,data⟩=l4 k p ⟨(p:Nat),9,fd,fD,n,bt,ba,cJ,data⟩:=by rw[fF,if_neg aC,if_neg aC,if_pos aC]
  rw[dH];refine dL (tP k p hi.w _) 4 1 rfl rfl rfl rfl ?_;refine⟨_,View.o1 6 [0,2,3,4,5] [] ?_,hs _ dH⟩
  .exact .pt rfl rfl (.eq rfl (fR _)) (.pt rfl rfl (.eq rfl (by simp[sN])) (.pt rfl rfl (.eq rfl (by simp[bW])) (.pt rfl rfl (.eq rfl (bC _ _)) (.pm rfl rfl rfl))))
 .subst h;have dH:fF k p ⟨(p:Nat),10,fd,fD,n,bt,ba,cJ,data⟩=lh k p ⟨(p:Nat),10,fd,fD,n,bt,ba,cJ,data⟩:=by rw[fF,if_neg aC,if_neg aC,if_neg aC,if_pos aC]
  rw[dH];refine dL (xg k p hi.w _) 4 1 rfl rfl rfl rfl ?_;refine⟨_,View.o1 6 [0,2,3,4,5] [] ?_,hs _ dH⟩
  .exact .pt rfl rfl (.eq rfl (fR _)) (.pt rfl rfl (.eq rfl (by simp[sN])) (.pt rfl rfl (.eq rfl (by simp[bW])) (.pt rfl rfl (.eq rfl (bC _ _)) (.pm rfl rfl rfl))))
 .subst h;have dH:fF k p ⟨(p:Nat),11,fd,fD,n,bt,ba,cJ,data⟩=lh k p ⟨(p:Nat),11,fd,fD,n,bt,ba,cJ,data⟩:=by rw[fF,if_neg aC,if_neg aC,if_neg aC,if_pos aC]
  rw[dH];refine dL (xg k p hi.w _) 4 1 rfl rfl rfl rfl ?_;refine⟨_,View.o1 6 [0,2,3,4,5] [] ?_,hs _ dH⟩
  .exact .pt rfl rfl (.eq rfl (fR _)) (.pt rfl rfl (.eq rfl (by simp[sN])) (.pt rfl rfl (.eq rfl (by simp[bW])) (.pt rfl rfl (.eq rfl (bC _ _)) (.pm rfl rfl rfl))))
 .subst h;have dH:fF k p ⟨(p:Nat),12,fd,fD,n,bt,ba,cJ,data⟩=j8 k p ⟨(p:Nat),12,fd,fD,n,bt,ba,cJ,data⟩:=by rw[fF,if_neg aC,if_neg aC,if_neg aC,if_neg aC,if_pos aC]
  rw[dH];refine dL (tQ k p hi.w _) 4 1 rfl rfl rfl rfl ?_;refine⟨_,View.o1 6 [0,2,3,4,5] [] ?_,hs _ dH⟩
  .exact .pt rfl rfl (.eq rfl (fR _)) (.pt rfl rfl (.eq rfl (by simp[sN])) (.pt rfl rfl (.eq rfl (by simp[bW])) (.pt rfl rfl (.eq rfl (bC _ _)) (.pm rfl rfl rfl))))
 .subst h;have dH:fF k p ⟨(p:Nat),13,fd,fD,n,bt,ba,cJ,data⟩=j8 k p ⟨(p:Nat),13,fd,fD,n,bt,ba,cJ,data⟩:=by rw[fF,if_neg aC,if_neg aC,if_neg aC,if_neg aC,if_pos aC]
  rw[dH];refine dL (tQ k p hi.w _) 4 1 rfl rfl rfl rfl ?_;refine⟨_,View.o1 6 [0,2,3,4,5] [] ?_,hs _ dH⟩
  .exact .pt rfl rfl (.eq rfl (fR _)) (.pt rfl rfl (.eq rfl (by simp[sN])) (.pt rfl rfl (.eq rfl (by simp[bW])) (.pt rfl rfl (.eq rfl (bC _ _)) (.pm rfl rfl rfl))))
 .subst h;have dH:fF k p ⟨(p:Nat),14,fd,fD,n,bt,ba,cJ,data⟩=j8 k p ⟨(p:Nat),14,fd,fD,n,bt,ba,cJ,data⟩:=by rw[fF,if_neg aC,if_neg aC,if_neg aC,if_neg aC,if_pos aC]
  rw[dH];refine dL (tQ k p hi.w _) 4 1 rfl rfl rfl rfl ?_;refine⟨_,View.o1 6 [0,2,3,4,5] [] ?_,hs _ dH⟩
  .exact .pt rfl rfl (.eq rfl (fR _)) (.pt rfl rfl (.eq rfl (by simp[sN])) (.pt rfl rfl (.eq rfl (by simp[bW])) (.pt rfl rfl (.eq rfl (bC _ _)) (.pm rfl rfl rfl))))
 .subst h;have dH:fF k p ⟨(p:Nat),15,fd,fD,n,bt,ba,cJ,data⟩=jL k p:=by rw[fF,if_neg aC,if_neg aC,if_neg aC,if_neg aC,if_neg aC,if_pos aC]
  rw[dH];refine Nt k p hi.w hi.pr 4 rfl ?_;refine⟨_,View.o1 6 [0,2,3,4,5] [] ?_,hs _ dH⟩
  .exact .pt rfl rfl (.eq rfl (fR _)) (.pt rfl rfl (.eq rfl (by simp[sN])) (.pt rfl rfl (.eq rfl (by simp[bW])) (.pt rfl rfl (.eq rfl (bC _ _)) (.pm rfl rfl rfl))))
 .subst h;have dH:fF k p ⟨(p:Nat),16,fd,fD,n,bt,ba,cJ,data⟩=ke k p ⟨(p:Nat),16,fd,fD,n,bt,ba,cJ,data⟩:=by rw[fF,if_neg aC,if_neg aC,if_neg aC,if_neg aC,if_neg aC,if_neg aC,if_pos aC]
  rw[dH];refine dL (JA k p hi.w _ hd) 4 1 rfl rfl rfl rfl ?_;refine⟨_,View.o1 6 [0,2,3,4,5] [] ?_,hs _ dH⟩
  .exact .pt rfl rfl (.eq rfl (fR _)) (.pt rfl rfl (.eq rfl (by simp[sN])) (.pt rfl rfl (.eq rfl (by simp[bW])) (.pt rfl rfl (.eq rfl (bC _ _)) (.pm rfl rfl rfl))))
 .subst h;have dH:fF k p ⟨(p:Nat),17,fd,fD,n,bt,ba,cJ,data⟩=i9 k p ⟨(p:Nat),17,fd,fD,n,bt,ba,cJ,data⟩:=by rw[fF,if_neg aC,if_neg aC,if_neg aC,if_neg aC,if_neg aC,if_neg aC,if_neg aC,if_pos aC]
  rw[dH];refine dL (JB k p hi.w _) 4 1 rfl rfl rfl rfl ?_;refine⟨_,View.o1 6 [0,2,3,4,5] [] ?_,hs _ dH⟩
  .exact .pt rfl rfl (.eq rfl (fR _)) (.pt rfl rfl (.eq rfl (by simp[sN])) (.pt rfl rfl (.eq rfl (by simp[bW])) (.pt rfl rfl (.eq rfl (bC _ _)) (.pm rfl rfl rfl))))
 .subst h;have dH:fF k p ⟨(p:Nat),18,fd,fD,n,bt,ba,cJ,data⟩=eX k p ⟨(p:Nat),18,fd,fD,n,bt,ba,cJ,data⟩:=by rw[fF,if_neg aC,if_neg aC,if_neg aC,if_neg aC,if_neg aC,if_neg aC,if_neg aC,if_neg aC]
  rw[dH];refine dL (jr k p hi.w _ (by simp[qG]) hi.q) 4 1 rfl rfl rfl rfl ?_
  refine⟨_,View.o1 6 [0,2,3,4,5] [] ?_,hs _ dH⟩
  .exact .pt rfl rfl (.eq rfl (fR _)) (.pt rfl rfl (.eq rfl (by simp[sN])) (.pt rfl rfl (.eq rfl (by simp[bW])) (.pt rfl rfl (.eq rfl (bC _ _)) (.pm rfl rfl rfl))))
 .subst h;have dH:fF k p ⟨(p:Nat),19,fd,fD,n,bt,ba,cJ,data⟩=eX k p ⟨(p:Nat),19,fd,fD,n,bt,ba,cJ,data⟩:=by rw[fF,if_neg aC,if_neg aC,if_neg aC,if_neg aC,if_neg aC,if_neg aC,if_neg aC,if_neg aC]
  rw[dH];refine dL (jr k p hi.w _ (by simp[qG]) hi.q) 4 1 rfl rfl rfl rfl ?_
  refine⟨_,View.o1 6 [0,2,3,4,5] [] ?_,hs _ dH⟩
  .exact .pt rfl rfl (.eq rfl (fR _)) (.pt rfl rfl (.eq rfl (by simp[sN])) (.pt rfl rfl (.eq rfl (by simp[bW])) (.pt rfl rfl (.eq rfl (bC _ _)) (.pm rfl rfl rfl))))
 .subst h;have dH:fF k p ⟨(p:Nat),20,fd,fD,n,bt,ba,cJ,data⟩=eX k p ⟨(p:Nat),20,fd,fD,n,bt,ba,cJ,data⟩:=by rw[fF,if_neg aC,if_neg aC,if_neg aC,if_neg aC,if_neg aC,if_neg aC,if_neg aC,if_neg aC]
  rw[dH];refine dL (jr k p hi.w _ (by simp[qG]) hi.q) 4 1 rfl rfl rfl rfl ?_
  refine⟨_,View.o1 6 [0,2,3,4,5] [] ?_,hs _ dH⟩
  .exact .pt rfl rfl (.eq rfl (fR _)) (.pt rfl rfl (.eq rfl (by simp[sN])) (.pt rfl rfl (.eq rfl (by simp[bW])) (.pt rfl rfl (.eq rfl (bC _ _)) (.pm rfl rfl rfl))))
 .subst h;have dH:fF k p ⟨(p:Nat),21,fd,fD,n,bt,ba,cJ,data⟩=eX k p ⟨(p:Nat),21,fd,fD,n,bt,ba,cJ,data⟩:=by rw[fF,if_neg aC,if_neg aC,if_neg aC,if_neg aC,if_neg aC,if_neg aC,if_neg aC,if_neg aC]
  rw[dH];refine dL (jr k p hi.w _ (by simp[qG]) hi.q) 4 1 rfl rfl rfl rfl ?_
  refine⟨_,View.o1 6 [0,2,3,4,5] [] ?_,hs _ dH⟩
  .exact .pt rfl rfl (.eq rfl (fR _)) (.pt rfl rfl (.eq rfl (by simp[sN])) (.pt rfl rfl (.eq rfl (by simp[bW])) (.pt rfl rfl (.eq rfl (bC _ _)) (.pm rfl rfl rfl))))
 .subst h;have dH:fF k p ⟨(p:Nat),22,fd,fD,n,bt,ba,cJ,data⟩=eX k p ⟨(p:Nat),22,fd,fD,n,bt,ba,cJ,data⟩:=by rw[fF,if_neg aC,if_neg aC,if_neg aC,if_neg aC,if_neg aC,if_neg aC,if_neg aC,if_neg aC]
  rw[dH];refine dL (jr k p hi.w _ (by simp[qG]) hi.q) 4 1 rfl rfl rfl rfl ?_
  refine⟨_,View.o1 6 [0,2,3,4,5] [] ?_,hs _ dH⟩
  .exact .pt rfl rfl (.eq rfl (fR _)) (.pt rfl rfl (.eq rfl (by simp[sN])) (.pt rfl rfl (.eq rfl (by simp[bW])) (.pt rfl rfl (.eq rfl (bC _ _)) (.pm rfl rfl rfl))))
theorem TJ(prog:List dA)(k:Kr)(p:Nat)(hp:p<k.ps.length)(c:Cl)(hc:c.aA=p)(hk:¬(c.ah<1\/c.ah>22))(hi:NC k p c)(hd:c.data.length<=4194304)(R:Kr×An)(hR:R=if kF k.ps p=true/\((tT prog (nA c)).1≠1\/c.ah=2)then(k,An.no 9)else OJ k (fF k p c)):
  aw Tryz.prog 0 Xb (QD R)
   ⟨km 116 [(0,sr prog),(4,.rv (.one (.ptr 0 0))),(5,.rv (.one (.ptr 1 0))),(6,.rv (.one (.ptr 2 0))),(7,.rv (.one (.ptr 3 0)))],[kB k,cB c,sN,bW]⟩:=by
 have hs:=TI k p hp c hc hk hi hd;have hf:kF k.ps p=k.ps[p].fenced:=by rw[kF,uX hp]
 refine ag (x:=[.val (.bool k.ps[p].aQ),.val (.bool k.ps[p].fenced),.val (.int .i64 k.ps[p].code),yh k.ps[p].aV]) (by rw[hc];exact dz hp) ?_
 rw[hf]at hR;generalize k.ps[p].fenced=fen at hR;cases fen with
 |false=>
  rw[if_neg aC]at hR;subst hR;refine⟨_,View.o1 4 [0,1,2,3] [] ?_,hs⟩
  .exact .pt rfl rfl (.eq rfl (fR _)) (.pt rfl rfl (.eq rfl (cf _)) (.pt rfl rfl (.eq rfl (by simp[sN])) (.pt rfl rfl (.eq rfl (by simp[bW])) (.nil _))))
 |true=>
  refine JE c ?_;refine TH prog (nA c) ?_;generalize tT prog (nA c)=rr at hR;obtain⟨n,st⟩:=rr;refine bs (λhn=>?_) (λhn=>?_)
  .have hn:n≠1:=hn;rw[if_pos ⟨rfl,.inl hn⟩]at hR;subst hR;exact zA
  have hn:¬n≠1:=λh=>h hn
  refine bp (λh2=>?_) (λh2=>?_)
  .have h2:c.ah=2:=h2;rw[if_pos ⟨rfl,.inr h2⟩]at hR;subst hR;exact zA
  have h2:¬c.ah=2:=h2;rw[if_neg (λh=>h.2.elim hn h2)]at hR
  subst hR;refine⟨_,View.o1 4 [0,1,2,3] [] ?_,hs⟩
  .exact .pt rfl rfl (.eq rfl (fR _)) (.pt rfl rfl (.eq rfl (cf _)) (.pt rfl rfl (.eq rfl (by simp[sN])) (.pt rfl rfl (.eq rfl (by simp[bW])) (.nil _))))
theorem P8(prog:List dA)(k:Kr)(c:Cl)(hi:∀(p:Nat)(hp:p<k.ps.length),c.aA=p->k.ps[p].aQ=true->NC k p c)(hd:c.data.length<=4194304):
  body Tryz.prog c19 [sr prog,d9 k.l k.ops k.ps,c.cv] [] (λr m=>cQ m r (UG (lI prog k c))):=by
 refine oF k.l k.ops k.ps c.aA ?_;cases hl:ft k.ps c.aA with
 |false=>
  rw[lI,if_pos hl];exact zA
 |true=>
  obtain⟨p,hc,hp,b7⟩:=oG hl;have e0:lI prog k c=if c.ah<1\/c.ah>22 then(k,An.no 1)
   else if kF k.ps p=true/\((tT prog (nA c)).1≠1\/c.ah=2)then(k,An.no 9)else OJ k (fF k p c):=by
   rw[lI,if_neg (by rw[hl];simp),hc,aac]
  rw[e0];refine aL (λh1=>?_) (λh1=>?_)
  .have h1:c.ah<1:=h1;rw[if_pos (.inl h1)];exact zA
  have h1:¬c.ah<1:=h1;refine aL (λh2=>?_) (λh2=>?_)
  .have h2:c.ah>22:=h2;rw[if_pos (.inr h2)];exact zA
  have h2:¬c.ah>22:=h2;rw[if_neg om];refine⟨_,View.o1 4 [0,1,2,3] [] ?_,TJ prog k p hp c hc om (hi p hp hc b7) hd _ rfl⟩
  .exact .pt rfl rfl (.eq rfl (fR _)) (.pt rfl rfl (.eq rfl (cf _)) (.pt rfl rfl (.eq rfl (by simp[sN])) (.pt rfl rfl (.eq rfl (by simp[bW])) (.nil _))))
theorem Xf(prog:List dA)(k:Kr)(c:Cl)(hi:∀(p:Nat)(hp:p<k.ps.length),c.aA=p->k.ps[p].aQ=true->NC k p c)(hd:c.data.length<=4194304){m:Mem}{K:CV->Mem->Prop}(h:K (UG (lI prog k c)) m):
  aq Tryz.prog 19 [sr prog,d9 k.l k.ops k.ps,c.cv] m K:=
 bg (b8 func19 l19 (P8 prog k c hi hd)) (by simp[d9,db,eN,gd,sr,Cl.cv,Cl.enc,CV.du,CC.du,RV.du]) λr m1 hf=>⟨_,hf,h⟩
end Kn
end Go.Proofs.YtodckkkbiidffaaGreatDoor
namespace Go.Proofs.YtodckkkbiidffaaGreatDoor
open Go.AM Go.ChangeShapes Go.WideShapes Go.ChangeAt Go.RowKit
namespace Kn
def dG(o:Obj):List NE:=o.ak.map nJ
structure Sk where
 ah:Int
 up:Int
 am:Int
 es:List NE
def u0(o:Obj):Sk:=⟨o.ah,o.up,o.am,dG o⟩
def skZ:Sk:=⟨0,0,0,[]⟩
inductive Lk(t:List Sk):Nat->Prop
 |al:Lk t 0
 |step {i j:Nat} {d:Sk} {e:NE} (h:Lk t i) (hd:t[i]? =some d) (he:e∈d.es) (hj:e.2=(j:Nat)):Lk t j
structure Tree(t:List Sk):Prop where
 z:∀(i:Nat)d,t[i]? =some d->d.ah=0->d=skZ
 r0:∃d,t[0]? =some d/\d.ah=2/\d.am=1/\d.up=0
 tr:∀(i:Nat)d e,t[i]? =some d->e∈d.es->∃(j:Nat)(x:Sk),e.2=j/\j≠0/\t[j]? =some x/\x.ah≠0/\x.am=1/\(x.ah=2->x.up=i)
 un:∀(i i':Nat)d d' e e',t[i]? =some d->t[i']? =some d'->e∈d.es->e'∈d'.es->e.2=e'.2->i=i'/\e=e'
 lk:∀(i:Nat)d,t[i]? =some d->d.am≠0->Lk t i
 em:∀(i:Nat)d,t[i]? =some d->d.am=0->d.es=[]
 lr:∀(i:Nat)d,t[i]? =some d->d.am=0\/d.am=1
 ux:∀(i:Nat)d,t[i]? =some d->d.up=i\/d.up=0\/d.ah=2/\∃(u:Nat)(x:Sk)(e:NE),d.up=u/\t[u]? =some x/\e∈x.es/\e.2=i
theorem Tree.Xg{t:List Sk}(h:Tree t){i:Nat}{d:Sk}(hd:t[i]? =some d):0<=d.up/\d.up<t.length:=by
 have hi:=(I4.1 hd).1;rcases h.ux i d hd with h1|h1|⟨_,u,x,e,h1,h2,_⟩
 .omega
 .omega
 .have:=(I4.1 h2).1;omega
theorem Lk.mono{t t':List Sk}(h:∀(i:Nat)d,t[i]? =some d->d.es≠[]->∃d',t'[i]? =some d'/\∀e,e∈d.es->e∈d'.es){i:Nat}(hl:Lk t i):Lk t' i:=by
 induction hl with
 |al=>exact .al
 |step _ hd he hj ih=>
  obtain⟨d',h1,h2⟩:=h _ _ hd (λe=>by rw[e]at he;cases he)
  exact .step ih h1 (h2 _ he) hj
theorem Tree.new{t t':List Sk}(h:Tree t){k:Nat}{s:Sk}(hs:s.ah≠0/\s.am=0/\s.es=[]/\(s.up=0\/s.up=k))(h1:t'[k]? =some s)(h2:∀j,j≠k->t'[j]? =t[j]?)(h3:∀d,t[k]? =some d->d.ah=0):Tree t':=by
 obtain⟨hk,hl,he,hu⟩:=hs;have old:∀(i:Nat)d,t[i]? =some d->d.ah≠0->t'[i]? =some d:=λi d hd hn=>by rw[h2 i λe=>hn (h3 d (e▸hd))];exact hd
 have Xh:∀(i:Nat)d e,t[i]? =some d->e∈d.es->t'[i]? =some d:=λi d e hd he=>old i d hd λhz=>by rw[h.z i d hd hz]at he;cases he
 have pD:∀(i:Nat)d,t'[i]? =some d->(i=k/\d=s)\/t[i]? =some d:=λi d hd=>by
  by_cases e:i=k
  .subst e;rw[h1]at hd;cases hd;exact .inl ⟨rfl,rfl⟩
  .rw[h2 i e]at hd;exact .inr hd
 have hE:∀(i:Nat)d e,t'[i]? =some d->e∈d.es->t[i]? =some d:=λi d e hd hx=>by
  rcases pD i d hd with⟨_,rfl⟩|h
  .rw[he]at hx;cases hx
  .exact h
 have OK:∀i,Lk t i->Lk t' i:=λi hi=>hi.mono λi d hd hn=>by obtain⟨e,hx⟩:=acG _ hn;exact⟨d,Xh i d e hd hx,λ_ h=>h⟩
 refine⟨λi d hd hz=>?_,?_,λi d e hd hx=>?_,λi i' d d' e e' hd x7 hx sW nr=>h.un i i' d d' e e' (hE i d e hd hx) (hE i' d' e' x7 sW) hx sW nr,λi d hd hn=>?_,λi d hd hn=>?_,λi d hd=>?_,λi d hd=>?_⟩
 .rcases pD i d hd with⟨_,rfl⟩|h'
  .exact absurd hz hk
  .exact h.z i d h' hz
 .obtain⟨d,a1,a2,a3⟩:=h.r0;exact⟨d,old 0 d a1 om,a2,a3⟩
 .obtain⟨j,x,a1,a2,a3,a4,a5⟩:=h.tr i d e (hE i d e hd hx) hx;exact⟨j,x,a1,a2,old j x a3 a4,a4,a5⟩
 .rcases pD i d hd with⟨_,rfl⟩|h'
  .exact absurd hl hn
  .exact OK i (h.lk i d h' hn)
 .rcases pD i d hd with⟨_,rfl⟩|h'
  .exact he
  .exact h.em i d h' hn
 .rcases pD i d hd with⟨_,rfl⟩|h'
  .exact .inl hl
  .exact h.lr i d h'
 .rcases pD i d hd with⟨rfl,rfl⟩|h'
  .exact hu.elim (λe=>.inr (.inl e)) .inl
  .rcases h.ux i d h' with a|a|⟨a0,u,x,e,a1,a2,a3,a4⟩
   .exact .inl a
   .exact .inr (.inl a)
   .exact .inr (.inr ⟨a0,u,x,e,a1,Xh u x e a2 a3,a3,a4⟩)
theorem Tree.enter{t t':List Sk}(h:Tree t){n p:Nat}{d q d' q':Sk}(hn:t[n]? =some d)(hp:t[p]? =some q)(lT:d.am≠0)(G5:q.am=0)(JF:q.ah≠0){nm:ByteArray}(h1:t'[n]? =some d')(h2:t'[p]? =some q')(h3:∀j,j≠n->j≠p->t'[j]? =t[j]?)(hd:d'.ah=d.ah/\d'.up=d.up/\d'.am=d.am)(RN:∀e,e∈d'.es↔e∈d.es\/e=(nm,(p:Int)))(hq:q'.ah=q.ah/\q'.am=1/\q'.es=q.es/\q'.up=if q.ah=2 then(n:Int)else q.up):Tree t':=by
 have Bl:n≠p:=λe=>by subst e;rw[hn]at hp;cases hp;exact lT G5
 have ND:q.es=[]:=h.em p q hp G5;have Ac:d.ah≠0:=λe=>by rw[h.z n d hn e]at lT;exact lT rfl
 have yj:p≠0:=λe=>by obtain⟨r,a1,a2,a3,a4⟩:=h.r0;rw[e,a1]at hp;cases hp;omega
 have nop:∀(i:Nat)x e,t[i]? =some x->e∈x.es->e.2≠(p:Int):=λi x e hx he hc=>by obtain⟨j,y,a1,_,a3,_,a5,_⟩:=h.tr i x e hx he;have:j=p:=om;subst this;rw[hp]at a3;cases a3;omega
 have pD:∀(i:Nat)x,t'[i]? =some x->(i=n/\x=d')\/(i=p/\x=q')\/(i≠n/\i≠p/\t[i]? =some x):=λi x hx=>by
  by_cases e:i=n
  .subst e;rw[h1]at hx;cases hx;exact .inl ⟨rfl,rfl⟩
  .by_cases e2:i=p
   .subst e2;rw[h2]at hx;cases hx;exact .inr (.inl ⟨rfl,rfl⟩)
   .rw[h3 i e e2]at hx;exact .inr (.inr ⟨e,e2,hx⟩)
 have back:∀(i:Nat)x e,t'[i]? =some x->e∈x.es->(∃y,t[i]? =some y/\e∈y.es)\/(i=n/\e=(nm,(p:Int))):=λi x e hx he=>by
  rcases pD i x hx with⟨rfl,rfl⟩|⟨rfl,rfl⟩|⟨_,_,hx⟩
  .rcases(RN e).1 he with he|he
   .exact .inl ⟨d,hn,he⟩
   .exact .inr ⟨rfl,he⟩
  .rw[hq.2.2.1,ND]at he;cases he
  .exact .inl ⟨x,hx,he⟩
 have fwd:∀(i:Nat)x,t[i]? =some x->∃x',t'[i]? =some x'/\x'.ah=x.ah/\∀e,e∈x.es->e∈x'.es:=λi x hx=>by
  by_cases e:i=n
  .subst e;rw[hn]at hx;cases hx;exact⟨d',h1,hd.1,λe he=>(RN e).2 (.inl he)⟩
  .by_cases e2:i=p
   .subst e2;rw[hp]at hx;cases hx;exact⟨q',h2,hq.1,λe he=>by rw[ND]at he;cases he⟩
   .exact⟨x,by rw[h3 i e e2];exact hx,rfl,λ_ h=>h⟩
 have OK:∀i,Lk t i->Lk t' i:=λi hi=>hi.mono λi x hx _=>by obtain⟨x',a1,_,a2⟩:=fwd i x hx;exact⟨x',a1,a2⟩
 refine⟨λi x hx hz=>?_,?_,λi x e hx he=>?_,λi i' x x' e e' hx sW he mr nr=>?_,λi x hx Ol=>?_,λi x hx hz=>?_,λi x hx=>?_,λi x hx=>?_⟩
 .rcases pD i x hx with⟨rfl,rfl⟩|⟨rfl,rfl⟩|⟨_,_,hx⟩
  .exact absurd (hd.1▸hz) Ac
  .exact absurd (hq.1▸hz) JF
  .exact h.z i x hx hz
 .obtain⟨r,a1,a2,a3,a4⟩:=h.r0;by_cases e:(0:Nat)=n
  .subst e;rw[a1]at hn;cases hn;exact⟨d',h1,by rw[hd.1];exact a2,by rw[hd.2.2];exact a3,by rw[hd.2.1];exact a4⟩
  .exact⟨r,by rw[h3 0 e (λe=>yj e.symm)];exact a1,a2,a3,a4⟩
 .rcases back i x e hx he with⟨y,hy,P9⟩|⟨rfl,rfl⟩
  .obtain⟨j,z,a1,a2,a3,a4,a5,a6⟩:=h.tr i y e hy P9;by_cases ej:j=n
   .subst ej;rw[hn]at a3;cases a3;exact⟨j,d',a1,a2,h1,by rw[hd.1];exact a4,by rw[hd.2.2];exact a5,by rw[hd.1,hd.2.1];exact a6⟩
   .have ejp:j≠p:=λe=>by subst e;rw[hp]at a3;cases a3;omega
    exact⟨j,z,a1,a2,by rw[h3 j ej ejp];exact a3,a4,a5,a6⟩
  .refine⟨p,q',rfl,yj,h2,by rw[hq.1];exact JF,hq.2.1,λhk=>?_⟩
   rw[hq.2.2.2,if_pos (by rw[<-hq.1];exact hk)]
 .rcases back i x e hx he with⟨y,hy,P9⟩|⟨rfl,rfl⟩
  .rcases back i' x' e' sW mr with⟨y',TK,NF⟩|⟨rfl,rfl⟩
   .exact h.un i i' y y' e e' hy TK P9 NF nr
   .exact absurd nr (nop i y e hy P9)
  .rcases back i' x' e' sW mr with⟨y',TK,NF⟩|⟨rfl,rfl⟩
   .exact absurd nr.symm (nop i' y' e' TK NF)
   .exact⟨rfl,rfl⟩
 .rcases pD i x hx with⟨rfl,rfl⟩|⟨rfl,rfl⟩|⟨_,_,hx⟩
  .exact OK _ (h.lk _ d hn lT)
  .exact .step (OK _ (h.lk _ d hn lT)) h1 ((RN _).2 (.inr rfl)) rfl
  .exact OK _ (h.lk i x hx Ol)
 .rcases pD i x hx with⟨rfl,rfl⟩|⟨rfl,rfl⟩|⟨_,_,hx⟩
  .exact absurd (hd.2.2▸hz) lT
  .rw[hq.2.1]at hz;omega
  .exact h.em i x hx hz
 .rcases pD i x hx with⟨rfl,rfl⟩|⟨rfl,rfl⟩|⟨_,_,hx⟩
  .rw[hd.2.2];exact h.lr i d hn
  .exact .inr hq.2.1
  .exact h.lr i x hx
 .have key:∀(i:Nat)(y:Sk),t[i]? =some y->(y.up=i\/y.up=0\/y.ah=2/\∃(u:Nat)(x:Sk)(e:NE),y.up=u/\t'[u]? =some x/\e∈x.es/\e.2=i):=λi y hy=>by
   rcases h.ux i y hy with a|a|⟨a0,u,z,e,a1,a2,a3,a4⟩
   .exact .inl a
   .exact .inr (.inl a)
   .obtain⟨z',b1,_,b2⟩:=fwd u z a2;exact .inr (.inr ⟨a0,u,z',e,a1,b1,b2 e a3,a4⟩)
  rcases pD i x hx with⟨rfl,rfl⟩|⟨rfl,rfl⟩|⟨_,_,hx⟩
  .rw[hd.2.1,hd.1];exact key i d hn
  .rw[hq.2.2.2,hq.1];by_cases e2:q.ah=2
   .rw[if_pos e2];exact .inr (.inr ⟨e2,n,d',_,rfl,h1,(RN _).2 (.inr rfl),rfl⟩)
   .rw[if_neg e2];exact key i q hp
  .exact key i x hx
theorem Tree.F7{t t':List Sk}(h:Tree t){n p:Nat}{d q d' q':Sk}{e0:NE}(hn:t[n]? =some d)(zB:e0∈d.es)(Yl:e0.2=(p:Int))(hp:t[p]? =some q)(ND:q.es=[])(h1:t'[n]? =some d')(h2:t'[p]? =some q')(h3:∀j,j≠n->j≠p->t'[j]? =t[j]?)(hd:d'.ah=d.ah/\d'.up=d.up/\d'.am=d.am)(RN:∀e,e∈d'.es↔e∈d.es/\e≠e0)(hq:q'.ah=q.ah/\q'.am=0/\q'.es=[]/\q'.up=if q.ah=2 then(p:Int)else q.up):Tree t':=by
 have Bl:n≠p:=λe=>by subst e;rw[hn]at hp;cases hp;rw[ND]at zB;cases zB
 obtain⟨p',q2,b1,yj,b3,JF,G5,_⟩:=h.tr n d e0 hn zB;have:p'=p:=om;subst this;rw[hp]at b3;cases b3;have Ac:d.ah≠0:=λe=>by rw[h.z n d hn e]at zB;cases zB
 have pD:∀(i:Nat)x,t'[i]? =some x->(i=n/\x=d')\/(i=p'/\x=q')\/(i≠n/\i≠p'/\t[i]? =some x):=λi x hx=>by
  by_cases e:i=n
  .subst e;rw[h1]at hx;cases hx;exact .inl ⟨rfl,rfl⟩
  .by_cases e2:i=p'
   .subst e2;rw[h2]at hx;cases hx;exact .inr (.inl ⟨rfl,rfl⟩)
   .rw[h3 i e e2]at hx;exact .inr (.inr ⟨e,e2,hx⟩)
 have back:∀(i:Nat)x e,t'[i]? =some x->e∈x.es->∃y,t[i]? =some y/\e∈y.es/\e≠e0:=λi x e hx he=>by
  rcases pD i x hx with⟨rfl,rfl⟩|⟨rfl,rfl⟩|⟨c1,_,hx⟩
  .exact⟨d,hn,((RN e).1 he).1,((RN e).1 he).2⟩
  .rw[hq.2.2.1]at he;cases he
  .exact⟨x,hx,he,λe1=>by subst e1;exact c1 (h.un i n x d e e hx hn he zB rfl).1⟩
 have fwd:∀(i:Nat)x,t[i]? =some x->∃x',t'[i]? =some x'/\x'.ah=x.ah/\∀e,e∈x.es->e≠e0->e∈x'.es:=λi x hx=>by
  by_cases e:i=n
  .subst e;rw[hn]at hx;cases hx;exact⟨d',h1,hd.1,λe he dt=>(RN e).2 ⟨he,dt⟩⟩
  .by_cases e2:i=p'
   .subst e2;rw[hp]at hx;cases hx;exact⟨q',h2,hq.1,λe he=>by rw[ND]at he;cases he⟩
   .exact⟨x,by rw[h3 i e e2];exact hx,rfl,λ_ h _=>h⟩
 have OK:∀i,Lk t i->i≠p'->Lk t' i:=λi hi=>by
  induction hi with
  |al=>exact λ_=>.al
  | @step i j x e hl hx he hj ih=>
   intro hjp;have Ut:i≠p':=λe1=>by subst e1;rw[hp]at hx;cases hx;rw[ND]at he;cases he
   obtain⟨x',a1,_,a2⟩:=fwd i x hx;exact .step (ih Ut) a1 (a2 e he λe1=>hjp (by subst e1;omega)) hj
 refine⟨λi x hx hz=>?_,?_,λi x e hx he=>?_,λi i' x x' e e' hx sW he mr nr=>?_,λi x hx Ol=>?_,λi x hx hz=>?_,λi x hx=>?_,λi x hx=>?_⟩
 .rcases pD i x hx with⟨rfl,rfl⟩|⟨rfl,rfl⟩|⟨_,_,hx⟩
  .exact absurd (hd.1▸hz) Ac
  .exact absurd (hq.1▸hz) JF
  .exact h.z i x hx hz
 .obtain⟨r,a1,a2,a3,a4⟩:=h.r0;by_cases e:(0:Nat)=n
  .subst e;rw[a1]at hn;cases hn;exact⟨d',h1,by rw[hd.1];exact a2,by rw[hd.2.2];exact a3,by rw[hd.2.1];exact a4⟩
  .exact⟨r,by rw[h3 0 e (λe=>yj e.symm)];exact a1,a2,a3,a4⟩
 .obtain⟨y,hy,P9,dt⟩:=back i x e hx he;obtain⟨j,z,a1,a2,a3,a4,a5,a6⟩:=h.tr i y e hy P9;by_cases ej:j=n
  .subst ej;rw[hn]at a3;cases a3;exact⟨j,d',a1,a2,h1,by rw[hd.1];exact a4,by rw[hd.2.2];exact a5,by rw[hd.1,hd.2.1];exact a6⟩
  .have ejp:j≠p':=λe1=>by subst e1;exact dt (h.un i n y d e e0 hy hn P9 zB (a1.trans Yl.symm)).2
   exact⟨j,z,a1,a2,by rw[h3 j ej ejp];exact a3,a4,a5,a6⟩
 .obtain⟨y,hy,P9,_⟩:=back i x e hx he;obtain⟨y',TK,NF,_⟩:=back i' x' e' sW mr;exact h.un i i' y y' e e' hy TK P9 NF nr
 .rcases pD i x hx with⟨rfl,rfl⟩|⟨rfl,rfl⟩|⟨_,c2,hx⟩
  .exact OK _ (h.lk _ d hn λe=>by rw[h.em i d hn e]at zB;cases zB) Bl
  .exact absurd hq.2.1 Ol
  .exact OK _ (h.lk i x hx Ol) c2
 .rcases pD i x hx with⟨rfl,rfl⟩|⟨rfl,rfl⟩|⟨_,_,hx⟩
  .rw[h.em i d hn (hd.2.2▸hz)]at zB;cases zB
  .exact hq.2.2.1
  .exact h.em i x hx hz
 .rcases pD i x hx with⟨rfl,rfl⟩|⟨rfl,rfl⟩|⟨_,_,hx⟩
  .rw[hd.2.2];exact h.lr i d hn
  .exact .inl hq.2.1
  .exact h.lr i x hx
 .have key:∀(i:Nat)(y:Sk),t[i]? =some y->i≠p'->(y.up=i\/y.up=0\/y.ah=2/\∃(u:Nat)(x:Sk)(e:NE),y.up=u/\t'[u]? =some x/\e∈x.es/\e.2=i):=λi y hy Ut=>by
   rcases h.ux i y hy with a|a|⟨a0,u,z,e,a1,a2,a3,a4⟩
   .exact .inl a
   .exact .inr (.inl a)
   .obtain⟨z',b1,_,b2⟩:=fwd u z a2;exact .inr (.inr ⟨a0,u,z',e,a1,b1,b2 e a3 λe1=>Ut (by subst e1;omega),a4⟩)
  rcases pD i x hx with⟨rfl,rfl⟩|⟨rfl,rfl⟩|⟨_,c2,hx⟩
  .rw[hd.2.1,hd.1];exact key i d hn Bl
  .rw[hq.2.2.2,hq.1];by_cases e2:q.ah=2
   .rw[if_pos e2];exact .inl rfl
   .rw[if_neg e2];rcases h.ux i q hp with a|a|⟨a0,_⟩
    .exact .inl a
    .exact .inr (.inl a)
    .exact absurd a0 e2
  .exact key i x hx c2
theorem Tree.sub{t t':List Sk}(h:Tree t){M:Nat->Prop}(h0:M 0)(ib:∀(i:Nat)d e(j:Nat),M i->t[i]? =some d->e∈d.es->e.2=(j:Nat)->M j)(h1:∀(i:Nat)d,M i->t[i]? =some d->d.ah≠0->t'[i]? =some d)(h2:∀(i:Nat)d',t'[i]? =some d'->d'=skZ\/t[i]? =some d'/\M i):Tree t':=by
 have hM:∀i,Lk t i->M i:=λi hi=>by
  induction hi with
  |al=>exact h0
  |step _ hd he hj ih=>exact ib _ _ _ _ ih hd he hj
 have kE:∀(i:Nat)d e,t[i]? =some d->e∈d.es->d.ah≠0:=λi d e hd he hz=>by rw[h.z i d hd hz]at he;cases he
 have oE:∀(i:Nat)d e,t[i]? =some d->e∈d.es->M i:=λi d e hd he=>hM i (h.lk i d hd λhz=>by rw[h.em i d hd hz]at he;cases he)
 have OK:∀i,Lk t i->Lk t' i:=λi hi=>hi.mono λi d hd hn=>by obtain⟨e,hx⟩:=acG _ hn;exact⟨d,h1 i d (oE i d e hd hx) hd (kE i d e hd hx),λ_ h=>h⟩
 have bk:∀(i:Nat)d e,t'[i]? =some d->e∈d.es->t[i]? =some d/\M i:=λi d e hd he=>by
  rcases h2 i d hd with rfl|h
  .cases he
  .exact h
 refine⟨λi d hd hz=>?_,?_,λi d e hd hx=>?_,λi i' d d' e e' hd x7 hx sW nr=>h.un i i' d d' e e' (bk i d e hd hx).1 (bk i' d' e' x7 sW).1 hx sW nr,λi d hd hn=>?_,λi d hd hn=>?_,λi d hd=>?_,λi d hd=>?_⟩
 .rcases h2 i d hd with h'|⟨h',_⟩
  .exact h'
  .exact h.z i d h' hz
 .obtain⟨d,a1,a2,a3⟩:=h.r0;exact⟨d,h1 0 d h0 a1 om,a2,a3⟩
 .obtain⟨x7,hm⟩:=bk i d e hd hx;obtain⟨j,x,a1,a2,a3,a4,a5⟩:=h.tr i d e x7 hx;exact⟨j,x,a1,a2,h1 j x (ib i d e j hm x7 hx a1) a3 a4,a4,a5⟩
 .rcases h2 i d hd with rfl|⟨h',_⟩
  .exact absurd rfl hn
  .exact OK i (h.lk i d h' hn)
 .rcases h2 i d hd with rfl|⟨h',_⟩
  .rfl
  .exact h.em i d h' hn
 .rcases h2 i d hd with rfl|⟨h',_⟩
  .exact .inl rfl
  .exact h.lr i d h'
 .rcases h2 i d hd with rfl|⟨h',_⟩
  .exact .inr (.inl rfl)
  .rcases h.ux i d h' with a|a|⟨a0,u,x,e,a1,a2,a3,a4⟩
   .exact .inl a
   .exact .inr (.inl a)
   .exact .inr (.inr ⟨a0,u,x,e,a1,h1 u x (oE u x e a2 a3) a2 (kE u x e a2 a3),a3,a4⟩)
theorem Tree.take{t:List Sk}(h:Tree t){n:Nat}(hn:1<=n)(hz:∀(i:Nat)d,n<=i->t[i]? =some d->d.ah=0):Tree (t.take n):=by
 have get:∀(i:Nat)d,(t.take n)[i]? =some d->t[i]? =some d:=λi d hd=>by
  rw[aa8]at hd;split at hd
  .exact hd
  .cases hd
 have put:∀(i:Nat)d,t[i]? =some d->d.ah≠0->(t.take n)[i]? =some d:=λi d hd hk=>by
  rw[aa8,if_pos (acT λhle=>hk (hz i d hle hd))]
  exact hd
 have kE:∀(i:Nat)d e,t[i]? =some d->e∈d.es->d.ah≠0:=λi d e hd he hz=>by rw[h.z i d hd hz]at he;cases he
 refine⟨λi d hd hz=>h.z i d (get i d hd) hz,?_,λi d e hd hx=>?_,λi i' d d' e e' hd x7 hx sW nr=>h.un i i' d d' e e' (get i d hd) (get i' d' x7) hx sW nr,λi d hd hn=>?_,λi d hd hn=>h.em i d (get i d hd) hn,λi d hd=>h.lr i d (get i d hd),λi d hd=>?_⟩
 .obtain⟨d,a1,a2,a3⟩:=h.r0;exact⟨d,put 0 d a1 om,a2,a3⟩
 .obtain⟨j,x,a1,a2,a3,a4,a5⟩:=h.tr i d e (get i d hd) hx;exact⟨j,x,a1,a2,put j x a3 a4,a4,a5⟩
 .refine(h.lk i d (get i d hd) hn).mono λi d hd dt=>?_
  obtain⟨e,hx⟩:=acG _ dt;exact⟨d,put i d hd (kE i d e hd hx),λ_ h=>h⟩
 .rcases h.ux i d (get i d hd)with a|a|⟨a0,u,x,e,a1,a2,a3,a4⟩
  .exact .inl a
  .exact .inr (.inl a)
  .exact .inr (.inr ⟨a0,u,x,e,a1,put u x a2 (kE u x e a2 a3),a3,a4⟩)
end Kn
namespace Kn
structure F8(l:List Obj)(o:Obj):Prop where
 eq:o.ak=(dG o).map fP
 DY:ER (dG o)
 cL:o.ah≠2->o.ak=[]
 to:∀e,e∈dG o->e.1.size<=12/\∃(j:Nat)(x:Obj),e.2=j/\l[j]? =some x/\x.ah≠0
def fS(l:List Obj)(z:Int):Prop:=∃(j:Nat)(x:Obj),z=j/\l[j]? =some x/\x.ah≠0
def fG(k:Kr)(z r:Int):Prop:=(0<=r/\r<=4095)/\∃(n:Nat)(o:bD),z=n/\k.ops[n]? =some o/\fS k.l o.bn
structure KI(k:Kr):Prop where
 ll:k.l.length<=40
 lo:k.ops.length<=60
 lp:k.ps.length<=8
 sm:∀o,o∈k.l->o.sm
 sl:∀x,x∈k.ps->x.aV.length<=10
 ne:k.ps≠[]
 aS:∀x,x∈k.ps->x.aQ=false->x.aV=[]
 cap:∀x,x∈k.ps->∀s,s∈x.aV->s.has=true->fG k s.dP s.b9
 qu:∀o,o∈k.l->∀q,q∈o.aj->q.has=true->fG k q.dP q.b9
 pr:∀o,o∈k.l->o.ah=5->∃n:Nat,o.aA=n/\n<k.ps.length
 en:∀o,o∈k.l->F8 k.l o
 z:∀o,o∈k.l->o.ah=0->o=gR
 pe:∀(i:Nat)o,k.l[i]? =some o->o.ah=4->o.aG= -1\/∃(j:Nat)(x:Obj),o.aG=j/\k.l[j]? =some x/\x.ah=4/\x.aG=i
 da:∀o,o∈k.ops->0<=o.da/\o.da<=64
 Qa:∀o,o∈k.l->o.data.length<=60
 su:Tree (k.l.map u0)
theorem KI.kr{k:Kr}(h:KI k):dF k.l k.ops k.ps:=⟨h.sm,by have:=h.ll;omega,by have:=h.lo;omega,by have:=h.lp;omega,h.sl,h.ne⟩
theorem gn{l:List Obj}{i:Nat}{o:Obj}(h:l[i]? =some o):(l.map u0)[i]? =some (u0 o):=by rw[RA,h];rfl
theorem oR{l:List Obj}{i:Nat}{d:Sk}(h:(l.map u0)[i]? =some d):∃o,l[i]? =some o/\d=u0 o:=by
 rw[RA]at h;cases ho:l[i]? with
 |none=>rw[ho]at h;cases h
 |some o=>rw[ho]at h;cases h;exact⟨o,rfl,rfl⟩
theorem KI.up{k:Kr}(h:KI k){o:Obj}(ho:o∈k.l):0<=o.up/\o.up<k.l.length:=by obtain⟨i,hi⟩:=Xt ho;have:=h.su.Xg (gn hi);rwa [ML]at this
theorem KI.al{k:Kr}(h:KI k):∃o,k.l[0]? =some o/\o.ah=2:=by obtain⟨d,h1,h2,_⟩:=h.su.r0;obtain⟨o,h3,rfl⟩:=oR h1;exact⟨o,h3,h2⟩
theorem KI.pos{k:Kr}(h:KI k):0<k.l.length:=by obtain⟨o,h1,_⟩:=h.al;exact(I4.1 h1).1
theorem F8.len{l:List Obj}{o:Obj}(h:F8 l o):(dG o).length=o.ak.length:=by have:=congrArg List.length h.eq;rw[ML]at this;exact this.symm
theorem KI.DY{k:Kr}(h:KI k):wZ k.l:=by
 refine⟨⟨by have:=h.ll;omega,λo ho=>(h.sm o ho).nT⟩,λo ho=>?_⟩
 have he:=h.en o ho;refine⟨dG o,he.eq,he.DY,by rw[he.len];have:=(h.sm o ho).e;omega,λe hx=>?_⟩
 obtain⟨_,j,x,h1,h2,_⟩:=he.to e hx;have:=(I4.1 h2).1;omega
theorem KI.lk{k:Kr}(h:KI k):nw (k.l.map Obj.ob):=by
 refine⟨by rw[ML];have:=h.ll;omega,by rw[ML];exact h.pos,λo ho=>?_,λo ho=>?_,λo ho=>?_⟩
 .obtain⟨x,hx,rfl⟩:=aak.1 ho;have he:=h.en x hx;refine⟨dG x,he.eq,he.DY,λe Zd=>?_,λhk=>?_⟩
  .obtain⟨_,j,y,h1,h2,_⟩:=he.to e Zd;have:=(I4.1 h2).1;rw[ML];omega
  .have:=he.cL hk;show x.ak.map nJ=[];rw[this];rfl
 .obtain⟨x,hx,rfl⟩:=aak.1 ho;have:=(h.sm x hx).e;show x.ak.length<=64;omega
 .obtain⟨x,hx,rfl⟩:=aak.1 ho;have:=h.up hx;rw[ML];exact this
def zC(x o:Obj):Prop:=x=o\/x={o with aG:= -1}
theorem zC.all{x o:Obj}(h:zC x o):x.ah=o.ah/\x.data=o.data/\x.ak=o.ak/\x.target=o.target/\x.aj=o.aj/\x.aA=o.aA/\x.am=o.am/\x.up=o.up:=by
 rcases h with rfl|rfl<;>exact⟨rfl,rfl,rfl,rfl,rfl,rfl,rfl,rfl⟩
theorem zC.sk{x o:Obj}(h:zC x o):u0 x=u0 o:=by obtain⟨h1,_,h2,_,_,_,h3,h4⟩:=h.all;unfold u0 dG;rw[h1,h2,h3,h4]
theorem kG{l:List Obj}(hz:∀o,o∈l->o.ah=0->o=gR)(b:Mk){i:Nat}{o:Obj}(ho:l[i]? =some o):
  (cC b l l.length i o=gR/\(o.ah=0\/¬dg b.O i))\/(dg b.O i/\o.ah≠0/\((cC b l l.length i o=o/\(o.ah=4->∀(j:Nat)x,o.aG=j->l[j]? =some x->x.ah≠0->dg b.O j))\/
   (cC b l l.length i o={o with aG:= -1}/\o.ah=4/\∃(j:Nat)(x:Obj),o.aG=j/\l[j]? =some x/\¬dg b.O j))):=by
 have hi:=(I4.1 ho).1;have Mj:∀j,(b.O[j]? ==some true)=true↔dg b.O j:=λj=>by unfold dg;simp
 have i3:∀(j:Nat)x,l[j]? =some x->(eI b l j=true↔¬dg b.O j/\x.ah≠0):=λj x hx=>by unfold eI;rw[hx];simp only[aab,abP,bne_iff_ne,ne_eq];rw[<-Mj j];simp
 unfold cC;by_cases h1:(eI b l i&&decide (i<l.length))=true
 .rw[if_pos h1];rw[aab]at h1;exact .inl ⟨rfl,.inr ((i3 i o ho).1 h1.1).1⟩
 .rw[if_neg h1];have lB:¬eI b l i=true:=λh=>h1 (by rw[h];simpa using hi)
  by_cases hk:o.ah=0
  .have:=hz o (RD ho) hk;subst this;exact .inl ⟨rfl,.inl rfl⟩
  .have hM:dg b.O i:=Z5 λhn=>lB ((i3 i o ho).2 ⟨hn,hk⟩)
   refine .inr ⟨hM,hk,?_⟩;by_cases h2:(o.ah==4&&lW b l l.length o.aG)=true
   .rw[if_pos h2];rw[aab]at h2;refine .inr ⟨rfl,by simpa using h2.1,?_⟩
    have h3:=h2.2;unfold lW at h3;rw[aab,decide_eq_true_eq]at h3;obtain⟨⟨h4,h5⟩,h6⟩:=h3;refine⟨o.aG.toNat,l[o.aG.toNat],om,uX h5,((i3 _ _ (uX h5)).1 h6).1⟩
   .rw[if_neg h2];refine .inl ⟨rfl,λh4 j x hp hx hxk=>?_⟩
    refine Z5 λhn=>h2 ?_
    have hj:=(I4.1 hx).1;rw[h4,aab];refine⟨rfl,?_⟩;unfold lW;rw[hp,aac,(i3 j x hx).2 ⟨hn,hxk⟩,Bool.and_true,decide_eq_true_eq];omega
theorem JG(L:List Obj)(k t:Nat)(x:bl):xT L k t x=f9\/xT L k t x=x:=by
 unfold xT;split
 .exact .inl rfl
 .exact .inr rfl
theorem Qb:gR.data.length<=60:=by simp[gR]
theorem KI.IP{k c:Kr}{en:Bool}(h:KI k)(ho:cT k.l k.ops k.ps c.l c.ops c.ps en):KI c:=by
 obtain⟨b,hb,hL,hP⟩:=ho.ex;have hR:=ho.pr;have pD:∀(i:Nat)x,c.l[i]? =some x->x=gR\/∃o,k.l[i]? =some o/\dg b.O i/\o.ah≠0/\zC x o:=λi x hx=>by
  obtain⟨o,h1,h2⟩:=hL.get hx;rcases kG h.z b h1 with⟨h3,_⟩|⟨h3,h4,h5⟩
  .exact .inl (h2.trans h3)
  .refine .inr ⟨o,h1,h3,h4,?_⟩;rcases h5 with⟨h5,_⟩|⟨h5,_⟩
   .exact .inl (h2.trans h5)
   .exact .inr (h2.trans h5)
 have eE:∀(i:Nat)o,k.l[i]? =some o->dg b.O i->o.ah≠0->∃x,c.l[i]? =some x/\zC x o:=λi o h1 hM hk=>by
  refine⟨_,hL.2 i o h1,?_⟩;rcases kG h.z b h1 with⟨_,h4|h4⟩|⟨_,_,⟨h5,_⟩|⟨h5,_⟩⟩
  .exact absurd h4 hk
  .exact absurd hM h4
  .exact .inl h5
  .exact .inr h5
 have Bm:∀z,fS k.l z->(∀n:Nat,vO k.l z n->dg b.O n)->fS c.l z:=λz⟨j,x,h1,h2,h3⟩hm=>by
  obtain⟨y,h4,h5⟩:=eE j x h2 (hm j ⟨h1,x,h2,h3⟩) h3;exact⟨j,y,h1,h4,by rw[h5.all.1];exact h3⟩
 have eh:∀z r,fG k z r->(∀n:Nat,vP k.ops z n->dg b.P n)->fG c z r:=λz r⟨hr,n,o,h1,h2,h3⟩hm=>by
  have hn:=(I4.1 h2).1;have hM:=hm n ⟨h1,hn⟩;refine⟨hr,n,o,h1,?_,Bm _ h3 λj hv=>hb.cl.p n o hM h2 j hv⟩
  rw[hP.2 n o h2,BJ,if_neg];have:(b.P[n]? ==some true)=true:=by unfold dg at hM;rw[hM];rfl
  rw[this];simp
 have hlen:c.l.length=k.l.length:=hL.1;have mem:∀x,x∈c.l->∃i:Nat,c.l[i]? =some x:=λx hx=>Xt hx
 have NG:∀x,x∈c.ps->x=f9\/x∈k.ps:=λx hx=>by
  obtain⟨t,ht⟩:=Xt hx;obtain⟨o,h1,h2⟩:=hR.get ht;rcases JG c.l k.ps.length t o with h3|h3
  .exact .inl (h2.trans h3)
  .exact .inr (by rw[h2,h3];exact RD h1)
 refine⟨by rw[hlen];exact h.ll,by rw[hP.1];exact h.lo,by rw[hR.1];exact h.lp,(ho.kr h.kr).sm,(ho.kr h.kr).sl,(ho.kr h.kr).ne,λx hx hl=>?_,λx hx s hs hh=>?_,λo fj q hq hh=>?_,λo fj h5=>?_,λo fj=>?_,λo fj hk=>?_,λi o hi h4=>?_,λo fj=>?_,λo fj=>?_,?_⟩
 .rcases NG x hx with rfl|hx
  .rfl
  .exact h.aS x hx hl
 .rcases NG x hx with rfl|sW
  .cases hs
  .cases hl:x.aQ with
   |false=>rw[h.aS x sW hl]at hs;cases hs
   |true=>
    obtain⟨p,hp⟩:=Xt sW;exact eh _ _ (h.cap x sW s hs hh) λn hv=>hb.mU.2 p x hp hl s hs hh n hv
 .obtain⟨i,hi⟩:=mem o fj;rcases pD i o hi with rfl|⟨y,h1,hM,hk,hs⟩
  .cases hq
  .rw[hs.all.2.2.2.2.1]at hq;exact eh _ _ (h.qu y (RD h1) q hq hh) λn hv=>hb.cl.q i y hM h1 q.dP n ⟨q,hq,hh,rfl⟩ hv
 .obtain⟨i,hi⟩:=mem o fj;rcases pD i o hi with rfl|⟨y,h1,hM,hk,hs⟩
  .cases h5
  .rw[hs.all.1]at h5;rw[hs.all.2.2.2.2.2.1,hR.1];exact h.pr y (RD h1) h5
 .obtain⟨i,hi⟩:=mem o fj;rcases pD i o hi with rfl|⟨y,h1,hM,hk,hs⟩
  .exact⟨rfl,List.Pairwise.nil,λ_=>rfl,λe he=>by cases he⟩
  .have he:=h.en y (RD h1);have nr:dG o=dG y:=by unfold dG;rw[hs.all.2.2.1]
   refine⟨by rw[hs.all.2.2.1,nr];exact he.eq,by rw[nr];exact he.DY,λhn=>by rw[hs.all.2.2.1];exact he.cL (by rw[<-hs.all.1];exact hn),λe hx=>?_⟩
   rw[nr]at hx;obtain⟨h2,j,x,h3,h4,h5⟩:=he.to e hx;have uO:sE y e.2:=⟨e.1,by rw[he.eq];exact aak.2 ⟨e,hx,rfl⟩⟩
   obtain⟨x',h6,h7⟩:=eE j x h4 (hb.cl.e i y hM h1 e.2 j uO ⟨h3,x,h4,h5⟩) h5;exact⟨h2,j,x',h3,h6,by rw[h7.all.1];exact h5⟩
 .obtain⟨i,hi⟩:=mem o fj;rcases pD i o hi with rfl|⟨y,h1,hM,oo,hs⟩
  .rfl
  .exact absurd (hs.all.1▸hk) oo
 .obtain⟨y,h1,h2⟩:=hL.get hi;rcases kG h.z b h1 with⟨h3,_⟩|⟨hM,hk,h5⟩
  .rw[h2,h3]at h4;cases h4
  .rcases h5 with⟨h5,h6⟩|⟨h5,_⟩
   .rw[h2,h5]at h4|-;rcases h.pe i y h1 h4 with h7|⟨j,x,h7,h8,h9,Tx⟩
    .exact .inl h7
    .refine .inr ⟨j,cC b k.l k.l.length j x,h7,hL.2 j x h8,?_⟩;have Uu:=h6 h4 j x h7 h8 om;rcases kG h.z b h8 with⟨_,Ku|Ku⟩|⟨_,_,⟨Ku,_⟩|⟨_,_,j',x',GB,DZ,No⟩⟩
     .omega
     .exact absurd Uu Ku
     .rw[Ku];exact⟨h9,Tx⟩
     .have:j'=i:=om;subst this;exact absurd hM No
   .rw[h2,h5];exact .inl rfl
 .obtain⟨t,ht⟩:=Xt fj;obtain⟨x,h1,h2⟩:=hP.get ht;rw[h2,BJ];split
  .exact⟨acu _,by show(0:Int)<=64;omega⟩
  .exact h.da x (RD h1)
 .obtain⟨i,hi⟩:=mem o fj;rcases pD i o hi with rfl|⟨y,h1,hM,hk,hs⟩
  .exact Qb
  .rw[hs.all.2.1];exact h.Qa y (RD h1)
 .obtain⟨r,rC,qB⟩:=h.al;refine h.su.sub (M:=dg b.O) (hb.mU.1 0 ⟨rfl,r,rC,om⟩) (λi d e j hM hd he hj=>?_) (λi d hM hd hk=>?_) (λi d' x7=>?_)
  .obtain⟨o,h1,rfl⟩:=oR hd;have pO:=h.en o (RD h1);obtain⟨_,j',x,h3,h4,h5⟩:=pO.to e he;have:j'=j:=om;subst this;exact hb.cl.e i o hM h1 e.2 j' ⟨e.1,by rw[pO.eq];exact aak.2 ⟨e,he,rfl⟩⟩ ⟨h3,x,h4,h5⟩
  .obtain⟨o,h1,rfl⟩:=oR hd;obtain⟨x,h2,h3⟩:=eE i o h1 hM hk;rw[<-h3.sk];exact gn h2
  .obtain⟨x,h1,rfl⟩:=oR x7;rcases pD i x h1 with rfl|⟨y,h2,hM,hk,hs⟩
   .exact .inl rfl
   .exact .inr ⟨by rw[hs.sk];exact gn h2,hM⟩
theorem NH{α:Type}{l:List α}{n i:Nat}{x:α}(h:(l.take n)[i]? =some x):l[i]? =some x/\i<n:=by
 rw[aa8]at h;split at h
 .exact⟨h,by assumption⟩
 .cases h
theorem Dr{α:Type}{l:List α}{n i:Nat}{x:α}(h:l[i]? =some x)(hi:i<n):(l.take n)[i]? =some x:=by rw[aa8,if_pos hi];exact h
theorem JH(O:List Obj)(k t:Nat)(x:bl):sM O k t x=f9\/sM O k t x=x:=by
 unfold sM;split
 .exact .inl rfl
 .exact .inr rfl
theorem KI.iy{c d:Kr}(h:KI c)(hf:gC c d):KI d:=by
 obtain⟨n1,n2,n3,P,h1,h2,h3,h4,rfl⟩:=hf.ex;have eE:∀(i:Nat)o,c.l[i]? =some o->o.ah≠0->(c.l.take n1)[i]? =some o:=λi o ho hk=>Dr ho (acT λhle=>hk (by simpa[qO]using h1.t.dr i o hle ho))
 have Bm:∀z,fS c.l z->fS (c.l.take n1) z:=λz⟨j,x,a1,a2,a3⟩=>⟨j,x,a1,eE j x a2 a3,a3⟩
 have eh:∀z r,fG c z r->fG ⟨c.l.take n1,c.ops.take n2,P.take n3⟩ z r:=λz r⟨hr,n,o,a1,a2,a3⟩=>by
  refine⟨hr,n,o,a1,Dr a2 (acT λhle=>?_),Bm _ a3⟩
  have hq:=h2.t.dr n o hle a2;obtain⟨j,_,e,_⟩:=a3;simp only[qP,decide_eq_true_eq]at hq;omega
 have cH:=h.pos;have p8:1<=n1:=by have:=h1.t.mn;omega
 have X4:P.length=c.ps.length:=h3.1;have pz:0<c.ps.length:=ac1.2 h.ne;have WL:1<=n3:=by have:=h4.t.mn;omega
 have afa:=h4.t.le;have NG:∀x,x∈P.take n3->x=f9\/x∈c.ps:=λx hx=>by
  obtain⟨t,ht⟩:=Xt (abq hx);obtain⟨o,a1,a2⟩:=h3.get ht;rcases JH (c.l.take n1) c.ps.length t o with a3|a3
  .exact .inl (a2.trans a3)
  .exact .inr (by rw[a2,a3];exact RD a1)
 have kr:=hf.kr h.kr;refine⟨?_,?_,?_,kr.sm,kr.sl,kr.ne,λx hx hl=>?_,λx hx s hs hh=>?_,λo ho q hq hh=>eh _ _ (h.qu o (abq ho) q hq hh),λo ho h5=>?_,λo ho=>?_,λo ho hk=>h.z o (abq ho) hk,λi o hi hk=>?_,λo ho=>h.da o (abq ho),λo ho=>h.Qa o (abq ho),?_⟩
 .show(c.l.take n1).length<=40;rw[aan];have:=h.ll;omega
 .show(c.ops.take n2).length<=60;rw[aan];have:=h.lo;omega
 .show(P.take n3).length<=8;rw[aan];have:=h.lp;omega
 .rcases NG x hx with rfl|hx
  .rfl
  .exact h.aS x hx hl
 .rcases NG x hx with rfl|hx
  .cases hs
  .exact eh _ _ (h.cap x hx s hs hh)
 .obtain⟨n,a1,a2⟩:=h.pr o (abq ho) h5;refine⟨n,a1,?_⟩;show n<(P.take n3).length;rw[aan];refine Nat.lt_min.2 ⟨acT λhle=>?_,om⟩
  have hq:=h4.t.dr n P[n] hle (uX om);simp only[qR,aab,abP]at hq;have:(c.l.take n1).any (dC (n:Int))=true:=abm.2 ⟨o,ho,by simp[dC,h5,a1]⟩
  rw[this]at hq;cases hq.2
 .have he:=h.en o (abq ho);refine⟨he.eq,he.DY,he.cL,λe hx=>?_⟩
  obtain⟨a0,j,x,a1,a2,a3⟩:=he.to e hx;exact⟨a0,j,x,a1,eE j x a2 a3,a3⟩
 .obtain⟨a1,a2⟩:=NH hi;rcases h.pe i o a1 hk with a3|⟨j,x,a3,a4,a5,a6⟩
  .exact .inl a3
  .exact .inr ⟨j,x,a3,eE j x a4 om,a5,a6⟩
 .show Tree ((c.l.take n1).map u0);rw[aci];refine h.su.take p8 λi d hle hd=>?_
  obtain⟨o,a1,rfl⟩:=oR hd;have:=h1.t.dr i o hle a1;show o.ah=0;simpa[qO]using this
theorem KI.to{k a:Kr}(h:KI k)(h1:iv k a):KI a:=by
 induction h1 with
 |refl=>exact h
 |step _ ho ih=>exact ih.IP ho
theorem KI.RQ{k:Kr}(h:KI k):KI (gK k):=by obtain⟨a,c,h1,h2,h3⟩:=(ii h.kr).ex;exact((h.to h1).IP h2).iy h3
end Kn
namespace Kn
theorem vj{l:List Ob}{ar:Nat}{ax follow:Bool}{rec:Nat->List bK.dI->Nat->R4}{A:Nat->Prop}{Q:R4->Prop}(h0:∀e,e≠0->Q (R4.no e))(h1:∀a,A a->Q ⟨a,AY l a,[],0⟩)(h2:∀a w,A a->(lC l a).ah=2->mg l a w<0->Q ⟨-1,a,w,0⟩)(h3:∀a w,A a->(lC l a).ah=2->¬mg l a w<0->Q ⟨mg l a w,a,w,0⟩)(Ke:∀a,A a->(lC l a).ah=2->¬(ax=true/\a=ar)->A (AY l a))(Qc:∀a w,A a->(lC l a).ah=2->¬mg l a w<0->A (mg l a w).toNat)(Al:∀a rest k,A a->Q (rec a rest k)):∀(parts:List bK.dI)(a:Nat),A a->Q (Hp l ar ax follow rec parts a)
 | [],a,ha=>h1 a ha
 |w::rest,a,ha=>by
  rw[Hp];split
  .exact h0 11 (by decide)
  .rename_i hk;have hk:(lC l a).ah=2:=by simpa using hk
   split
   .split
    .exact h0 14 (by decide)
    .rename_i hf;exact vj h0 h1 h2 h3 Ke Qc Al rest _ (Ke a ha hk hf)
   .split
    .rename_i hn;split
     .exact h0 6 (by decide)
     .exact h2 a w ha hk hn
    .rename_i hn;split
     .exact Al a rest _ ha
     .split
      .exact h3 a w ha hk hn
      .exact vj h0 h1 h2 h3 Ke Qc Al rest _ (Qc a w ha hk hn)
theorem HC{l:List Ob}{ar:Nat}{ax follow:Bool}{A:Nat->Prop}{Q:R4->Prop}(h0:∀e,e≠0->Q (R4.no e))(h1:∀a,A a->Q ⟨a,AY l a,[],0⟩)(h2:∀a w,A a->(lC l a).ah=2->mg l a w<0->Q ⟨-1,a,w,0⟩)(h3:∀a w,A a->(lC l a).ah=2->¬mg l a w<0->Q ⟨mg l a w,a,w,0⟩)(Ke:∀a,A a->(lC l a).ah=2->¬(ax=true/\a=ar)->A (AY l a))(Qc:∀a w,A a->(lC l a).ah=2->¬mg l a w<0->A (mg l a w).toNat)(hr:ax=false->A 0):
  ∀(n:Nat)(parts:List bK.dI)(a:Nat),A a->Q (BL l ar ax follow n parts a)
 |0,parts,a,ha=>vj h0 h1 h2 h3 Ke Qc (λ_ _ _ _=>h0 13 (by decide)) parts a ha
 |n+1,parts,a,ha=>by
  refine vj h0 h1 h2 h3 Ke Qc (λa rest k ha=>?_) parts a ha
  rw[PK];split
  .rename_i h;exact h0 _ h
  .split
   .exact h0 14 (by decide)
   .rename_i hf;refine HC h0 h1 h2 h3 Ke Qc hr n _ _ ?_;split
    .rename_i dB;exact hr (by cases ax with|false=>rfl|true=>exact absurd ⟨dB,rfl⟩ hf)
    .exact ha
theorem JI{l:List Ob}{ar:Int}{s:bK.dI}{ax follow:Bool}{A:Nat->Prop}{Q:R4->Prop}(h0:∀e,e≠0->Q (R4.no e))(h1:∀a,A a->Q ⟨a,AY l a,[],0⟩)(h2:∀a w,A a->(lC l a).ah=2->mg l a w<0->Q ⟨-1,a,w,0⟩)(h3:∀a w,A a->(lC l a).ah=2->¬mg l a w<0->Q ⟨mg l a w,a,w,0⟩)(Ke:∀a,A a->(lC l a).ah=2->¬(ax=true/\a=ar.toNat)->A (AY l a))(Qc:∀a w,A a->(lC l a).ah=2->¬mg l a w<0->A (mg l a w).toNat)(hr:ax=false->A 0)(hb:∀n:Nat,ar=n->n<l.length->(lC l n).ah=2->A n):Q (pQ l ar s ax follow):=by
 rw[pQ];split
 .rename_i hi;obtain⟨n,rfl,hn⟩:=Ma hi;split
  .exact h0 11 (by decide)
  .rename_i hk;have hk:(lC l n).ah=2:=by simpa using hk
   split
   .rename_i h;exact h0 _ h
   .split
    .exact h0 14 (by decide)
    .rename_i hf;refine HC h0 h1 h2 h3 Ke Qc hr 6 _ _ ?_;split
     .rename_i dB;exact hr (by cases ax with|false=>rfl|true=>exact absurd ⟨dB,rfl⟩ hf)
     .exact hb n rfl hn hk
 .exact h0 6 (by decide)
theorem NI{l:List Obj}{n:Nat}{o:Obj}(h:l[n]? =some o):lC (l.map Obj.ob) n=o.ob:=by rw[lC,RA,h];rfl
theorem Xi{l:List Obj}{n:Nat}(h:(lC (l.map Obj.ob) n).ah≠0):∃o,l[n]? =some o/\lC (l.map Obj.ob) n=o.ob:=by
 cases ho:l[n]? with
 |none=>exfalso;apply h;rw[lC,RA,ho];rfl
 |some o=>exact⟨o,rfl,NI ho⟩
theorem TL{l:List Obj}{n:Nat}{o:Obj}(h:l[n]? =some o):AY (l.map Obj.ob) n=o.up.toNat:=by rw[AY,NI h];rfl
theorem TM{l:List Obj}{n:Nat}{o:Obj}(h:l[n]? =some o)(w:bK.dI):mg (l.map Obj.ob) n w=fB (dG o) (bK.cF w):=by rw[mg,NI h];rfl
theorem Qd{l:List Obj}{n:Nat}{o:Obj}(h:l[n]? =some o){w:bK.dI}(hf:¬mg (l.map Obj.ob) n w<0):∃e,e∈dG o/\e.1.toList=(bK.cF w).toList/\mg (l.map Obj.ob) n w=e.2:=by
 rw[TM h]at hf|-;rcases iH (dG o) (bK.cF w)with⟨e,h1,h2,h3⟩|⟨h3,_⟩
 .exact⟨e,h1,h2,h3⟩
 .omega
def Du(l:List Obj)(a:Nat):Prop:=∃o,l[a]? =some o/\o.ah≠0
theorem KI.NJ{k:Kr}(h:KI k){a:Nat}(ha:Du k.l a):Du k.l (AY (k.l.map Obj.ob) a):=by
 obtain⟨o,h1,h2⟩:=ha;rw[TL h1];rcases h.su.ux a (u0 o) (gn h1)with h3|h3|⟨_,u,x,e,h3,h4,h5,_⟩
 .have h3:o.up=a:=h3;rw[h3];exact⟨o,h1,h2⟩
 .have h3:o.up=0:=h3;rw[h3];obtain⟨r,h4,h5⟩:=h.al;exact⟨r,h4,om⟩
 .have h3:o.up=u:=h3;rw[h3];obtain⟨y,h6,rfl⟩:=oR h4;refine⟨y,h6,λhz=>?_⟩
  have:=h.z y (RD h6) hz;subst this;cases h5
theorem KI.zD{k:Kr}(h:KI k){a:Nat}{w:bK.dI}(ha:Du k.l a)(hf:¬mg (k.l.map Obj.ob) a w<0):Du k.l (mg (k.l.map Obj.ob) a w).toNat/\0<=mg (k.l.map Obj.ob) a w:=by obtain⟨o,h1,_⟩:=ha;obtain⟨e,h3,_,h4⟩:=Qd h1 hf;obtain⟨_,j,x,h5,h6,h7⟩:=(h.en o (RD h1)).to e h3;rw[h4,h5];exact⟨⟨x,h6,h7⟩,om⟩
theorem KI.Qe{k:Kr}(h:KI k)(ar:Int)(s:bK.dI)(ax follow:Bool):(iO k ar s ax follow).fC=0->(iO k ar s ax follow).bn= -1\/fS k.l (iO k ar s ax follow).bn:=by
 refine JI (A:=Du k.l) (Q:=λr=>r.fC=0->r.bn= -1\/fS k.l r.bn) (λe he h0=>absurd h0 he) (λa⟨o,h1,h2⟩ _=>.inr ⟨a,o,rfl,h1,h2⟩) (λ_ _ _ _ _ _=>.inl rfl) (λa w ha _ hf _=>?_)
  (λa ha _ _=>h.NJ ha) (λa w ha _ hf=>(h.zD ha hf).1) (λ_=>?_) (λn _ hn hk=>?_)
 .obtain⟨⟨o,h1,h2⟩,h3⟩:=h.zD ha hf;exact .inr ⟨_,o,by show mg _ _ _=_;omega,h1,h2⟩
 .obtain⟨r,h4,h5⟩:=h.al;exact⟨r,h4,om⟩
 .obtain⟨o,h1,h2⟩:=Xi (l:=k.l) (n:=n) (by rw[hk];decide)
  rw[h2]at hk;have hk:o.ah=2:=hk;exact⟨o,h1,om⟩
theorem fG.at{k:Kr}{z r:Int}(h:fG k z r):∃n j:Nat,z=n/\n<k.ops.length/\fE k.ops n=j/\j<k.l.length:=by obtain⟨_,n,o,h1,h2,j,x,h3,h4,_⟩:=h;refine⟨n,j,h1,(I4.1 h2).1,?_,(I4.1 h4).1⟩;rw[fE,aac,h2];exact h3
theorem KI.eh{k:Kr}(h:KI k){p:Nat}{s:fk}(hs:s∈ay k.ps p)(hh:s.has=true):fG k s.dP s.b9:=by
 unfold ay at hs;cases hp:k.ps[p]? with
 |none=>rw[hp]at hs;cases hs
 |some x=>rw[hp]at hs;exact h.cap x (RD hp) s hs hh
theorem KI.kw{k:Kr}(h:KI k){p:Nat}(hp:p<k.ps.length):KW k p:=
 ⟨h.kr,h.ll,h.DY,h.lk,λo ho e he=>((h.en o ho).to e he).1,hp,λs hs hh=>(h.eh hs hh).at⟩
end Kn
namespace Kn
theorem F8.mono{l l':List Obj}{o:Obj}(h:F8 l o)(hm:∀(j:Nat)x,l[j]? =some x->x.ah≠0->∃y,l'[j]? =some y/\y.ah≠0):F8 l' o:=
 ⟨h.eq,h.DY,h.cL,λe he=>by obtain⟨h1,j,x,h2,h3,h4⟩:=h.to e he;obtain⟨y,h5,h6⟩:=hm j x h3 h4;exact⟨h1,j,y,h2,h5,h6⟩⟩
structure TN(k:Kr)(l':List Obj)(x:Obj):Prop where
 sm:x.sm
 d:x.data.length<=60
 q:∀q,q∈x.aj->q.has=true->fG k q.dP q.b9
 p:x.ah=5->∃n:Nat,x.aA=n/\n<k.ps.length
 e:F8 l' x
 z:x.ah=0->x=gR
theorem KI.bn{k:Kr}(h:KI k){l':List Obj}(hm:∀(j:Nat)x,k.l[j]? =some x->x.ah≠0->∃y,l'[j]? =some y/\y.ah≠0){x:Obj}(hx:x∈k.l):TN k l' x:=
 ⟨h.sm x hx,h.Qa x hx,h.qu x hx,h.pr x hx,(h.en x hx).mono hm,h.z x hx⟩
theorem fG.mono{k k':Kr}{z r:Int}(h:fG k z r)(ho:∀(n:Nat)o,k.ops[n]? =some o->fS k.l o.bn->∃o',k'.ops[n]? =some o'/\fS k'.l o'.bn):fG k' z r:=by obtain⟨h0,n,o,h1,h2,h3⟩:=h;obtain⟨o',h4,h5⟩:=ho n o h2 h3;exact⟨h0,n,o',h1,h4,h5⟩
theorem fS.mono{l l':List Obj}{z:Int}(h:fS l z)(hm:∀(j:Nat)x,l[j]? =some x->x.ah≠0->∃y,l'[j]? =some y/\y.ah≠0):fS l' z:=by obtain⟨j,x,h1,h2,h3⟩:=h;obtain⟨y,h4,h5⟩:=hm j x h2 h3;exact⟨j,y,h1,h4,h5⟩
theorem KI.Bm{k:Kr}(h:KI k){l':List Obj}(Xa:l'.length<=40)(hm:∀(j:Nat)x,k.l[j]? =some x->x.ah≠0->∃y,l'[j]? =some y/\y.ah≠0)(hx:∀x,x∈l'->TN k l' x)(x5:∀(i:Nat)o,l'[i]? =some o->o.ah=4->o.aG= -1\/∃(j:Nat)(x:Obj),o.aG=j/\l'[j]? =some x/\x.ah=4/\x.aG=i)(ht:Tree (l'.map u0)):KI ⟨l',k.ops,k.ps⟩:=by
 have eh:∀z r,fG k z r->fG ⟨l',k.ops,k.ps⟩ z r:=λz r hc=>hc.mono λn o ho hi=>⟨o,ho,hi.mono hm⟩
 exact⟨Xa,h.lo,h.lp,λo ho=>(hx o ho).sm,h.sl,h.ne,h.aS,λx hx s hs hh=>eh _ _ (h.cap x hx s hs hh),λo ho q hq hh=>eh _ _ ((hx o ho).q q hq hh),λo ho=>(hx o ho).p,λo ho=>(hx o ho).e,λo ho=>(hx o ho).z,x5,h.da,λo ho=>(hx o ho).d,ht⟩
theorem KI.Js{k:Kr}(h:KI k){n:Nat}{o o':Obj}(ho:k.l[n]? =some o)(hs:o'.ah=o.ah/\o'.ak=o.ak/\o'.up=o.up/\o'.am=o.am/\o'.aG=o.aG/\o'.aA=o.aA)(hk:o.ah≠0)(Ej:o'.sm)(hd:o'.data.length<=60)(hq:∀q,q∈o'.aj->q.has=true->fG k q.dP q.b9):KI ⟨k.l.set n o',k.ops,k.ps⟩:=by
 obtain⟨s1,s2,s3,s4,s5,s6⟩:=hs;have hn:=(I4.1 ho).1;have get:∀i:Nat,(k.l.set n o')[i]? =if i=n then some o' else k.l[i]? :=λi=>by
  by_cases e:i=n
  .subst e;rw[if_pos rfl,Tr hn]
  .rw[if_neg e,WE (λx=>e x.symm)]
 have hm:∀(j:Nat)x,k.l[j]? =some x->x.ah≠0->∃y,(k.l.set n o')[j]? =some y/\y.ah≠0:=λj x hx hxk=>by
  rw[get];by_cases e:j=n
  .rw[if_pos e];exact⟨o',rfl,by rw[s1];exact hk⟩
  .rw[if_neg e];exact⟨x,hx,hxk⟩
 have JJ:=RD ho;refine h.Bm (by rw[aaY];exact h.ll) hm (λx hx=>?_) (λi x hx h4=>?_) ?_
 .rcases aa2 hx with hx|rfl
  .exact h.bn hm hx
  .have he:=(h.en o JJ).mono hm;have nr:dG x=dG o:=by unfold dG;rw[s2]
   exact⟨Ej,hd,hq,λh5=>by rw[s6];exact h.pr o JJ (s1▸h5),⟨by rw[nr,s2];exact he.eq,by rw[nr];exact he.DY,λhn=>by rw[s2];exact he.cL (s1▸hn),λe hx=>he.to e (nr▸hx)⟩,λhz=>absurd (s1▸hz) hk⟩
 .have key:∀y:Obj,k.l[i]? =some y->y.ah=4->y.aG= -1\/∃(j:Nat)(x:Obj),y.aG=j/\(k.l.set n o')[j]? =some x/\x.ah=4/\x.aG=i:=λy hy NK=>by
   rcases h.pe i y hy NK with h1|⟨j,z,h1,h2,h3,h4⟩
   .exact .inl h1
   .right;by_cases e:j=n
    .subst e;rw[ho]at h2;cases h2;exact⟨j,o',h1,by rw[get,if_pos rfl],by rw[s1];exact h3,by rw[s5];exact h4⟩
    .exact⟨j,z,h1,by rw[get,if_neg e];exact h2,h3,h4⟩
  rw[get]at hx;by_cases e:i=n
  .rw[if_pos e]at hx;cases hx;rw[s5];exact key o (e▸ho) (s1▸h4)
  .rw[if_neg e]at hx;exact key x hx h4
 .have:(k.l.set n o').map u0=k.l.map u0:=by
   apply abF;intro i;rw[RA,RA,get];by_cases e:i=n
   .subst e;rw[if_pos rfl,ho];show some _=some _;unfold u0 dG;rw[s1,s2,s3,s4]
   .rw[if_neg e]
  rw[this];exact h.su
theorem fM{l:List Obj}{o:Obj}(h:(aF l o).2.2=0)(hl:l.length<=40):∃j:Nat,(aF l o).2.1=j/\(aF l o).1[j]? =some o/\(∀i,i≠j->(aF l o).1[i]? =l[i]?)/\(∀d,l[j]? =some d->d.ah=0)/\(aF l o).1.length<=40/\(∀x,x∈(aF l o).1->x∈l\/x=o):=by
 have hm:∀x,x∈(aF l o).1->x∈l\/x=o:=λx=>zj
 revert h hm;unfold aF;split
 .rename_i k hk;intro _ hm;have oo:=abc.1 hk;refine⟨k,rfl,Tr oo.1,λi hi=>WE (λe=>hi e.symm),λd hd=>?_,by rw[aaY];exact hl,λx hx=>hm x hx⟩
  rw[uX oo.1]at hd;cases hd;simpa using oo.2.1
 .split
  .intro h;cases h
  .rename_i Xa;intro _ hm;refine⟨l.length,rfl,by rw[WH (Ts _)];simp,λi hi=>?_,λd hd=>?_,by simp only[aba,aah,abv];omega,λx hx=>hm x hx⟩
   .rcases aad i l.length with h1|h1
    .exact Yf h1
    .rw[WH h1,aaZ h1];cases e:i-l.length with
     |zero=>omega
     |succ n=>rfl
   .rw[aaZ (Ts _)]at hd;cases hd
structure Qf(k:Kr)(o:Obj):Prop where
 sm:o.sm
 kd:o.ah≠0
 e:o.ak=[]
 q:o.aj=[]
 d:o.data.length<=60
 l:o.am=0
 u:o.up=0
 pe:o.ah=4->o.aG= -1
 p:o.ah=5->∃n:Nat,o.aA=n/\n<k.ps.length
theorem KI.make{k:Kr}(h:KI k){o:Obj}(ho:Qf k o)(he:(aF k.l o).2.2=0):KI ⟨(aF k.l o).1,k.ops,k.ps⟩:=by
 obtain⟨j,_,h2,h3,h4,h5,h6⟩:=fM he h.ll;have hm:∀(i:Nat)x,k.l[i]? =some x->x.ah≠0->∃y,(aF k.l o).1[i]? =some y/\y.ah≠0:=λi x hx hk=>by
  by_cases e:i=j
  .subst e;exact absurd (h4 x hx) hk
  .exact⟨x,by rw[h3 i e];exact hx,hk⟩
 refine h.Bm h5 hm (λx hx=>?_) (λi x hx h4'=>?_) ?_
 .rcases h6 x hx with hx|rfl
  .exact h.bn hm hx
  .exact⟨ho.sm,ho.d,λq hq=>(by rw[ho.q]at hq;cases hq),ho.p,⟨(by unfold dG;rw[ho.e];rfl),(by unfold dG;rw[ho.e];exact List.Pairwise.nil),λ_=>ho.e,λe he=>(by unfold dG at he;rw[ho.e]at he;cases he)⟩,λhz=>absurd hz ho.kd⟩
 .by_cases e:i=j
  .subst e;rw[h2]at hx;cases hx;exact .inl (ho.pe h4')
  .rw[h3 i e]at hx;rcases h.pe i x hx h4' with a|⟨n,y,a1,a2,a3,a4⟩
   .exact .inl a
   .exact .inr ⟨n,y,a1,by rw[h3 n λe=>by subst e;have:=h4 y a2;omega];exact a2,a3,a4⟩
 .refine h.su.new (k:=j) (s:=u0 o) ⟨ho.kd,ho.l,by unfold u0 dG;rw[ho.e];rfl,.inl ho.u⟩ (gn h2) (λi hi=>by rw[RA,RA,h3 i hi]) λd hd=>?_
  obtain⟨x,a1,rfl⟩:=oR hd;exact h4 x a1
theorem qH{l:List Obj}{z:Int}(h:pC l z 0=true):fS l z:=by unfold pC oz at h;rw[aab,aab,decide_eq_true_eq,decide_eq_true_eq,ML]at h;obtain⟨h1,h2,h3⟩:=h;have hz:z.toNat<l.length:=om;rw[RA,uX hz]at h3;simp only[aaz,aab]at h3;refine⟨z.toNat,l[z.toNat],om,uX hz,?_⟩;have:=h3.1;simpa[Obj.ob]using this
theorem oS{b:Bool}{l:List Obj}{cL bn:Int}{name:ByteArray}(h:(cN b l cL name bn).2=0):∃(n p:Nat)(o q:Obj),cL=n/\bn=p/\l[n]? =some o/\l[p]? =some q/\q.ah≠0/\o.ah=2/\o.am≠0/\b=true/\
  ¬fB (dG o) name>=0/\o.ak.length<8/\(cN b l cL name bn).1=jJ l n p name:=by
 have hr:=h;unfold cN at hr;by_cases h1:pC l cL 0=true
 .rw[if_pos h1]at hr;by_cases h2:pC l bn 0=true
  .rw[if_pos h2]at hr;obtain⟨n,o,rfl,hn,_⟩:=qH h1;obtain⟨p,q,rfl,hp,hq⟩:=qH h2;rw[aac,aac,hn]at hr;simp only[]at hr;have hR:cN b l n name p=zo b o (jJ l n p name) name:=by unfold cN;rw[if_pos h1,if_pos h2,aac,aac,hn]
   unfold zo at hr;by_cases a1:o.ah≠2
   .rw[if_pos a1]at hr;cases hr
   rw[if_neg a1]at hr;by_cases a2:o.am=0
   .rw[if_pos a2]at hr;cases hr
   rw[if_neg a2]at hr;by_cases a3:b=false
   .rw[if_pos a3]at hr;cases hr
   rw[if_neg a3]at hr;by_cases a4:fB (o.ak.map nJ) name>=0
   .rw[if_pos a4]at hr;cases hr
   rw[if_neg a4]at hr;by_cases a5:o.ak.length>=8
   .rw[if_pos a5]at hr;cases hr
   exact⟨n,p,o,q,rfl,rfl,hn,hp,hq,by simpa using a1,a2,by simpa using a3,a4,om,by rw[hR,zo,if_neg a1,if_neg a2,if_neg a3,if_neg a4,if_neg a5]⟩
  .rw[if_neg h2]at hr;cases hr
 .rw[if_neg h1]at hr;cases hr
def sx(o:Obj)(name:ByteArray)(p:Nat):Obj:={o with ak:=(iG (name,(p:Int)) (dG o)).map fP}
def HD(q:Obj)(n:Nat):Obj:={q with am:=IntKind.i64.wrap (q.am+1),up:=if q.ah=2 then(n:Int)else q.up}
theorem tU{l:List Obj}{n p:Nat}{o q:Obj}(hn:l[n]? =some o)(hp:l[p]? =some q)(Bl:n≠p)(name:ByteArray):
  (jJ l n p name)[n]? =some (sx o name p)/\(jJ l n p name)[p]? =some (HD q n)/\(∀j,j≠n->j≠p->(jJ l n p name)[j]? =l[j]?)/\(jJ l n p name).length=l.length:=by
 have jT:=(I4.1 hn).1;have jD:=(I4.1 hp).1;have xU:(l.set n (sx o name p))[p]? =some q:=by rw[WE Bl];exact hp
 have e:jJ l n p name=(l.set n (sx o name p)).set p (HD q n):=by
  unfold jJ;rw[hn];simp only[];rw[show {o with ak:=(iG (name,(p:Int)) (o.ak.map nJ)).map fP}=sx o name p from rfl,xU]
  rfl
 rw[e];refine⟨?_,?_,λj h1 h2=>?_,aC⟩
 .rw[WE Bl.symm,Tr jT]
 .rw[Tr (by simpa using jD)]
 .rw[WE (λe=>h2 e.symm),WE (λe=>h1 e.symm)]
theorem zE(x:NE):∀es:List NE,x∈iG x es
 | []=>by simp[iG]
 |e::r=>by
  rw[iG];split
  .simp
  .exact abX _ (zE x r)
theorem xq{x y:NE}:∀{es:List NE},y∈es->y∈iG x es
 | [],h=>by cases h
 |e::r,h=>by
  rw[iG];split
  .exact abX _ h
  .rcases aa1.1 h with rfl|h
   .simp
   .exact abX _ (xq h)
theorem F9{es:List NE}{name:ByteArray}(cH:∀e,e∈es->0<=e.2)(h:¬fB es name>=0):∀e,e∈es->e.1.toList≠name.toList:=by
 rcases iH es name with⟨e,he,_,h2⟩|⟨_,h2⟩
 .have:=cH e he;rw[h2]at h;omega
 .exact h2
theorem KI.enter{k:Kr}(h:KI k){b:Bool}{cL bn:Int}{name:ByteArray}(GO:b=true->name.size<=12)(va:∀(p:Nat)q,bn=p->k.l[p]? =some q->q.am=0)(he:(cN b k.l cL name bn).2=0):KI ⟨(cN b k.l cL name bn).1,k.ops,k.ps⟩:=by
 obtain⟨n,p,o,q,rfl,rfl,hn,hp,JF,gO,Am,hb,hf,h8,hR⟩:=oS he;have UH:=va p q rfl hp;have Bl:n≠p:=λe=>by subst e;rw[hn]at hp;cases hp;exact Am UH
 rw[hR];obtain⟨g1,g2,g3,g4⟩:=tU hn hp Bl name;have JJ:=RD hn;have Qg:=RD hp;have pO:=h.en o JJ;have ND:q.ak=[]:=by have:=h.su.em p (u0 q) (gn hp) UH;have h2:=(h.en q Qg).eq;have this:dG q=[]:=this;rw[this]at h2;exact h2
 have uI:dG (sx o name p)=iG (name,(p:Int)) (dG o):=by unfold dG sx;exact nt _
 have NL:dG (HD q n)=dG q:=rfl;have hw:IntKind.i64.wrap (q.am+1)=1:=by rw[UH];rfl
 have hm:∀(j:Nat)x,k.l[j]? =some x->x.ah≠0->∃y,(jJ k.l n p name)[j]? =some y/\y.ah≠0:=λj x hx hk=>by
  by_cases e:j=n
  .subst e;rw[hn]at hx;cases hx;exact⟨_,g1,hk⟩
  .by_cases e2:j=p
   .subst e2;rw[hp]at hx;cases hx;exact⟨_,g2,hk⟩
   .exact⟨x,by rw[g3 j e e2];exact hx,hk⟩
 have pD:∀(i:Nat)x,(jJ k.l n p name)[i]? =some x->(i=n/\x=sx o name p)\/(i=p/\x=HD q n)\/(i≠n/\i≠p/\k.l[i]? =some x):=λi x hx=>by
  by_cases e:i=n
  .subst e;rw[g1]at hx;cases hx;exact .inl ⟨rfl,rfl⟩
  .by_cases e2:i=p
   .subst e2;rw[g2]at hx;cases hx;exact .inr (.inl ⟨rfl,rfl⟩)
   .rw[g3 i e e2]at hx;exact .inr (.inr ⟨e,e2,hx⟩)
 have cH:∀e,e∈dG o->0<=e.2:=λe hx=>by obtain⟨_,j,_,h1,_⟩:=pO.to e hx;omega
 refine h.Bm (by rw[g4];exact h.ll) hm (λx hx=>?_) (λi x hx h4=>?_) ?_
 .obtain⟨i,hi⟩:=Xt hx;rcases pD i x hi with⟨rfl,rfl⟩|⟨rfl,rfl⟩|⟨_,_,hx⟩
  .have hO:=h.bn hm JJ;refine⟨⟨⟨hO.sm.t.1,⟨_,rfl⟩,hO.sm.t.2.2⟩,hO.sm.d,?_,hO.sm.q,hO.sm.qd⟩,hO.d,hO.q,hO.p,?_,λhz=>absurd hz (by rw[show(sx o name p).ah=o.ah from rfl,gO];decide)⟩
   .show((iG (name,(p:Int)) (dG o)).map fP).length<=8;rw[ML,Cz,pO.len];omega
   .refine⟨by rw[uI];rfl,by rw[uI];exact L9 pO.DY (F9 cH hf),λhk=>absurd gO hk,λe hx=>?_⟩
    rw[uI]at hx;rcases rO hx with hx|rfl
    .exact hO.e.to e hx
    .exact⟨GO hb,p,_,rfl,g2,JF⟩
  .have hO:=h.bn hm Qg;exact⟨⟨hO.sm.t,hO.sm.d,hO.sm.e,hO.sm.q,hO.sm.qd⟩,hO.d,hO.q,hO.p,⟨hO.e.eq,hO.e.DY,hO.e.cL,hO.e.to⟩,λhz=>absurd hz JF⟩
  .exact h.bn hm (RD hx)
 .have key:∀(i:Nat)y,k.l[i]? =some y->y.ah=4->y.aG= -1\/∃(j:Nat)(x:Obj),y.aG=j/\(jJ k.l n p name)[j]? =some x/\x.ah=4/\x.aG=i:=λi y hy NK=>by
   rcases h.pe i y hy NK with h1|⟨j,z,h1,h2,h3,h4⟩
   .exact .inl h1
   .right;by_cases e:j=n
    .subst e;rw[hn]at h2;cases h2;omega
    .by_cases e2:j=p
     .subst e2;rw[hp]at h2;cases h2;exact⟨j,_,h1,g2,h3,h4⟩
     .exact⟨j,z,h1,by rw[g3 j e e2];exact h2,h3,h4⟩
  rcases pD i x hx with⟨rfl,rfl⟩|⟨rfl,rfl⟩|⟨_,_,hx⟩
  .exact key _ o hn h4
  .exact key _ q hp h4
  .exact key i x hx h4
 .refine h.su.enter (nm:=name) (gn hn) (gn hp) Am UH JF (gn g1) (gn g2) (λj a b=>by rw[RA,RA,g3 j a b]) ⟨rfl,rfl,rfl⟩ (λe=>?_) ⟨rfl,hw,NL,rfl⟩
  show e∈dG (sx o name p)↔_;rw[uI];exact⟨rO,λhx=>hx.elim xq λhx=>hx▸zE _ _⟩
end Kn
namespace Kn
theorem sy{l:List Obj}{cL:Int}{name:ByteArray}(h:(cO l cL name).2.2=0):∃(n k:Nat)(o q:Obj),cL=n/\l[n]? =some o/\o.ah=2/\fB (dG o) name=k/\l[k]? =some q/\¬(q.ah=2/\q.ak.length>0)/\
  (cO l cL name).1=k8 l n k name/\(cO l cL name).2.1=k:=by
 have hr:=h;unfold cO at hr;by_cases h1:pC l cL 0=true
 .rw[if_pos h1]at hr;obtain⟨n,o,rfl,hn,_⟩:=qH h1;rw[aac,hn]at hr;simp only[]at hr;have hR:cO l n name=w8 o l n name:=by unfold cO;rw[if_pos h1,aac,hn]
  unfold w8 at hr;by_cases a1:o.ah≠2
  .rw[if_pos a1]at hr;cases hr
  rw[if_neg a1]at hr;by_cases a2:fB (o.ak.map nJ) name<0
  .rw[if_pos a2]at hr;cases hr
  rw[if_neg a2]at hr;cases hq:l[(fB (o.ak.map nJ) name).toNat]? with
  |none=>rw[hq]at hr;cases hr
  |some q=>
   rw[hq]at hr;simp only[]at hr;by_cases a3:q.ah=2/\q.ak.length>0
   .rw[if_pos a3]at hr;cases hr
   have hk:fB (o.ak.map nJ) name=((fB (o.ak.map nJ) name).toNat:Nat):=om;refine⟨n,_,o,q,rfl,hn,by simpa using a1,hk,hq,a3,?_,?_⟩
   .rw[hR,w8,if_neg a1,if_neg a2,hq];simp only[if_neg a3]
   .rw[hR,w8,if_neg a1,if_neg a2,hq];simp only[if_neg a3];exact hk
 .rw[if_neg h1]at hr;cases hr
def uJ(o:Obj)(name:ByteArray):Obj:={o with ak:=((dG o).filter λe=>decide (e.1.toList≠name.toList)).map fP}
def HE(q:Obj)(p:Nat):Obj:={q with am:=IntKind.i64.wrap (q.am-1),up:=if q.ah=2 then(p:Int)else q.up}
theorem zF{l:List Obj}{n p:Nat}{o q:Obj}(hn:l[n]? =some o)(hp:l[p]? =some q)(Bl:n≠p)(name:ByteArray):
  (k8 l n p name)[n]? =some (uJ o name)/\(k8 l n p name)[p]? =some (HE q p)/\(∀j,j≠n->j≠p->(k8 l n p name)[j]? =l[j]?)/\(k8 l n p name).length=l.length:=by
 have jT:=(I4.1 hn).1;have jD:=(I4.1 hp).1;have xU:(l.set n (uJ o name))[p]? =some q:=by rw[WE Bl];exact hp
 have e:k8 l n p name=(l.set n (uJ o name)).set p (HE q p):=by
  unfold k8;rw[hn];simp only[];rw[show {o with ak:=((o.ak.map nJ).filter λe=>decide (e.1.toList≠name.toList)).map fP}=uJ o name from rfl,xU]
  rfl
 rw[e];refine⟨?_,?_,λj h1 h2=>?_,aC⟩
 .rw[WE Bl.symm,Tr jT]
 .rw[Tr (by simpa using jD)]
 .rw[WE (λe=>h2 e.symm),WE (λe=>h1 e.symm)]
theorem KI.F7{k:Kr}(h:KI k){cL:Int}{name:ByteArray}(he:(cO k.l cL name).2.2=0):KI ⟨(cO k.l cL name).1,k.ops,k.ps⟩:=by
 obtain⟨n,p,o,q,rfl,hn,gO,hf,hp,ND,hR,_⟩:=sy he;have JJ:=RD hn;have Qg:=RD hp;have pO:=h.en o JJ;obtain⟨e0,zB,Lj,Yl⟩:∃e0,e0∈dG o/\e0.1.toList=name.toList/\e0.2=(p:Int):=by
  rcases iH (dG o) name with⟨e,a1,a2,a3⟩|⟨a3,_⟩
  .exact⟨e,a1,a2,om⟩
  .omega
 have UH:q.ak=[]:=by
  by_cases hk:q.ah=2
  .exact aag (by
    have:=λh=>ND ⟨hk,h⟩
    omega)
  .exact(h.en q Qg).cL hk
 have hqn:dG q=[]:=by unfold dG;rw[UH];rfl
 have Bl:n≠p:=λe=>by subst e;rw[hn]at hp;cases hp;rw[hqn]at zB;cases zB
 obtain⟨p',x,b1,_,b3,JF,G5,_⟩:=h.su.tr n (u0 o) e0 (gn hn) zB;have:p'=p:=om;subst this;rw[gn hp]at b3;cases b3;have JF:q.ah≠0:=JF;have G5:q.am=1:=G5;rw[hR];obtain⟨g1,g2,g3,g4⟩:=zF hn hp Bl name;have uI:dG (uJ o name)=(dG o).filter λe=>decide (e.1.toList≠name.toList):=by
  show((((dG o).filter λe=>decide (e.1.toList≠name.toList)).map fP).map nJ)=_
  exact nt _
 have iD:∀e,e∈dG (uJ o name)↔e∈dG o/\e≠e0:=λe=>by rw[uI,ab6,decide_eq_true_eq];refine⟨λ⟨a,b⟩=>⟨a,λe1=>by subst e1;exact b Lj⟩,λ⟨a,b⟩=>⟨a,λe1=>b (wq pO.DY a zB (e1.trans Lj.symm))⟩⟩
 have NL:dG (HE q p')=[]:=hqn;have hw:IntKind.i64.wrap (q.am-1)=0:=by rw[G5];rfl
 have hm:∀(j:Nat)x,k.l[j]? =some x->x.ah≠0->∃y,(k8 k.l n p' name)[j]? =some y/\y.ah≠0:=λj x hx hk=>by
  by_cases e:j=n
  .subst e;rw[hn]at hx;cases hx;exact⟨_,g1,hk⟩
  .by_cases e2:j=p'
   .subst e2;rw[hp]at hx;cases hx;exact⟨_,g2,hk⟩
   .exact⟨x,by rw[g3 j e e2];exact hx,hk⟩
 have pD:∀(i:Nat)x,(k8 k.l n p' name)[i]? =some x->(i=n/\x=uJ o name)\/(i=p'/\x=HE q p')\/(i≠n/\i≠p'/\k.l[i]? =some x):=λi x hx=>by
  by_cases e:i=n
  .subst e;rw[g1]at hx;cases hx;exact .inl ⟨rfl,rfl⟩
  .by_cases e2:i=p'
   .subst e2;rw[g2]at hx;cases hx;exact .inr (.inl ⟨rfl,rfl⟩)
   .rw[g3 i e e2]at hx;exact .inr (.inr ⟨e,e2,hx⟩)
 refine h.Bm (by rw[g4];exact h.ll) hm (λx hx=>?_) (λi x hx h4=>?_) ?_
 .obtain⟨i,hi⟩:=Xt hx;rcases pD i x hi with⟨rfl,rfl⟩|⟨rfl,rfl⟩|⟨_,_,hx⟩
  .have hO:=h.bn hm JJ;refine⟨⟨⟨hO.sm.t.1,⟨_,rfl⟩,hO.sm.t.2.2⟩,hO.sm.d,?_,hO.sm.q,hO.sm.qd⟩,hO.d,hO.q,hO.p,?_,λhz=>absurd hz (by rw[show(uJ o name).ah=o.ah from rfl,gO];decide)⟩
   .show(((dG o).filter λe=>decide (e.1.toList≠name.toList)).map fP).length<=8
    rw[ML];have:=acf (λe:NE=>decide (e.1.toList≠name.toList)) (dG o)
    have:=pO.len;have:=hO.sm.e;omega
   .exact⟨by rw[uI];rfl,by rw[uI];exact pO.DY.filter _,λhk=>absurd gO hk,λe hx=>hO.e.to e ((iD e).1 hx).1⟩
  .have hO:=h.bn hm Qg;exact⟨⟨hO.sm.t,hO.sm.d,hO.sm.e,hO.sm.q,hO.sm.qd⟩,hO.d,hO.q,hO.p,⟨hO.e.eq,hO.e.DY,hO.e.cL,hO.e.to⟩,λhz=>absurd hz JF⟩
  .exact h.bn hm (RD hx)
 .have key:∀(i:Nat)y,k.l[i]? =some y->y.ah=4->y.aG= -1\/∃(j:Nat)(x:Obj),y.aG=j/\(k8 k.l n p' name)[j]? =some x/\x.ah=4/\x.aG=i:=λi y hy NK=>by
   rcases h.pe i y hy NK with h1|⟨j,z,h1,h2,h3,h4⟩
   .exact .inl h1
   .right;by_cases e:j=n
    .subst e;rw[hn]at h2;cases h2;omega
    .by_cases e2:j=p'
     .subst e2;rw[hp]at h2;cases h2;exact⟨j,_,h1,g2,h3,h4⟩
     .exact⟨j,z,h1,by rw[g3 j e e2];exact h2,h3,h4⟩
  rcases pD i x hx with⟨rfl,rfl⟩|⟨rfl,rfl⟩|⟨_,_,hx⟩
  .exact key _ o hn h4
  .exact key _ q hp h4
  .exact key i x hx h4
 .exact h.su.F7 (gn hn) zB Yl (gn hp) hqn (gn g1) (gn g2) (λj a b=>by rw[RA,RA,g3 j a b]) ⟨rfl,rfl,rfl⟩ iD ⟨rfl,hw,NL,rfl⟩
theorem NM(k:Kr):Qf k (bN (-1)):=⟨⟨⟨⟨[],rfl⟩,⟨[],rfl⟩,by simp[bN]⟩,by simp[bN],by simp[bN],by simp[bN],by simp[bN]⟩,by simp[bN],rfl,rfl,by simp[bN],rfl,rfl,λ_=>rfl,λh=>by simp[bN]at h⟩
structure Xj(l:List Obj)(P:List Obj×(Int×Int)×Int)(a b:Nat):Prop where
 ea:P.2.1.1=a
 eb:P.2.1.2=b
 ab:a≠b
 za:∀d,l[a]? =some d->d.ah=0
 zb:∀d,l[b]? =some d->d.ah=0
 ga:P.1[a]? =some (bN b)
 gb:P.1[b]? =some (bN a)
 go:∀i,i≠a->i≠b->P.1[i]? =l[i]?
 m:∀x,x∈P.1->x∈l\/x=bN b\/x=bN a
 ll:P.1.length<=40
theorem xr{l:List Obj}(hl:l.length<=40)(h:(fq l).2.2=0):(aF l (bN (-1))).2.2=0/\∃a b:Nat,(aF l (bN (-1))).2.1=a/\Xj l (fq l) a b/\(∀d,(aF l (bN (-1))).1[b]? =some d->d.ah=0):=by
 unfold fq at h;by_cases h1:(aF l (bN (-1))).2.2=0
 .refine⟨h1,?_⟩;rw[if_neg (by simp[h1])]at h
  obtain⟨a,e1,a2,a3,a4,a5,a6⟩:=fM h1 hl;by_cases h2:(aF (aF l (bN (-1))).1 (bN (aF l (bN (-1))).2.1)).2.2=0
  .obtain⟨b,b1,b2,b3,b4,b5,b6⟩:=fM h2 a5;have DV:a≠b:=λe=>by subst e;have:=b4 _ a2;simp[bN]at this
   have hP:fq l=(lV (aF (aF l (bN (-1))).1 (bN (aF l (bN (-1))).2.1)).1 a b,((a:Int),(b:Int)),0):=by
    rw[fq,if_neg (by simp[h1]),if_neg (by simp[h2]),e1]
    rw[e1]at b1;rw[b1,aac]
   rw[e1]at b2 b3 hP b5 b6;have ha:(aF (aF l (bN (-1))).1 (bN (a:Int))).1[a]? =some (bN (-1)):=by rw[b3 a DV];exact a2
   have Ul:=(I4.1 ha).1;have Ap:lV (aF (aF l (bN (-1))).1 (bN (a:Int))).1 a b=(aF (aF l (bN (-1))).1 (bN (a:Int))).1.set a (bN b):=by rw[lV,ha];rfl
   rw[Ap]at hP;refine⟨a,b,e1,?_,b4⟩;rw[hP];refine⟨rfl,rfl,DV,a4,λd hd=>b4 d (by rw[a3 b (λe=>DV e.symm)];exact hd),Tr Ul,by rw[WE DV];exact b2,λi h3 h4=>by rw[WE (λe=>h3 e.symm),b3 i h4,a3 i h3],λx hx=>?_,by rw[aaY];exact b5⟩
   rcases aa2 hx with hx|hx
   .rcases b6 x hx with hx|hx
    .rcases a6 x hx with hx|hx
     .exact .inl hx
     .obtain⟨i,hi⟩:=Xt (show x∈(aF (aF l (bN (-1))).1 (bN (a:Int))).1.set a (bN b)from by assumption)
      by_cases ea:i=a
      .subst ea;rw[Tr Ul]at hi;cases hi;exact .inr (.inl rfl)
      .rw[WE (λe=>ea e.symm)]at hi
       by_cases eb:i=b
       .subst eb;rw[b2]at hi;cases hi;exact .inr (.inr rfl)
       .rw[b3 i eb,a3 i ea]at hi;exact .inl (RD hi)
    .exact .inr (.inr hx)
   .exact .inr (.inl hx)
  .rw[if_pos h2]at h;exact absurd h h2
 .rw[if_pos h1]at h;exact absurd h h1
theorem KI.TO{k:Kr}(h:KI k)(he:(fq k.l).2.2=0):KI ⟨(fq k.l).1,k.ops,k.ps⟩/\fS (fq k.l).1 (fq k.l).2.1.1/\fS (fq k.l).1 (fq k.l).2.1.2:=by
 obtain⟨h1,a,b,e1,P,Ye⟩:=xr h.ll he;have h2:=h.make (NM k) h1;obtain⟨a',e1',a2,a3,a4,a5,a6⟩:=fM h1 h.ll;have:a'=a:=om;subst this;have hEK:∀p:Int,TN k (fq k.l).1 (bN p):=λp=>⟨⟨⟨⟨[],rfl⟩,⟨[],rfl⟩,by simp[bN]⟩,by simp[bN],by simp[bN],by simp[bN],by simp[bN]⟩,by simp[bN],by simp[bN],λh=>by simp[bN]at h,⟨rfl,List.Pairwise.nil,λ_=>rfl,λe he=>by cases he⟩,λh=>by simp[bN]at h⟩
 have hm:∀(j:Nat)x,k.l[j]? =some x->x.ah≠0->∃y,(fq k.l).1[j]? =some y/\y.ah≠0:=λj x hx hk=>by
  have ea:j≠a':=λe=>by subst e;exact hk (P.za x hx)
  have eb:j≠b:=λe=>by subst e;exact hk (P.zb x hx)
  exact⟨x,by rw[P.go j ea eb];exact hx,hk⟩
 refine⟨h.Bm P.ll hm (λx hx=>?_) (λi x hx h4=>?_) ?_,⟨a',_,P.ea,P.ga,by simp[bN]⟩,⟨b,_,P.eb,P.gb,by simp[bN]⟩⟩
 .rcases P.m x hx with hx|rfl|rfl
  .exact h.bn hm hx
  .exact hEK _
  .exact hEK _
 .by_cases ea:i=a'
  .subst ea;rw[P.ga]at hx;cases hx;exact .inr ⟨b,_,rfl,P.gb,rfl,rfl⟩
  .by_cases eb:i=b
   .subst eb;rw[P.gb]at hx;cases hx;exact .inr ⟨a',_,rfl,P.ga,rfl,rfl⟩
   .rw[P.go i ea eb]at hx;rcases h.pe i x hx h4 with c|⟨j,y,c1,c2,c3,c4⟩
    .exact .inl c
    .refine .inr ⟨j,y,c1,?_,c3,c4⟩;rw[P.go j (λe=>by subst e;have:=P.za y c2;omega) (λe=>by subst e;have:=P.zb y c2;omega)]
     exact c2
 .refine h2.su.new (k:=b) (s:=u0 (bN a')) ⟨by simp[u0,bN],rfl,rfl,.inl rfl⟩ (gn P.gb) (λj hj=>?_) λd hd=>?_
  .rw[RA,RA];by_cases ea:j=a'
   .subst ea;rw[P.ga,a2];rfl
   .rw[P.go j ea hj,a3 j ea]
  .obtain⟨x,c1,rfl⟩:=oR hd;exact Ye x c1
theorem xt{l:List Obj}{e:Int}{m:br}(h:(eP l e m).2=0):∃(n p:Nat)(o q:Obj),e=n/\l[n]? =some o/\o.ah=4/\o.aG=p/\l[p]? =some q/\q.ah=4/\m.data.length<=60/\q.aj.length<4/\(eP l e m).1=l.set p {q with aj:=q.aj++ [m]}:=by
 have hr:=h;unfold eP at hr;by_cases h1:e<0\/e>=l.length
 .rw[if_pos h1]at hr;cases hr
 rw[if_neg h1]at hr;have hn:e.toNat<l.length:=om;have jS:=uX hn;rw[jS]at hr;simp only[]at hr;by_cases h2:l[e.toNat].ah≠4
 .rw[if_pos h2]at hr;cases hr
 rw[if_neg h2]at hr;by_cases h3:l[e.toNat].aG<0\/l[e.toNat].aG>=l.length
 .rw[if_pos h3]at hr;cases hr
 rw[if_neg h3]at hr;have hp:l[e.toNat].aG.toNat<l.length:=om;have hpo:=uX hp;rw[hpo]at hr;simp only[]at hr;by_cases h4:l[l[e.toNat].aG.toNat].ah≠4
 .rw[if_pos h4]at hr;cases hr
 rw[if_neg h4]at hr;by_cases h5:m.data.length>60
 .rw[if_pos h5]at hr;cases hr
 rw[if_neg h5]at hr;by_cases h6:l[l[e.toNat].aG.toNat].aj.length>=4
 .rw[if_pos h6]at hr;cases hr
 refine⟨e.toNat,l[e.toNat].aG.toNat,_,_,om,jS,by simpa using h2,om,hpo,by simpa using h4,om,om,?_⟩
 rw[eP,if_neg h1,jS];simp only[];rw[if_neg h2,if_neg h3,hpo];simp only[];rw[if_neg h4,if_neg h5,if_neg h6]
theorem KI.send{k:Kr}(h:KI k){e:Int}{m:br}(ht:m.Rk)(hc:m.has=true->fG k m.dP m.b9)(he:(eP k.l e m).2=0):KI ⟨(eP k.l e m).1,k.ops,k.ps⟩:=by
 obtain⟨n,p,o,q,_,_,_,_,hp,hq4,Un,G5,hR⟩:=xt he;have Qg:=RD hp;have hs:=h.sm q Qg;rw[hR];refine h.Js hp ⟨rfl,rfl,rfl,rfl,rfl,rfl⟩ om ⟨⟨hs.t.1,hs.t.2.1,λx hx=>?_⟩,hs.d,hs.e,?_,λx hx=>?_⟩ (h.Qa q Qg) λx hx hh=>?_
 .rcases abD.1 hx with hx|hx
  .exact hs.t.2.2 x hx
  .simp at hx;subst hx;exact ht
 .simp only[aba,aah,abv];omega
 .rcases abD.1 hx with hx|hx
  .exact hs.qd x hx
  .simp at hx;subst hx;omega
 .rcases abD.1 hx with hx|hx
  .exact h.qu q Qg x hx hh
  .simp at hx;subst hx;exact hc hh
theorem qI{l:List Obj}{e:Int}(h:(fA l e).2.2=0):∃(n:Nat)(o:Obj)(x:br)(r:List br),e=n/\l[n]? =some o/\o.ah=4/\o.aj=x::r/\(fA l e).1=l.set n {o with aj:=r}/\(fA l e).2.1=x:=by
 have hr:=h;unfold fA at hr;by_cases h1:e<0\/e>=l.length
 .rw[if_pos h1]at hr;cases hr
 rw[if_neg h1]at hr;have hn:e.toNat<l.length:=om;have jS:=uX hn;rw[jS]at hr;simp only[]at hr;by_cases h2:l[e.toNat].ah≠4
 .rw[if_pos h2]at hr;cases hr
 rw[if_neg h2]at hr;have hR:fA l e=(match l[e.toNat].aj with
  | []=>if l[e.toNat].aG<0\/l[e.toNat].aG>=l.length then([],mR,17)else match l[l[e.toNat].aG.toNat]? with
   |none=>([],mR,17)
   |some q=>if q.ah≠4 then([],mR,17)else([],mR,16)
  |x::r=>(l.set e.toNat {l[e.toNat]with aj:=r},x,0)):=by
  rw[fA,if_neg h1,jS];simp only[];rw[if_neg h2];rfl
 cases hq:l[e.toNat].aj with
 |nil=>
  rw[hq]at hr;simp only[]at hr;split at hr
  .cases hr
  .split at hr
   .cases hr
   .split at hr<;>cases hr
 |cons x r=>
  rw[hq]at hR;refine⟨e.toNat,_,x,r,om,jS,by simpa using h2,hq,?_,?_⟩<;>rw[hR]
theorem KI.recv{k:Kr}(h:KI k){e:Int}(he:(fA k.l e).2.2=0):KI ⟨(fA k.l e).1,k.ops,k.ps⟩/\((fA k.l e).2.1.has=true->fG k (fA k.l e).2.1.dP (fA k.l e).2.1.b9):=by
 obtain⟨n,o,x,r,_,hn,ho4,hq,hR,hx⟩:=qI he;have JJ:=RD hn;have hs:=h.sm o JJ;rw[hR,hx];have iq:∀y,y∈r->y∈o.aj:=λy hy=>by rw[hq];exact abX _ hy
 refine⟨h.Js hn ⟨rfl,rfl,rfl,rfl,rfl,rfl⟩ om ⟨⟨hs.t.1,hs.t.2.1,λy hy=>hs.t.2.2 y (iq y hy)⟩,hs.d,hs.e,?_,λy hy=>hs.qd y (iq y hy)⟩ (h.Qa o JJ) λy hy hh=>h.qu o JJ y (iq y hy) hh,λhh=>h.qu o JJ x (by rw[hq];simp) hh⟩
 have:=hs.q;rw[hq]at this;simp only[aah]at this|-;omega
end Kn
namespace Kn
structure Xk(k:Kr)(x:bl):Prop where
 sl:x.aV.length<=10
 aS:x.aQ=false->x.aV=[]
 cap:∀s,s∈x.aV->s.has=true->fG k s.dP s.b9
theorem KI.RS{k:Kr}(h:KI k){x:bl}(hx:x∈k.ps):Xk k x:=⟨h.sl x hx,h.aS x hx,h.cap x hx⟩
theorem KI.HF{k:Kr}(h:KI k){nY:List bl}(hl:nY.length<=8)(d7:k.ps.length<=nY.length)(hx:∀x,x∈nY->Xk k x):KI ⟨k.l,k.ops,nY⟩:=
 ⟨h.ll,h.lo,hl,h.sm,λx h=>(hx x h).sl,λe=>h.ne (aag (by have:nY=[]:=e;rw[this]at d7;simpa using d7)),λx h=>(hx x h).aS,λx h=>(hx x h).cap,
  h.qu,λo ho h5=>let⟨n,a,b⟩:=h.pr o ho h5;⟨n,a,aa0 b d7⟩,h.en,h.z,h.pe,h.da,h.Qa,h.su⟩
theorem KI.Xl{k:Kr}(h:KI k){NN:List bD}(hl:NN.length<=60)(hm:∀(n:Nat)o,k.ops[n]? =some o->fS k.l o.bn->∃o',NN[n]? =some o'/\fS k.l o'.bn)(ha:∀o,o∈NN->0<=o.da/\o.da<=64):KI ⟨k.l,NN,k.ps⟩:=by
 have eh:∀z r,fG k z r->fG ⟨k.l,NN,k.ps⟩ z r:=λz r hc=>hc.mono hm
 exact⟨h.ll,hl,h.lp,h.sm,h.sl,h.ne,h.aS,λx hx s hs hh=>eh _ _ (h.cap x hx s hs hh),λo ho q hq hh=>eh _ _ (h.qu o ho q hq hh),h.pr,h.en,h.z,h.pe,ha,h.Qa,h.su⟩
theorem KI.Se{k:Kr}(h:KI k)(z:Int){a:Int}(ha:0<=a/\a<=64):KI (sf k z a):=by
 unfold sf;cases ho:k.ops[z.toNat]? with
 |none=>exact h
 |some o=>
  have hz:=(I4.1 ho).1;refine h.Xl (by rw[aaY];exact h.lo) (λn x hx hi=>?_) λx hx=>?_
  .by_cases e:n=z.toNat
   .subst e;rw[ho]at hx;cases hx;exact⟨_,Tr hz,hi⟩
   .exact⟨x,by rw[WE (λx=>e x.symm)];exact hx,hi⟩
  .rcases aa2 hx with hx|rfl
   .exact h.da x hx
   .exact ha
theorem KI.dk{k:Kr}(h:KI k){p:Nat}{x:bl}(hp:k.ps[p]? =some x)(b7:x.aQ=true){l:List fk}(hl:l.length<=10)(hc:∀s,s∈l->s.has=true->fG k s.dP s.b9):KI ⟨k.l,k.ops,dk k.ps p l⟩:=by
 have e:Go.Proofs.YtodckkkbiidffaaGreatDoor.dk k.ps p l=k.ps.set p {x with aV:=l}:=by unfold Go.Proofs.YtodckkkbiidffaaGreatDoor.dk;rw[hp]
 rw[e];refine h.HF (by rw[aaY];exact h.lp) (by rw[aaY];exact Ts _) λy hy=>?_
 rcases aa2 hy with hy|rfl
 .exact h.RS hy
 .exact⟨hl,λhd=>(by rw[b7]at hd;cases hd),hc⟩
theorem nB{l:List fk}{o r:Int}(h:(fQ l o r).2.2=0):Tb.eV r=true/\0<=o/\∀s,s∈(fQ l o r).1->s∈l\/s=⟨true,o,r⟩:=by
 have OA:∀s:fk,OH (mf s)=s:=λs=>rfl
 unfold fQ at h|-;simp only[]at h|-;unfold Tb.iJ at h|-;split at h
 .cases h
 .rename_i h1;have hr:Tb.eV r=true:=by
   cases hx:Tb.eV r with
   |true=>rfl
   |false=>exact absurd (.inl hx) h1
  have ho:0<=o:=Int.not_lt.1 λhx=>h1 (.inr hx)
  refine⟨hr,ho,λs hs=>?_⟩
  rw[if_neg h1]at hs;split at hs
  .obtain⟨t,ht,rfl⟩:=aak.1 hs;rcases aa2 ht with ht|rfl
   .obtain⟨u,hu,rfl⟩:=aak.1 ht;exact .inl hu
   .exact .inr rfl
  .split at hs
   .cases hs
   .obtain⟨t,ht,rfl⟩:=aak.1 hs;rcases abD.1 ht with ht|ht
    .obtain⟨u,hu,rfl⟩:=aak.1 ht;exact .inl hu
    .simp at ht;subst ht;exact .inr rfl
theorem tV{n:Int}:Tb.eV n=true↔0<=n/\n<=4095:=by unfold Tb.eV;rw[aab,decide_eq_true_eq,decide_eq_true_eq]
theorem KI.xu{k:Kr}(h:KI k){p:Nat}{x:bl}(hp:k.ps[p]? =some x)(b7:x.aQ=true){bn b9:Int}(ho:fS k.l bn)(he:(aI k p bn b9).2.2=0):KI (aI k p bn b9).1:=by
 have zi:ay k.ps p=x.aV:=by rw[ay,hp]
 unfold aI at he|-;split at he
 .cases he
 rename_i h1;rw[if_neg h1];split at he
 .rename_i h2;exact absurd he h2
 rename_i h2;rw[if_neg h2];have h2:(fQ (ay k.ps p) (cW k.ops) b9).2.2=0:=Z5 h2;rw[zi]at h2|-;obtain⟨c1,c2,c3⟩:=nB h2;have hi:cW k.ops<k.ops.length\/cW k.ops=k.ops.length/\k.ops.length<60:=by
  unfold cW;cases hf:DW k.ops with
  |none=>exact .inr ⟨rfl,Nat.not_le.1 λa=>h1 ⟨hf,a⟩⟩
  |some i=>exact .inl (AR hf)
 have LI:∀o,k.ops[cW k.ops]? =some o->o.bn<0:=λo hx=>by
  unfold cW at hx;cases hf:DW k.ops with
  |none=>
   rw[hf]at hx;rw[show(none:Option Nat).getD k.ops.length=k.ops.length from rfl,aaZ (Ts _)]at hx;cases hx
  |some i=>
   rw[hf]at hx;have:=abc.1 hf;obtain⟨a1,a2,_⟩:=this;rw[show(some i).getD k.ops.length=i from rfl,uX a1]at hx;cases hx;simpa using a2
 have jg:∀n:Nat,(i7 k.ops (cW k.ops) ⟨bn,0⟩)[n]? =if n=cW k.ops then some ⟨bn,0⟩else k.ops[n]? :=λn=>by
  unfold i7;split
  .rename_i e;rw[e];by_cases hn:n=k.ops.length
   .subst hn;rw[if_pos rfl,WH (Ts _)];simp
   .rw[if_neg hn];rcases aad n k.ops.length with a|a
    .exact Yf a
    .rw[WH a,aaZ a];cases e2:n-k.ops.length with
     |zero=>omega
     |succ m=>rfl
  .rename_i e;have aD:cW k.ops<k.ops.length:=om;by_cases hn:n=cW k.ops
   .subst hn;rw[if_pos rfl,Tr aD]
   .rw[if_neg hn,WE (λa=>hn a.symm)]
 have jZ:KI ⟨k.l,i7 k.ops (cW k.ops) ⟨bn,0⟩,k.ps⟩:=by
  refine h.Xl ?_ (λn o hx hio=>?_) λo hx=>?_
  .unfold i7;split
   .rw[aba];simp;omega
   .rw[aaY];exact h.lo
  .rw[jg];by_cases e:n=cW k.ops
   .subst e;have:=LI o hx;obtain⟨j,_,e2,_⟩:=hio;omega
   .rw[if_neg e];exact⟨o,hx,hio⟩
  .unfold i7 at hx;split at hx
   .rcases abD.1 hx with hx|hx
    .exact h.da o hx
    .simp at hx;subst hx;exact⟨acu _,by show(0:Int)<=64;omega⟩
   .rcases aa2 hx with hx|rfl
    .exact h.da o hx
    .exact⟨acu _,by show(0:Int)<=64;omega⟩
 refine jZ.dk hp b7 (sq (h.sl x (RD hp))) λs hs hh=>?_
 rcases c3 s hs with hs|rfl
 .exact jZ.cap x (RD hp) s hs hh
 .exact⟨tV.1 c1,cW k.ops,⟨bn,0⟩,rfl,by rw[jg,if_pos rfl],ho⟩
theorem KI.exit{k:Kr}(h:KI k){p code:Int}(he:(ij k p code).2=0):KI (ij k p code).1:=by
 unfold ij at he|-;split at he
 .cases he
 rename_i h1;rw[if_neg h1];split at he
 .cases he
 rename_i h2;rw[if_neg h2];refine h.HF (by rw[aaY];exact h.lp) (by rw[aaY];exact Ts _) λy hy=>?_
 rcases aa2 hy with hy|rfl
 .exact h.RS hy
 .exact⟨aC,λ_=>rfl,λs hs=>by cases hs⟩
theorem KI.fen{k:Kr}(h:KI k)(p:Nat):KI ⟨k.l,k.ops,oQ k.ps p⟩:=by
 unfold oQ;cases hp:k.ps[p]? with
 |none=>exact h
 |some x=>
  refine h.HF (by rw[aaY];exact h.lp) (by rw[aaY];exact Ts _) λy hy=>?_
  have:=h.RS (RD hp);rcases aa2 hy with hy|rfl
  .exact h.RS hy
  .exact⟨this.sl,this.aS,this.cap⟩
theorem Ga{l:List Obj}{ps:List bl}(h:¬gM l ps<0):∃c:Nat,gM l ps=c/\c<=ps.length/\c<8/\(c<ps.length->rV l ps c=true):=by obtain⟨c,hc⟩:∃c:Nat,gM l ps=c:=⟨(gM l ps).toNat,om⟩;obtain⟨h1,_,h3,h4⟩:=oI l ps 8 0 c hc (aaj _);exact⟨c,hc,h1,om,h4⟩
theorem NO{k:Kr}{c:Nat}(hc:c<k.ps.length):Qf k (dd c):=⟨CU _,by simp[dd],rfl,rfl,by simp[dd],rfl,rfl,λh=>by simp[dd]at h,λ_=>⟨c,rfl,hc⟩⟩
theorem zG{ps:List bl}{n c:Nat}{x:bl}(hn:ps[n]? =some x)(hc:c<=ps.length):(gT ps n c).length=(if c=ps.length then ps.length+1 else ps.length)/\(gT ps n c)[c]? =some ⟨true,x.fenced,0,x.aV⟩/\(∀i,i≠c->(gT ps n c)[i]? =ps[i]?)/\(∀y,y∈gT ps n c->y∈ps\/y=⟨true,x.fenced,0,x.aV⟩):=by
 unfold gT;rw[hn];simp only[];split
 .rename_i e;subst e;refine⟨aC,by rw[WH (Ts _)];simp,λi hi=>?_,λy hy=>by simpa using hy⟩
  rcases aad i ps.length with a|a
  .exact Yf a
  .rw[WH a,aaZ a];cases e2:i-ps.length with
   |zero=>omega
   |succ m=>rfl
 .exact⟨aC,Tr om,λi hi=>WE (λe=>hi e.symm),λy hy=>aa2 hy⟩
structure Xm(k:Kr)(p:Nat)(x:bl)(c:Nat):Prop where
 le:c<=k.ps.length
 c8:c<8
 aS:c<k.ps.length->rV k.l k.ps c=true
 ne:p≠c
 em:(aF k.l (dd c)).2.2=0
 eo:(aI ⟨(aF k.l (dd c)).1,k.ops,gT k.ps p c⟩ p (aF k.l (dd c)).2.1 3200).2.2=0
 R:gD k p=((aI ⟨(aF k.l (dd c)).1,k.ops,gT k.ps p c⟩ p (aF k.l (dd c)).2.1 3200).1,(c:Int),(aI ⟨(aF k.l (dd c)).1,k.ops,gT k.ps p c⟩ p (aF k.l (dd c)).2.1 3200).2.1,0)
theorem xw{k:Kr}{p:Nat}{x:bl}(hp:k.ps[p]? =some x)(b7:x.aQ=true)(he:(gD k p).2.2.2=0):∃c:Nat,Xm k p x c:=by
 have hl:ft k.ps p=true:=by have jD:=(I4.1 hp).1;refine PC jD ?_;have:=uX jD;rw[hp]at this;cases this;exact b7
 unfold gD at he;rw[if_neg (by rw[hl];simp)]at he
 split at he
 .cases he
 rename_i hf;obtain⟨c,hc,c1,c2,c3⟩:=Ga hf;rw[hc,aac,aac]at he;have hR:gD k p=wH k.l k.ops (gT k.ps p c) p c:=by
  rw[gD,if_neg (by rw[hl];simp),if_neg hf,hc,aac,aac]
 unfold wH at he;split at he
 .rename_i h1;exact absurd he h1
 rename_i h1;split at he
 .rename_i h2;exact absurd he h2
 rename_i h2;refine⟨c,c1,c2,c3,λe=>?_,Z5 h1,Z5 h2,?_⟩
 .subst e;have:=c3 (I4.1 hp).1;rw[rV,hp]at this;simp only[b7]at this;cases this
 .rw[hR,wH,if_neg h1,if_neg h2]
theorem KI.aa3{k:Kr}(h:KI k){p:Nat}{x:bl}(hp:k.ps[p]? =some x)(b7:x.aQ=true)(he:(gD k p).2.2.2=0):KI (gD k p).1:=by
 obtain⟨c,C⟩:=xw hp b7 he;obtain⟨g1,g2,g3,g4⟩:=zG hp C.le;have hx:=h.RS (RD hp);have h1:KI ⟨k.l,k.ops,gT k.ps p c⟩:=by
  refine h.HF ?_ ?_ λy hy=>?_
  .rw[g1];have:=C.c8;have:=h.lp;split<;>omega
  .rw[g1];split<;>omega
  .rcases g4 y hy with hy|rfl
   .exact h.RS hy
   .exact⟨hx.sl,λhd=>(by cases hd),hx.cap⟩
 have ib:c<(gT k.ps p c).length:=(I4.1 g2).1;have h2:=h1.make (NO ib) C.em;obtain⟨j,j1,j2,_⟩:=fM C.em h.ll;rw[C.R];refine h2.xu (p:=p) (x:=x) (by show(gT k.ps p c)[p]? =some x;rw[g3 p C.ne];exact hp) b7 ⟨j,_,j1,j2,by simp[dd]⟩ C.eo
end Kn
end Go.Proofs.YtodckkkbiidffaaGreatDoor
namespace Go.Proofs.YtodckkkbiidffaaGreatDoor
open Proofs.Tryz
open Go.AM Go.ChangeShapes Go.WideShapes Go.ChangeAt Go.RowKit
namespace Kn
theorem Gb{b:Bool}{l:List Obj}{cL bn:Int}{name:ByteArray}(va:∀(p:Nat)q,bn=p->l[p]? =some q->q.am=0)(h:(cN b l cL name bn).2=0){z:Int}(hz:fS l z):fS (cN b l cL name bn).1 z:=by
 obtain⟨n,p,o,q,rfl,rfl,hn,hp,JF,gO,Am,_,_,_,hR⟩:=oS h;have Bl:n≠p:=λe=>by subst e;rw[hn]at hp;cases hp;exact Am (va n _ rfl hn)
 obtain⟨g1,g2,g3,g4⟩:=tU hn hp Bl name;rw[hR];refine hz.mono λj x hx hk=>?_
 by_cases e:j=n
 .subst e;rw[hn]at hx;cases hx;exact⟨_,g1,hk⟩
 .by_cases e2:j=p
  .subst e2;rw[hp]at hx;cases hx;exact⟨_,g2,hk⟩
  .exact⟨x,by rw[g3 j e e2];exact hx,hk⟩
theorem JK{t:bK.dI}(h:bK.fL t=true):(bK.cF t).size<=12:=by unfold bK.fL at h;simp only[aab,decide_eq_true_eq]at h;rw[bK.mV];exact h.1.1.1.2
structure Gc(o:Obj):Prop where
 n:PZ o
 k:o.ah=1\/o.ah=2\/o.ah=3
 q:o.aj=[]
 d:o.data.length<=60
 l:o.am=0
 u:o.up=0
theorem Gc.Qh{o:Obj}(h:Gc o)(k:Kr):Qf k (gz o):=
 ⟨h.n.gz.sm,λe=>(by have:o.ah=0:=e;have:=h.k;omega),h.n.en,h.q,h.d,h.l,h.u,λe=>(by have:o.ah=4:=e;have:=h.k;omega),λe=>(by have:o.ah=5:=e;have:=h.k;omega)⟩
theorem HG:Gc oN:=⟨zp,.inl rfl,rfl,by simp[oN],rfl,rfl⟩
theorem NP:Gc FU:=⟨Bh _ _,.inr (.inl rfl),rfl,by simp[FU],rfl,rfl⟩
theorem HH(d:List Int):Gc (xi d):=⟨Bh _ _,.inr (.inr rfl),rfl,by simp[xi],rfl,rfl⟩
structure aa4(k:Kr)(f:R4)(o:Obj)(j:Nat):Prop where
 em:(aF k.l (gz o)).2.2=0
 ej:(aF k.l (gz o)).2.1=j
 ee:(Bd (aF k.l (gz o)).1 f j).2=0
 R:cu k f o=(⟨(Bd (aF k.l (gz o)).1 f j).1,k.ops,k.ps⟩,(j:Int),0)
theorem sA{k:Kr}(hl:k.l.length<=40){f:R4}{o:Obj}(he:(cu k f o).2.2=0):∃j:Nat,aa4 k f o j:=by
 unfold cu at he;by_cases h1:(aF k.l (gz o)).2.2=0
 .rw[if_neg (by simp[h1])]at he
  obtain⟨j,e1,_⟩:=fM h1 hl;have he:(Bd (aF k.l (gz o)).1 f (aF k.l (gz o)).2.1).2=0:=he;rw[e1]at he;refine⟨j,h1,e1,he,?_⟩;rw[cu,if_neg (by simp[h1]),e1,he,bP,if_pos rfl]
 .rw[if_pos h1]at he;exact absurd he h1
theorem KI.Gd{k:Kr}(h:KI k){f:R4}{o:Obj}(ho:Gc o)(he:(cu k f o).2.2=0):KI (cu k f o).1/\fS (cu k f o).1.l (cu k f o).2.1/\(cu k f o).1.ps=k.ps:=by
 obtain⟨j,C⟩:=sA h.ll he;have h1:=h.make (ho.Qh k) C.em;obtain⟨j',e1,a2,_⟩:=fM C.em h.ll;have:j'=j:=by have:=C.ej;omega
 subst this;have va:∀(p:Nat)q,((j':Nat):Int)=p->(aF k.l (gz o)).1[p]? =some q->q.am=0:=λp q e hq=>by have:p=j':=om;subst this;rw[a2]at hq;cases hq;exact ho.l
 rw[C.R];exact⟨h1.enter (λhb=>JK hb) va C.ee,Gb va C.ee ⟨j',_,rfl,a2,(ho.Qh k).kd⟩,rfl⟩
theorem KI.cg{k:Kr}(h:KI k){c:Cl}{f:R4}(hf:f.fC=0->f.bn= -1\/fS k.l f.bn)(he:(cg k c f).2.2=0):KI (cg k c f).1/\fS (cg k c f).1.l (cg k c f).2.1/\(cg k c f).1.ps=k.ps:=by
 unfold Kn.cg at he|-;split at he
 .rename_i h1;exact absurd he h1
 rename_i h1;rw[if_neg h1];have hf:=hf (Z5 h1);split at he
 .rename_i h2;rw[if_pos h2];split at he
  .cases he
  .rename_i h3;rw[if_neg h3];exact h.Gd HG he
 .rename_i h2;rw[if_neg h2];split at he
  .cases he
  .rename_i h3;rw[if_neg h3];refine⟨h,hf.elim (λe=>absurd (by show f.bn<0;omega) h2) id,rfl⟩
theorem tW{k:Kr}{p:Nat}{bn b9:Int}(he:(aI k p bn b9).2.2=0):(aI k p bn b9).1.ps=dk k.ps p (fQ (ay k.ps p) (cW k.ops) b9).1/\(aI k p bn b9).1.l=k.l/\(fQ (ay k.ps p) (cW k.ops) b9).2.2=0/\(aI k p bn b9).1.ops=i7 k.ops (cW k.ops) ⟨bn,0⟩/\(aI k p bn b9).2.1=(fQ (ay k.ps p) (cW k.ops) b9).2.1:=by
 unfold aI at he|-;split at he
 .cases he
 rename_i h1;rw[if_neg h1];split at he
 .rename_i h2;exact absurd he h2
 rename_i h2;rw[if_neg h2];exact⟨rfl,rfl,Z5 h2,rfl,rfl⟩
theorem JL(ps:List bl)(p:Nat)(l:List fk):(dk ps p l).length=ps.length:=by
 unfold dk;split
 .rw[aaY]
 .rfl
theorem gp{ps:List bl}{p:Nat}{x:bl}(hp:ps[p]? =some x)(l:List fk):(dk ps p l)[p]? =some {x with aV:=l}:=by unfold dk;rw[hp];exact Tr (I4.1 hp).1
theorem KI.Xn{k:Kr}(h:KI k){z:Int}(hz:fS k.l z):KI ⟨k9 k.l z,k.ops,k.ps⟩:=by obtain⟨j,o,rfl,hj,hk⟩:=hz;have hs:=h.sm o (RD hj);rw[k9,aac,hj];exact h.Js hj ⟨rfl,rfl,rfl,rfl,rfl,rfl⟩ hk ⟨⟨⟨[],rfl⟩,hs.t.2.1,hs.t.2.2⟩,aC,hs.e,hs.q,hs.qd⟩ aC (h.qu o (RD hj))
theorem KI.RT{k:Kr}(h:KI k){p:Nat}{x:bl}(hp:k.ps[p]? =some x)(b7:x.aQ=true){c:Cl}{ar:Int}{ax:Bool}(he:(f4 k p c ar ax).2.fC=0):KI (f4 k p c ar ax).1:=by
 unfold f4 jq at he|-;split at he
 .rename_i h1;exact absurd he h1
 rename_i h1;rw[if_neg h1];obtain⟨g1,g2,g3⟩:=h.cg (h.Qe ar c.cJ ax true) (Z5 h1);split at he
 .rename_i h2;exact absurd he h2
 rename_i h2;rw[if_neg h2];have h2:=Z5 h2;have h3:=g1.xu (by rw[g3];exact hp) b7 g2 h2
 split
 .exact h3.Xn (by rw[(tW h2).2.1];exact g2)
 .exact h3
theorem KI.Xo{k:Kr}(h:KI k){p:Nat}{x:bl}(hp:k.ps[p]? =some x)(b7:x.aQ=true){c:Cl}(he:(gm k p c).2.fC=0):KI (gm k p c).1:=by
 unfold gm at he|-;split at he
 .cases he
 rename_i h1;rw[if_neg h1];split at he
 .rename_i h2;rw[if_pos h2];exact h.RT hp b7 he
 rename_i h2;rw[if_neg h2];split at he
 .rename_i h3;exact absurd he h3
 .rename_i h3;rw[if_neg h3];exact h.RT hp b7 he
theorem Ge{k:Kr}{p:Nat}{fd need:Int}(h:(bo k p fd need).2.2=0):∃s,s∈ay k.ps p/\s.has=true/\(bo k p fd need).1=(s.dP,s.b9)/\(bo k p fd need).2.1=fE k.ops s.dP:=by
 unfold bo at h|-;split at h
 .rename_i h1;exact absurd h h1
 .rename_i h1;rw[if_neg h1];obtain⟨s,hs,hh,e⟩:=xb (Z5 h1);exact⟨s,hs,hh,e,by show fE k.ops _=_;rw[e]⟩
theorem KI.bo{k:Kr}(h:KI k){p:Nat}{fd need:Int}(he:(Kn.bo k p fd need).2.2=0):∃(n:Nat)(o:bD)(j:Nat)(x:Obj),(Kn.bo k p fd need).1.1=n/\k.ops[n]? =some o/\(Kn.bo k p fd need).2.1=j/\o.bn=j/\k.l[j]? =some x/\x.ah≠0/\0<=(Kn.bo k p fd need).1.2/\(Kn.bo k p fd need).1.2<=4095:=by
 obtain⟨s,hs,hh,e,e2⟩:=Ge he;obtain⟨hr,n,o,h1,h2,j,x,h3,h4,h5⟩:=h.eh hs hh;refine⟨n,o,j,x,by rw[e];exact h1,h2,?_,h3,h4,h5,by rw[e];exact hr.1,by rw[e];exact hr.2⟩
 rw[e2,h1,fE,aac,h2];exact h3
theorem HI{a b:Int}(h0:0<=a)(ha:a<=1000)(HZ:0<=b)(hb:b<=5000000):Bf a b=a+b:=by unfold Bf;exact ic om om
theorem KI.oM{k:Kr}(h:KI k)(z:Int):0<=oM k.ops z/\oM k.ops z<=64:=by
 unfold Kn.oM;cases ho:k.ops[z.toNat]? with
 |none=>exact⟨acu _,by show(0:Int)<=64;omega⟩
 |some o=>exact h.da o (RD ho)
theorem NQ{ah:Int}{d:List (List Dt)}{da n:Int}(h:(jI ah d da n).2=0):ah=1/\0<=da/\0<=n/\(jI ah d da n).1=I7 d da.toNat n.toNat:=by
 unfold jI at h|-;split at h
 .cases h
 rename_i h1;split at h
 .cases h
 rename_i h2;split at h
 .cases h
 rename_i h3;rw[if_neg h1,if_neg h2,if_neg h3];exact⟨om,om,om,rfl⟩
theorem Qi(d:List (List Dt))(a n:Nat):(I7 d a n).length=fg n (d.length-fg a d.length):=by have h1:=ny a d.length;have h2:=ny n (d.length-fg a d.length);unfold I7;rw[abz,aan];omega
theorem Qj{o:Obj}{da:Int}{b:List Int}(ho:o.sm)(hd:o.data.length<=60)(h:(eW o da (i4 b)).2=0):(eW o da (i4 b)).1.data.length<=60:=by
 obtain⟨_,_,h1,h2,h3,h4⟩:=sh ho h;rw[h4];obtain⟨d,xQ⟩:=ho.t.1;show(pR o.data da.toNat (i4 b)).length<=60;rw[xQ,FN,show ∀x:List Int,(i4 x).length=x.length from λx=>by simp[i4]]
 have lT:d.length<=60:=by rw[xQ]at hd;simpa[i4]using hd
 have:=Hx d b da.toNat om om;omega
theorem KI.bytes{k:Kr}(h:KI k){p:Nat}{c:Cl}(he:(hU k p c).2.fC=0):KI (hU k p c).1:=by
 unfold hU mi at he|-;split at he
 .rename_i h1;exact absurd he h1
 rename_i h1;rw[if_neg h1];obtain⟨n,op,j,x,e1,e2,e3,e4,e5,e6,_⟩:=h.bo (Z5 h1);have TQ:=RD e5;have OD:ld k.l (Kn.bo k p c.fd (nN c.ah)).2.1=x:=by rw[e3,ld,aac,e5];rfl
 rw[OD]at he|-;have EI:=h.oM (Kn.bo k p c.fd (nN c.ah)).1.1;split at he
 .rename_i h4;rw[if_pos h4];unfold tN at he|-;split at he
  .rename_i h5;exact absurd he h5
  rename_i h5;rw[if_neg h5];obtain⟨_,h6,_,h7⟩:=NQ (Z5 h5);refine h.Se _ ?_;rw[h7,Qi];have hd:=h.Qa x TQ;have m1:=ny (Kn.oM k.ops (Kn.bo k p c.fd (nN c.ah)).1.1).toNat x.data.length;have m2:=ny c.n.toNat (x.data.length-fg (Kn.oM k.ops (Kn.bo k p c.fd (nN c.ah)).1.1).toNat x.data.length);have m3:fg (Kn.oM k.ops (Kn.bo k p c.fd (nN c.ah)).1.1).toNat x.data.length=(Kn.oM k.ops (Kn.bo k p c.fd (nN c.ah)).1.1).toNat\/fg (Kn.oM k.ops (Kn.bo k p c.fd (nN c.ah)).1.1).toNat x.data.length=x.data.length:=by unfold fg;split<;>simp
  rw[HI om om om om];omega
 rename_i h4;rw[if_neg h4];split at he
 .rename_i h5;rw[if_pos h5];unfold oO at he|-;split at he
  .rename_i h6;exact absurd he h6
  rename_i h6;rw[if_neg h6];have h6:=Z5 h6;obtain⟨w1,w2,w3,w4,w5,w6⟩:=sh (h.sm x TQ) h6;have w7:=Qj (h.sm x TQ) (h.Qa x TQ) h6;have h2:KI (setObj k (Kn.bo k p c.fd (nN c.ah)).2.1 (eW x (Kn.oM k.ops (Kn.bo k p c.fd (nN c.ah)).1.1) (i4 c.data)).1):=by
   rw[e3,setObj,aac];exact h.Js e5 (by rw[w6];exact⟨rfl,rfl,rfl,rfl,rfl,rfl⟩) e6 w1 w7 (by rw[w6];exact h.qu x TQ)
  refine h2.Se _ ?_;rw[HI om om om om];omega
 .rename_i h5;rw[if_neg h5];unfold qD at he|-;split at he
  .cases he
  rename_i h6;rw[if_neg h6];exact h.Se _ ⟨om,om⟩
theorem mZ{l:List fk}{fd:Int}(h:(fv l fd).2=0):∃(i:Nat)(s:fk),fd=i/\l[i]? =some s/\s.has=true/\(fv l fd).1=(s.dP,s.b9)/\Tb.ec (l.map mf) fd=(⟨s.dP,s.b9⟩,0):=by
 unfold fv Tb.ec at h|-;by_cases h0:0<=fd
 .rw[if_pos h0,RA]at h|-;cases hy:l[fd.toNat]? with
  |none=>rw[hy]at h;cases h
  |some t=>
   rw[hy]at h;simp only[aaz]at h|-;cases hh:t.has with
   |false=>
    have:(mf t).has=false:=hh;rw[this]at h;cases h
   |true=>
    have h2:(mf t).has=true:=hh;refine⟨fd.toNat,t,om,hy,hh,?_,?_⟩
    .rw[h2];rfl
    .rw[h2];rfl
 .rw[if_neg h0]at h;cases h
theorem Dv{l:List fk}{c:Cl}(hl:l.length<=10)(h:(lZ l c).2.2=0):(lZ l c).1.length<=10/\∀s,s∈(lZ l c).1->s.has=true->s∈l\/∃t,t∈l/\t.has=true/\s.dP=t.dP/\0<=s.b9/\s.b9<=4095:=by
 have OA:∀s:fk,OH (mf s)=s:=λs=>rfl
 unfold lZ at h|-;split at h
 .rename_i h7;rw[if_pos h7];unfold w9 Tb.nv at h|-;split at h
  .rename_i h1;simp only[if_pos h1];refine⟨by simp only[ML,aan,aaY];omega,λs hs hh=>?_⟩
   obtain⟨t,ht,rfl⟩:=aak.1 hs;rcases aa2 (abq ht)with ht|rfl
   .obtain⟨u,hu,rfl⟩:=aak.1 ht;exact .inl hu
   .cases hh
  .rename_i h1;exact absurd h h1
 rename_i h7;rw[if_neg h7];split at h
 .rename_i h8;rw[if_pos h8];unfold C9 Tb.tz at h|-;split at h
  .rename_i h1;obtain⟨i,t,_,h3,h4,h5,h6⟩:=mZ (l:=l) (fd:=c.fd) h1;have e:(Tb.ec (l.map mf) c.fd).1=⟨t.dP,t.b9⟩:=by rw[h6]
   rw[e]at h;simp only[if_pos h1,e];obtain⟨a1,_,a3⟩:=nB (l:=l) (o:=t.dP) (r:=t.b9) h;refine⟨sq (l:=l) (o:=t.dP) (r:=t.b9) hl,λs hs hh=>?_⟩
   rcases a3 s hs with hs|rfl
   .exact .inl hs
   .exact .inr ⟨t,RD h3,h4,rfl,tV.1 a1⟩
  .rename_i h1;exact absurd h h1
 .rename_i h8;rw[if_neg h8];unfold Da Tb.yk at h|-;split at h
  .rename_i h1;obtain⟨i,t,_,h3,h4,h5,h6⟩:=mZ (l:=l) (fd:=c.fd) h1;split at h
   .cases h
   rename_i h2;split at h
   .cases h
   rename_i h9;simp only[if_pos h1,if_neg h2,if_neg h9];have hr:Tb.eV c.ba=true:=by cases hx:Tb.eV c.ba with|true=>rfl|false=>exact absurd hx h2
   refine⟨by simp only[ML,aaY];omega,λs hs hh=>?_⟩
   obtain⟨u,hu,rfl⟩:=aak.1 hs;rcases aa2 hu with hu|rfl
   .obtain⟨v,hv,rfl⟩:=aak.1 hu;exact .inl hv
   .refine .inr ⟨t,RD h3,h4,?_,tV.1 hr⟩;show(Tb.ec (l.map mf) c.fd).1.dP=_;rw[h6]
  .rename_i h1;exact absurd h h1
theorem KI.aa5{k:Kr}(h:KI k){p:Nat}{x:bl}(hp:k.ps[p]? =some x)(b7:x.aQ=true){c:Cl}(he:(l4 k p c).2.fC=0):KI (l4 k p c).1:=by
 have zi:ay k.ps p=x.aV:=by rw[ay,hp]
 have he:(lZ (ay k.ps p) c).2.2=0:=he;have hx:=h.RS (RD hp);show KI (fh k p (lZ (ay k.ps p) c).1 (lZ (ay k.ps p) c).2.2);rw[fh,if_pos he];rw[zi]at he|-;obtain⟨h1,h2⟩:=Dv hx.sl he;refine h.dk hp b7 h1 λs hs hh=>?_
 rcases h2 s hs hh with hs|⟨t,ht,hth,e,r⟩
 .exact hx.cap s hs hh
 .obtain⟨_,n,o,a1,a2,a3⟩:=hx.cap t ht hth;exact⟨r,n,o,e.trans a1,a2,a3⟩
theorem KI.name{k:Kr}(h:KI k){p:Nat}{c:Cl}(he:(j8 k p c).2.fC=0):KI (j8 k p c).1:=by
 have he:(iP k c (Kn.bo k p c.fd (sn c))).2=0:=he;show KI (iP k c (Kn.bo k p c.fd (sn c))).1;unfold iP at he|-;split at he
 .rename_i h1;exact absurd he h1
 rename_i h1;rw[if_neg h1];split at he
 .rename_i h2;exact absurd he h2.2
 rename_i h2;rw[if_neg h2];unfold nO at he|-;split at he
 .rename_i h3;exact absurd he h3
 rename_i h3;rw[if_neg h3];split at he
 .cases he
 rename_i h4;rw[if_neg h4];split at he
 .rename_i h5;rw[if_pos h5];split at he
  .cases he
  rename_i h6;rw[if_neg h6];have he:(Dj k (iO k (Kn.bo k p c.fd (sn c)).2.1 c.cJ true false)).2.2=0:=he;show KI (bP k _ _);rw[bP,if_pos he];exact h.F7 he
 rename_i h5;rw[if_neg h5];split at he
 .cases he
 rename_i h6;rw[if_neg h6];split at he
 .rename_i h7;rw[if_pos h7];exact(h.Gd (HH _) he).1
 .rename_i h7;rw[if_neg h7];exact(h.Gd NP he).1
theorem KI.jL{k:Kr}(h:KI k){p:Nat}{x:bl}(hp:k.ps[p]? =some x)(b7:x.aQ=true)(he:(jL k p).2.fC=0):KI (jL k p).1:=by
 unfold Kn.jL zx at he|-;split at he
 .rename_i h1;exact absurd he h1
 rename_i h1;rw[if_neg h1];obtain⟨g1,g2,g3⟩:=h.TO (Z5 h1);unfold uH at he|-;split at he
 .rename_i h2;exact absurd he h2
 rename_i h2;rw[if_neg h2];have h2:=Z5 h2;have o1:=g1.xu (p:=p) hp b7 g2 h2;split at he
 .rename_i h3;exact absurd he h3
 rename_i h3;rw[if_neg h3];have e:=tW h2;refine o1.xu (p:=p) (x:=⟨x.aQ,x.fenced,x.code,(fQ (ay k.ps p) (cW k.ops) 896).1⟩) (by rw[e.1];exact gp hp _) b7 (by rw[e.2.1];exact g3) (Z5 h3)
theorem KI.ke{k:Kr}(h:KI k){p:Nat}{c:Cl}(he:(ke k p c).2.fC=0):KI (ke k p c).1:=by
 have key:∀r:List Obj×Int,(j9 k c r).2.fC=0->r.2=0:=λr hr=>by
  unfold j9 at hr;by_cases h1:r.2=0
  .exact h1
  .rw[if_pos h1]at hr;exact absurd hr h1
 have iy:∀(bn:Int)(m:br),m.Rk->(m.has=true->fG k m.dP m.b9)->(j9 k c (eP k.l bn m)).2.fC=0->KI (j9 k c (eP k.l bn m)).1:=λbn m ht hc hr=>by have h1:=key _ hr;show KI (bP k _ _);rw[bP,if_pos h1];exact h.send ht hc h1
 unfold Kn.ke zs at he|-;split at he
 .rename_i h1;exact absurd he h1
 rename_i h1;rw[if_neg h1];unfold xj at he|-;split at he
 .rename_i h2;rw[if_pos h2];split at he
  .rename_i h3;exact absurd he h3
  rename_i h3;rw[if_neg h3];obtain⟨i,s,_,a2,a3,a4,_⟩:=mZ (Z5 h3);refine iy _ _ ⟨c.data,rfl⟩ (λ_=>?_) he
  show fG k (fv (ay k.ps p) c.fD).1.1 (fv (ay k.ps p) c.fD).1.2;rw[a4];exact h.eh (RD a2) a3
 .rename_i h2;rw[if_neg h2];exact iy _ _ ⟨c.data,rfl⟩ (λhh=>by cases hh) he
theorem KI.i9{k:Kr}(h:KI k){p:Nat}{x:bl}(hp:k.ps[p]? =some x)(b7:x.aQ=true){c:Cl}(he:(i9 k p c).2.fC=0):KI (i9 k p c).1:=by
 unfold Kn.i9 zw at he|-;split at he
 .rename_i h1;exact absurd he h1
 rename_i h1;rw[if_neg h1];unfold zu at he|-;split at he
 .rename_i h2;exact absurd he h2
 rename_i h2;rw[if_neg h2];obtain⟨g1,g2⟩:=h.recv (Z5 h2);have zi:ay k.ps p=x.aV:=by rw[ay,hp]
 split at he
 .rename_i h3;rw[if_pos h3];split at he
  .rename_i h4;exact absurd he h4
  rename_i h4;rw[if_neg h4];show KI (bP (fh k p _ 0) _ 0);rw[bP,if_pos rfl,fh,if_pos rfl];have h4:=Z5 h4;rw[zi]at h4|-;obtain⟨a1,_,a3⟩:=nB h4;have hx:=h.RS (RD hp);refine g1.dk (p:=p) hp b7 (sq hx.sl) λs hs hh=>?_
  rcases a3 s hs with hs|rfl
  .exact g1.cap x (RD hp) s hs hh
  .have hq:fG ⟨(fA k.l (Kn.bo k p c.fd 512).2.1).1,k.ops,k.ps⟩ (fA k.l (Kn.bo k p c.fd 512).2.1).2.1.dP (fA k.l (Kn.bo k p c.fd 512).2.1).2.1.b9:=by
    obtain⟨r,n,o,b1,b2,b3⟩:=g2 h3;refine⟨r,n,o,b1,b2,b3.mono λj y hy NK=>?_⟩
    obtain⟨n',o',_,_,_,c2,c3,_,c5,_⟩:=qI (Z5 h2);rw[c5];by_cases ej:j=n'
    .subst ej;rw[c2]at hy;cases hy;exact⟨_,Tr (I4.1 c2).1,NK⟩
    .exact⟨y,by rw[WE (λe=>ej e.symm)];exact hy,NK⟩
   exact hq
 .rename_i h3;rw[if_neg h3];show KI (bP k _ 0);rw[bP,if_pos rfl];exact g1
theorem KI.Xp{k:Kr}(h:KI k){p:Nat}{x:bl}(hp:k.ps[p]? =some x)(b7:x.aQ=true){c:Cl}(he:(eX k p c).2.fC=0):KI (eX k p c).1:=by
 have ex:∀e:Kr×Int,(e.2=0->KI e.1)->KI (kg k e).1:=λe hE=>by
  unfold kg;split
  .rename_i h1;exact hE h1
  .exact h
 unfold eX at he|-;split at he
 .rename_i h1;rw[if_pos h1];exact h.fen p
 rename_i h1;rw[if_neg h1];split at he
 .rename_i h2;rw[if_pos h2];exact h
 rename_i h2;rw[if_neg h2];split at he
 .rename_i h3;rw[if_pos h3];unfold pS at he|-;split at he
  .rename_i h4;exact absurd he h4
  .rename_i h4;rw[if_neg h4];exact h.aa3 hp b7 (Z5 h4)
 rename_i h3;rw[if_neg h3];split at he
 .rename_i h4;rw[if_pos h4];exact ex _ λe=>h.exit e
 .rename_i h4;rw[if_neg h4];generalize Kn.bo k p c.fd (if c.ah=20 then 2048 else 1024)=w
  unfold mj;split
  .exact h
  .unfold tR;split
   .exact h
   .split
    .split<;>exact h
    .exact ex _ λe=>h.exit e
theorem KI.op{k:Kr}(h:KI k){p:Nat}{x:bl}(hp:k.ps[p]? =some x)(b7:x.aQ=true){c:Cl}(he:(fF k p c).2.fC=0):KI (fF k p c).1:=by
 unfold fF at he|-;split at he
 .rename_i a;rw[if_pos a];exact h.Xo hp b7 he
 rename_i a;rw[if_neg a];split at he
 .rename_i a;rw[if_pos a];exact h.bytes he
 rename_i a;rw[if_neg a];split at he
 .rename_i a;rw[if_pos a];exact h.aa5 hp b7 he
 rename_i a;rw[if_neg a];split at he
 .rename_i a;rw[if_pos a];exact h
 rename_i a;rw[if_neg a];split at he
 .rename_i a;rw[if_pos a];exact h.name he
 rename_i a;rw[if_neg a];split at he
 .rename_i a;rw[if_pos a];exact h.jL hp b7 he
 rename_i a;rw[if_neg a];split at he
 .rename_i a;rw[if_pos a];exact h.ke he
 rename_i a;rw[if_neg a];split at he
 .rename_i a;rw[if_pos a];exact h.i9 hp b7 he
 rename_i a;rw[if_neg a];exact h.Xp hp b7 he
theorem KI.do_{k:Kr}(h:KI k)(prog:List dA)(c:Cl):KI (lI prog k c).1:=by
 unfold lI;split
 .exact h
 rename_i h1;have h1:ft k.ps c.aA=true:=by cases hx:ft k.ps c.aA with|true=>rfl|false=>exact absurd hx h1
 obtain⟨p,hc,hp,b7⟩:=oG h1;split
 .exact h
 split
 .exact h
 rw[hc,aac];unfold OJ;split
 .exact h
 .rename_i he;exact(h.op (uX hp) b7 (Z5 he)).RQ
theorem KI.aa6{k:Kr}(h:KI k){p:Nat}(hp:p<k.ps.length)(b7:k.ps[p].aQ=true)(c:Cl):NC k p c:=by
 have hpx:=uX hp;refine⟨h.kw hp,λar ax=>⟨λhe=>?_,λhe=>?_⟩,⟨λhe=>(h.TO he).1.kr,λhe jY=>?_⟩,h.pr,λhe=>(h.op hpx b7 he).kr⟩
 .rcases h.Qe ar c.cJ ax true he with e|⟨j,y,e,hj,_⟩
  .rw[e];omega
  .have:=(I4.1 hj).1;rw[e];omega
 .obtain⟨g1,⟨j,y,g2,g3,_⟩,g4⟩:=h.cg (h.Qe ar c.cJ ax true) he;exact⟨g1.kr,by rw[g4];exact hp,j,g2,(I4.1 g3).1⟩
 .obtain⟨g1,g2,_⟩:=h.TO he;have:=g1.xu (p:=p) hpx b7 g2 jY;exact⟨this.kr,by rw[(tW jY).1,JL];exact hp⟩
theorem TR(prog:List dA)(k:Kr)(h:KI k)(c:Cl)(hd:c.data.length<=4194304){m:Mem}{K:CV->Mem->Prop}(hK:K (UG (lI prog k c)) m):
  aq Tryz.prog 19 [sr prog,d9 k.l k.ops k.ps,c.cv] m K:=
 Xf prog k c (λ_ hp _ b7=>h.aa6 hp b7 c) hd hK
end Kn
def c45:LF:= ⟨9,[.tmp 4],(.seq (.ai [qu 4 (.aK (qb false))]) (.seq (.ai [qm 5 0,qm 6 1,qu 7 (qc 83 [5,6]),qu 8 (.aJ .geq 7 (qi 0)),qm 4 8]) .ret))⟩
def c46:LF:= ⟨9,[.tmp 3],(.seq (.ai [qu 2 (.box 0),qu 3 (.aK (qb false))]) (.seq (.ai [qf 4 0 2,ql 5 4,qf 6 0 1,ql 7 6,qu 8 (.aJ .eql 5 7),qm 3 8]) .ret))⟩
def c47:LF:= ⟨9,[.tmp 4],(.seq (.ai [qu 4 (.aK (qb false))]) (.seq (.ai [qm 5 0,qm 6 1,qu 7 (qc 84 [5,6]),qu 8 (.aJ .geq 7 (qi 0)),qm 4 8]) .ret))⟩
def c48:LF:= ⟨21,[.tmp 2],(.seq (.ai [qu 1 (.box 0),qu 2 (.aK (qb false))]) (.seq (.ai [qf 3 0 1,ql 4 3,qu 5 (.aJ .lss 4 (qi 1)),qm 6 5,qg 7 (.cj 0 1) 6 false,qg 8 (.load false 1 7) 6 false,qg 9 (.aJ .geq 8 (qi 6)) 6 false,qu 10 (.pick 6 (qb true) 9),qm 11 10,qg 12 (.cj 1 1) 11 false,qg 13 (.load false 1 12) 11 false,qg 14 (.aJ .lss 13 (qi 1)) 11 false,qu 15 (.pick 11 (qb true) 14),qm 16 15,qg 17 (.cj 1 1) 16 false,qg 18 (.load false 1 17) 16 false,qg 19 (.aJ .geq 18 (qi 2147483648)) 16 false,qu 20 (.pick 16 (qb true) 19),qm 2 20]) .ret))⟩
def c83:LF:= ⟨19,[.tmp 4],(.seq (.ai [qu 4 (.aK (qi 0))]) (.seq (.seq (.ai [qm 6 0,qu 7 (.len 1 6),qu 8 (.aK (qi 0))]) (.block 0 (.loop (.seq (.ai [qu 9 (.aJ .lss 8 7)]) (.seq (.cond 9 .skip (.exit 0)) (.seq (.block 1 (.seq (.ai [qm 10 8,qm 5 10]) (.seq (.ai [qm 11 1,qm 12 0,qm 13 5,qu 14 (.cw 2 12 13),qL 15 2 14,qu 16 (.call 11 [15])]) (.cond 16 (.seq (.ai [qm 17 5,qm 4 17]) .ret) .skip)))) (.ai [qu 18 (.aJ .add 8 (qi 1)),qm 8 18]))))))) (.seq (.ai [qu 4 (.aK (qi (-1)))]) .ret)))⟩
def c84:LF:= ⟨19,[.tmp 4],(.seq (.ai [qu 4 (.aK (qi 0))]) (.seq (.seq (.ai [qm 6 0,qu 7 (.len 1 6),qu 8 (.aK (qi 0))]) (.block 0 (.loop (.seq (.ai [qu 9 (.aJ .lss 8 7)]) (.seq (.cond 9 .skip (.exit 0)) (.seq (.block 1 (.seq (.ai [qm 10 8,qm 5 10]) (.seq (.ai [qm 11 1,qm 12 0,qm 13 5,qu 14 (.cw 2 12 13),qL 15 2 14,qu 16 (.call 11 [15])]) (.cond 16 (.seq (.ai [qm 17 5,qm 4 17]) .ret) .skip)))) (.ai [qu 18 (.aJ .add 8 (qi 1)),qm 8 18]))))))) (.seq (.ai [qu 4 (.aK (qi (-1)))]) .ret)))⟩
structure li where
 w:Int
 bits:Int
def li.enc(m:li):List Dt:=[.val (.int .i64 m.w),.val (.int .i64 m.bits)]
def li.cv(m:li):CV:= .rv (.agg (m.enc.map .aa))
structure cR where
 call:Int
 bj:List li
def cR.enc(p:cR):List Dt:=[.val (.int .i64 p.call),.sl 2 (p.bj.map li.enc)]
def cR.cv(p:cR):CV:= .rv (.agg (p.enc.map .aa))
def HK(l:List li):CV:= .rv (.one (.aa (.sl 2 (l.map li.enc))))
def eJ(l:List cR):CV:= .rv (.one (.aa (.sl 2 (l.map cR.enc))))
def NR:CV:= .rv (.one (.ptr 0 0))
theorem l45:bu prog f45=some c45:=by kernel_rfl
theorem l46:bu prog Tryz.f46=some c46:=by kernel_rfl
theorem l47:bu prog Tryz.f47=some c47:=by kernel_rfl
theorem l48:bu prog Tryz.f48=some c48:=by kernel_rfl
theorem l83:bu prog f83=some c83:=by kernel_rfl
theorem l84:bu prog f84=some c84:=by kernel_rfl
theorem Dw(l:List cR)(hb:l.length<=4194304)(F:Nat)(cs:List Dt)(q:cR->Bool)(hF:∀s,s∈l->∀K:CV->Mem->Prop,K (aE (q s)) [.var (cs.map .aa)]->aq prog F [s.cv,NR] [.var (cs.map .aa)] K):body prog c83 [eJ l,(.rv (.one (.fn F [0])))] [.var (cs.map .aa)] (λr m=>r=an .i64 (nU q l)/\∃ex,m= .var (cs.map .aa)::ex):=by
 refine bb (λk=>k<=l.length/\∀(j:Nat)s,j<k->l[j]? =some s->q s=false) [0,1,7] (λk=>[(8,an .i64 (k:Nat))]) (λ_=>[.var (cs.map .aa)]) (λk=>l.length-k) 0 ⟨aaj _,λj s h=>absurd h (abi j)⟩ ?_ (λk hk=>?_)
 .refine View.o1 1 [0] [] ?_
  .exact .put (by simp[bw]) rfl (.lU rfl) (.nil _)
 .refine aL (λh=>?_) (λh=>?_)
  .have aD:k<l.length:=by have h:(k:Int)<((l.map cR.enc).length:Int):=h;rw[ML]at h;omega
   have hg:dx (l.map cR.enc) (k:Nat)=some (l[k].enc):=by rw[bA,RA,uX aD];rfl
   refine ag hg ?_;refine hF l[k] (aal aD) _ ?_;refine aM (λh=>?_) (λh=>?_)
   .rw[kW aD h hk.2];exact⟨rfl,[],rfl⟩
   .refine⟨k+1,⟨aD,λj s hj hs=>?_⟩,(show l.length-(k+1)<l.length-k by omega),View.o 1 [0] [] ?_ ?_⟩
    .rcases aad j k with h5|h5
     .exact hk.2 j s h5 hs
     .have:j=k:=om;subst this;rw[uX aD]at hs;cases hs;exact h
    .repeat(first|exact .nil|refine .ap ?_|refine .put (.aU (aN om).symm) ?_|refine .eq rfl ?_)
    .exact .put (by simp[bw]) rfl (.lU rfl) (.nil _)
  .have d7:¬(k:Int)<((l.map cR.enc).length:Int):=h;rw[ML]at d7;rw[mP λj s hs=>hk.2 j s (by have:=(I4.1 hs).1;omega) hs]
   exact⟨rfl,[],rfl⟩
theorem JM(l:List cR)(hb:l.length<=4194304)(F:Nat)(cs:List Dt)(q:cR->Bool)(hF:∀s,s∈l->∀K:CV->Mem->Prop,K (aE (q s)) [.var (cs.map .aa)]->aq prog F [s.cv,NR] [.var (cs.map .aa)] K){K:CV->Mem->Prop}(h:K (an .i64 (nU q l)) [.var (cs.map .aa)]):aq prog 83 [eJ l,(.rv (.one (.fn F [0])))] [.var (cs.map .aa)] K:=
 eH rfl (aY func83 l83 (Dw l hb F cs q hF)) h
theorem JN(l:List cR)(hb:l.length<=4194304)(F:Nat)(cs:List Dt)(q:cR->Bool)(hF:∀s,s∈l->∀K:CV->Mem->Prop,K (aE (q s)) [.var (cs.map .aa)]->aq prog F [s.cv,NR] [.var (cs.map .aa)] K)(K:CV->Mem->Prop)(h:K (aE (l.any q)) [.var (cs.map .aa)]):aq prog 45 [eJ l,(.rv (.one (.fn F [0])))] [.var (cs.map .aa)] K:=by
 refine eH rfl (aY func45 l45 (show body prog c45 [eJ l,(.rv (.one (.fn F [0])))] [.var (cs.map .aa)] (λr m=>r=aE (l.any q)/\∃ex,m= .var (cs.map .aa)::ex)from ?_)) h
 refine JM l hb F cs q hF ?_;rw[<-rM];exact⟨rfl,[],rfl⟩
theorem Bn(l:List li)(hb:l.length<=4194304)(F:Nat)(q:li->Bool)(hF:∀s,s∈l->∀K:CV->Mem->Prop,K (aE (q s)) []->aq prog F [s.cv] [] K):body prog c84 [HK l,(.rv (.one (.fn F [])))] [] (λr m=>r=an .i64 (nU q l)):=by
 refine bb (λk=>k<=l.length/\∀(j:Nat)s,j<k->l[j]? =some s->q s=false) [0,1,7] (λk=>[(8,an .i64 (k:Nat))]) (λ_=>[]) (λk=>l.length-k) 0 ⟨aaj _,λj s h=>absurd h (abi j)⟩ ?_ (λk hk=>?_)
 .refine View.o1 0 [] [] ?_
  .exact .nil _
 .refine aL (λh=>?_) (λh=>?_)
  .have aD:k<l.length:=by have h:(k:Int)<((l.map li.enc).length:Int):=h;rw[ML]at h;omega
   have hg:dx (l.map li.enc) (k:Nat)=some (l[k].enc):=by rw[bA,RA,uX aD];rfl
   refine ag hg ?_;refine hF l[k] (aal aD) _ ?_;refine aM (λh=>?_) (λh=>?_)
   .rw[kW aD h hk.2];exact rfl
   .refine⟨k+1,⟨aD,λj s hj hs=>?_⟩,(show l.length-(k+1)<l.length-k by omega),View.o 0 [] [] ?_ ?_⟩
    .rcases aad j k with h5|h5
     .exact hk.2 j s h5 hs
     .have:j=k:=om;subst this;rw[uX aD]at hs;cases hs;exact h
    .repeat(first|exact .nil|refine .ap ?_|refine .put (.aU (aN om).symm) ?_|refine .eq rfl ?_)
    .exact .nil _
  .have d7:¬(k:Int)<((l.map li.enc).length:Int):=h;rw[ML]at d7;rw[mP λj s hs=>hk.2 j s (by have:=(I4.1 hs).1;omega) hs]
   exact rfl
theorem Gf(l:List li)(hb:l.length<=4194304)(F:Nat)(q:li->Bool)(hF:∀s,s∈l->∀K:CV->Mem->Prop,K (aE (q s)) []->aq prog F [s.cv] [] K){m:Mem}{K:CV->Mem->Prop}(h:K (an .i64 (nU q l)) m):aq prog 84 [HK l,(.rv (.one (.fn F [])))] m K:=
 bv func84 l84 rfl (aae rfl) (Bn l hb F q hF) rfl rfl h
theorem JO(l:List li)(hb:l.length<=4194304)(F:Nat)(q:li->Bool)(hF:∀s,s∈l->∀K:CV->Mem->Prop,K (aE (q s)) []->aq prog F [s.cv] [] K){m:Mem}{K:CV->Mem->Prop}(h:K (aE (l.any q)) m):aq prog 47 [HK l,(.rv (.one (.fn F [])))] m K:=by
 refine bv func47 l47 rfl (aae rfl) (show body prog c47 [HK l,(.rv (.one (.fn F [])))] [] (λr m=>r=aE (l.any q))from ?_) rfl rfl h
 refine Gf l hb F q hF ?_;rw[<-rM];exact rfl
def tX(m:li):Bool:=decide (m.w<1)||decide (m.w>=6)||decide (m.bits<1)||decide (m.bits>=2147483648)
theorem Xq(p s:cR)(K:CV->Mem->Prop)(h:K (aE (s.call==p.call)) [.var (p.enc.map .aa)]):aq prog 46 [s.cv,NR] [.var (p.enc.map .aa)] K:=
 eH rfl (aY func46 l46 (show body prog c46 [s.cv,NR] [.var (p.enc.map .aa)] (λr m=>r=aE (s.call==p.call)/\∃ex,m= .var (p.enc.map .aa)::ex)from⟨rfl,_,rfl⟩)) h
theorem TS(s:li):body prog c48 [s.cv] [] (λr m=>r=aE (tX s)):=by
 refine aM (λh=>?_) (λh=>?_)
 .rw[tX,h];exact rfl
 refine aM (λh2=>?_) (λh2=>?_)
 .rw[tX,h,h2];exact rfl
 refine aM (λh3=>?_) (λh3=>?_)
 .rw[tX,h,h2,h3];exact rfl
 .rw[tX,h,h2,h3];exact rfl
theorem Xr(s:li)(K:CV->Mem->Prop)(h:K (aE (tX s)) []):aq prog 48 [s.cv] [] K:=
 bv func48 l48 rfl (aae rfl) (TS s) rfl rfl h
def Qk(r:pT)(m:li):Bool:=Nx (r.get m.w.toNat) m.bits !=0
def c22:LF:= ⟨46,[.cell true 2 2],(.seq (.ai [qu 2 (.alloc [qd 0,qd 0])]) (.seq (.seq (.ai [qm 5 0,qu 6 (.len 1 5),qu 7 (.aJ .gtr 6 (qi 30))]) (.cond 7 (.seq (.ai [qu 8 (.build [qd 0,qd 0] [(0,1,qi 5)]),qw (.store 2 2 8)]) .ret) .skip)) (.seq (.seq (.ai [qm 9 0,qu 10 (.len 1 9),qu 11 (.aK (qi 0))]) (.block 0 (.loop (.seq (.ai [qu 12 (.aJ .lss 11 10)]) (.seq (.cond 12 .skip (.exit 0)) (.seq (.block 1 (.seq (.ai [qm 13 11,qu 14 (.cw 2 9 11),qL 15 2 14,qu 4 (.alloc [qd 0,.aO]),qm 3 13,qw (.store 2 4 15)]) (.seq (.seq (.ai [qf 16 0 4,ql 17 16,qu 18 (.aJ .lss 17 (qi 0)),qm 19 18,qg 20 (.cj 0 4) 19 false,qg 21 (.load false 1 20) 19 false,qg 22 (.aJ .geq 21 (qi 2147483648)) 19 false,qu 23 (.pick 19 (qb true) 22)]) (.cond 23 (.seq (.ai [qm 24 3,qu 25 (.build [qd 0,qd 0] [(0,1,qi 3),(1,1,24)]),qw (.store 2 2 25)]) .ret) .skip)) (.seq (.seq (.ai [qm 26 0,qm 27 3,qu 28 (.nR 2 26 none (some 27) none),qu 29 (.fn 46 [4]),qu 30 (qc 45 [28,29])]) (.cond 30 (.seq (.ai [qm 31 3,qu 32 (.build [qd 0,qd 0] [(0,1,qi 7),(1,1,31)]),qw (.store 2 2 32)]) .ret) .skip)) (.seq (.seq (.ai [qf 33 1 4,ql 34 33,qu 35 (.len 1 34),qu 36 (.aJ .gtr 35 (qi 3))]) (.cond 36 (.seq (.ai [qm 37 3,qu 38 (.build [qd 0,qd 0] [(0,1,qi 5),(1,1,37)]),qw (.store 2 2 38)]) .ret) .skip)) (.seq (.ai [qf 39 1 4,ql 40 39,qu 41 (qc 47 [40,(.c (.rv (.one (.fn 48 []))))])]) (.cond 41 (.seq (.ai [qm 42 3,qu 43 (.build [qd 0,qd 0] [(0,1,qi 3),(1,1,42)]),qw (.store 2 2 43)]) .ret) .skip))))))) (.ai [qu 44 (.aJ .add 11 (qi 1)),qm 11 44]))))))) (.seq (.ai [qu 45 (.build [qd 0,qd 0] []),qw (.store 2 2 45)]) .ret))))⟩
def lj(pre:List cR)(p:cR):Int:=
 if p.call<0\/p.call>=2147483648 then 3 else if pre.any (λq=>q.call==p.call)=true then 7 else if p.bj.length>3 then 5 else if p.bj.any tX=true then 3 else 0
def iQ(l:List cR)(k:Nat):Int:=match l[k]? with|some p=>lj (l.take k) p|none=>0
def tY(f:Nat->Int):Nat->Nat->Int×Int
 |0,_=>(0,0)
 |n+1,k=>if f k=0 then tY f n (k+1)else(f k,(k:Int))
theorem zH{f:Nat->Int}:∀(n k:Nat),(∀j,k<=j->j<k+n->f j=0)->tY f n k=(0,0)
 |0,_,_=>rfl
 |n+1,k,h=>by rw[tY,if_pos (h k (Ts k) om)];exact zH n (k+1) λj h1 h2=>h j om om
theorem qJ{f:Nat->Int}:∀(n k j:Nat),k<=j->j<k+n->(∀i,k<=i->i<j->f i=0)->f j≠0->tY f n k=(f j,(j:Int))
 |0,_,_,_,_,_,_=>om
 |n+1,k,j,h1,h2,h3,h4=>by
  rw[tY];rcases aad k j with h|h
  .rw[if_pos (h3 k (Ts k) h)];exact qJ n (k+1) j om om (λi a b=>h3 i om b) h4
  .have:k=j:=om;subst this;rw[if_neg h4]
def cG(l:List cR):Int×Int:=if l.length>30 then(5,0)else tY (iQ l) l.length 0
theorem JP{l:List cR}{k:Nat}(h0:¬l.length>30)(hk:k<l.length)(hg:∀j,j<k->iQ l j=0){e:Int}(h:lj (l.take k) l[k]=e)(he:e≠0):Bi (e,(k:Int))=Bi (cG l):=by
 have hw:iQ l k=e:=by rw[iQ,uX hk];exact h
 rw[cG,if_neg h0,qJ l.length 0 k om om (λi _ hi=>hg i hi) (by rw[hw];exact he),hw]
theorem Gg{l:List cR}{k:Nat}(hk:k<l.length)(hg:∀j,j<k->iQ l j=0)(h:lj (l.take k) l[k]=0):∀j,j<k+1->iQ l j=0:=by
 intro j hj;rcases aad j k with h1|h1
 .exact hg j h1
 .have:j=k:=om;subst this;rw[iQ,uX hk];exact h
theorem l22:bu prog Tryz.f22=some c22:=by kernel_rfl
theorem Gh(l:List cR):body prog c22 [eJ l] [] (λr m=>r=Bi (cG l)):=by
 refine aL (λh=>?_) (λh0=>?_)
 .have h:l.length>30:=by have h:(((l.map cR.enc).length:Nat):Int)>30:=h;rw[ML]at h;omega
  rw[cG,if_pos h];exact rfl
 have h0:¬l.length>30:=by have h:¬(((l.map cR.enc).length:Nat):Int)>30:=h0;rw[ML]at h;omega
 refine bb (λk=>k<=l.length/\∀(j:Nat),j<k->iQ l j=0) [0,2,9,10] (λk=>[(11,an .i64 (k:Nat))]) (λ_=>[.var [.aa (.val (.int .i64 0)),.aa (.val (.int .i64 0))]]) (λk=>l.length-k) 0 ⟨aaj _,λj h=>absurd h (abi j)⟩ ?_ (λk hk=>?_)
 .refine View.o1 1 [0] [] ?_
  .exact .put (by simp[bw]) rfl (.eq rfl aC) (.nil _)
 .refine aL (λh=>?_) (λh=>?_)
  .have aD:k<l.length:=by have h:(k:Int)<((l.map cR.enc).length:Int):=h;rw[ML]at h;omega
   have bad:∀{e:Int},lj (l.take k) l[k]=e->e≠0->Bi (e,(k:Int))=Bi (cG l):=λa b=>JP h0 aD hk.2 a b
   have Xs:=Gg aD hk.2;have hg:dx (l.map cR.enc) (k:Nat)=some [.val (.int .i64 l[k].call),.sl 2 (l[k].bj.map li.enc)]:=by rw[bA,RA,uX aD];rfl
   generalize l[k]=p at bad Xs hg;obtain⟨call,bj⟩:=p;refine ag hg ?_;refine aL (λh=>?_) (λh1=>?_)
   .exact bad (by rw[lj,if_pos (.inl h)]) (by decide)
   refine aL (λh=>?_) (λh2=>?_)
   .exact bad (by rw[lj,if_pos (.inr h)]) (by decide)
   have n1:¬((⟨call,bj⟩:cR).call<0\/(⟨call,bj⟩:cR).call>=2147483648):=λh=>h.elim h1 h2
   have ur:∀{m:Mem}{K:CV->Mem->Prop},cD m 1=some (.var ((⟨call,bj⟩:cR).enc.map .aa))->K (aE ((l.take k).any λq=>q.call==(⟨call,bj⟩:cR).call)) m->aq prog 45 [.rv (.one (.aa (.sl 2 (((l.map cR.enc).take k).drop 0)))),.rv (.one (.fn 46 [1]))] m K:=by
    intro m K hm hK;have e:((l.map cR.enc).take k).drop 0=(l.take k).map cR.enc:=aC;rw[e];exact ff 1 hm rfl rfl (JN (l.take k) (by simp;omega) 46 (⟨call,bj⟩:cR).enc (λq=>q.call==(⟨call,bj⟩:cR).call) λs _ K hs=>Xq _ s K hs) hK
   refine cA (by simp[abn];omega) ?_
   refine ur rfl ?_;refine aM (λh=>?_) (λh3=>?_)
   .exact bad (by rw[lj,if_neg n1,if_pos h]) (by decide)
   have n2:¬((l.take k).any λq=>q.call==(⟨call,bj⟩:cR).call)=true:=by rw[h3];simp
   refine aL (λh=>?_) (λh4=>?_)
   .have h:(⟨call,bj⟩:cR).bj.length>3:=by have h:(((bj.map li.enc).length:Nat):Int)>3:=h;rw[ML]at h;show bj.length>3;omega
    exact bad (by rw[lj,if_neg n1,if_neg n2,if_pos h]) (by decide)
   have n3:¬(⟨call,bj⟩:cR).bj.length>3:=by have h:¬(((bj.map li.enc).length:Nat):Int)>3:=h4;rw[ML]at h;show ¬bj.length>3;omega
   refine JO bj (by have:¬bj.length>3:=n3;omega) 48 tX (λs _ K hs=>Xr s K hs) ?_
   refine aM (λh=>?_) (λh5=>?_)
   .exact bad (by rw[lj,if_neg n1,if_neg n2,if_neg n3,if_pos h]) (by decide)
   have n4:¬(⟨call,bj⟩:cR).bj.any tX=true:=by show ¬bj.any tX=true;rw[h5];simp
   refine⟨k+1,⟨aD,Xs (by rw[lj,if_neg n1,if_neg n2,if_neg n3,if_neg n4])⟩,(show l.length-(k+1)<l.length-k by omega),View.o 2 [0] [] ?_ ?_⟩
   .repeat(first|exact .nil|refine .ap ?_|refine .put (.aU (aN om).symm) ?_|refine .eq rfl ?_)
   .exact .put (by simp[bw]) rfl (.eq rfl aC) (.nil _)
  .have d7:¬(k:Int)<((l.map cR.enc).length:Int):=h;rw[ML]at d7;rw[cG,if_neg h0,zH l.length 0 λj _ hj=>hk.2 j om]
   exact rfl
theorem NS(l:List cR){m:Mem}{K:CV->Mem->Prop}(h:K (Bi (cG l)) m):aq prog 22 [eJ l] m K:=
 bv func22 l22 rfl (aae rfl) (Gh l) rfl rfl h
end Go.Proofs.YtodckkkbiidffaaGreatDoor
namespace Go.Proofs.YtodckkkbiidffaaGreatDoor
open Go.AM Go.ChangeShapes Go.WideShapes Go.ChangeAt Go.RowKit
def qK(l:List cR)(r:pT):Bool:=match l.find? (λp=>p.call==r.r0)with|some p=>!p.bj.any (Qk r)|none=>false
def l5:List li->List dA
 | []=>[⟨6,0,0,1⟩,⟨6,0,0,0⟩]
 |m::r=>⟨1,0,0,m.w⟩:: ⟨4,((2*r.length+1:Nat):Int),0,m.bits⟩::l5 r
def dU(p:cR):List dA:=⟨2,0,((2*p.bj.length+1:Nat):Int),p.call⟩::l5 p.bj
def ym(l:List cR):Int:=match l[l.length/2]? with|some p=>p.call|none=>0
def c6:Nat->List cR->List dA
 |0,_=>[⟨6,0,0,0⟩]
 |_+1,[]=>[⟨6,0,0,0⟩]
 |_+1,[p]=>dU p
 |n+1,p::q::r=>⟨3,0,1,ym (p::q::r)⟩:: ⟨5,0,0,(c6 n ((p::q::r).take ((p::q::r).length/2))).length⟩::
   (c6 n ((p::q::r).take ((p::q::r).length/2))++c6 n ((p::q::r).drop ((p::q::r).length/2)))
theorem m4{n:Nat}{l:List cR}(h:2<=l.length):c6 (n+1) l=⟨3,0,1,ym l⟩:: ⟨5,0,0,(c6 n (l.take (l.length/2))).length⟩::(c6 n (l.take (l.length/2))++c6 n (l.drop (l.length/2))):=by
 match l,h with
 |p::q::r,_=>rfl
theorem JQ(n:Nat)(p:cR):c6 (n+1) [p]=dU p:=rfl
theorem io:∀ms:List li,(l5 ms).length=2*ms.length+2
 | []=>rfl
 |m::r=>by simp[l5,io r];omega
theorem lm:∀ms:List li,(l5 ms)[2*ms.length+1]? =some ⟨6,0,0,0⟩
 | []=>rfl
 |m::r=>by
  have:=lm r;rw[aah,show 2*(r.length+1)+1=2*r.length+1+1+1 by omega]
  simpa[l5]using this
def At(P:List dA)(a:Nat)(c:List dA):Prop:=∀(j:Nat)i,c[j]? =some i->P[a+j]? =some i
theorem At.head{P:List dA}{a:Nat}{x:dA}{c:List dA}(h:At P a (x::c)):P[a]? =some x:=h 0 x rfl
theorem At.tail{P:List dA}{a:Nat}{x:dA}{c:List dA}(h:At P a (x::c)):At P (a+1) c:=λj i hi=>by
 have:=h (j+1) i (by simpa using hi)
 rwa [show a+(j+1)=a+1+j by omega]at this
theorem At.left{P:List dA}{a:Nat}{c d:List dA}(h:At P a (c++d)):At P a c:=λj i hi=>h j i (by rw[Yf (I4.1 hi).1];exact hi)
theorem At.right{P:List dA}{a:Nat}{c d:List dA}(h:At P a (c++d)):At P (a+c.length) d:=λj i hi=>by
 have:=h (c.length+j) i (by rw[WH om];simpa using hi)
 rwa [show a+(c.length+j)=a+c.length+j by omega]at this
theorem zI{P:List dA}{r:pT}:∀(ms:List li)(a:Nat)(cZ:Int),At P a (l5 ms)->(gA P r a cZ).1=if ms.any (Qk r)then 0 else 1
 | [],a,cZ,h=>by rw[kN h.head rfl];rfl
 |m::q,a,cZ,h=>by
  have h2:=h.tail;rw[fb h.head aC (d:=1) (acc2:=r.get m.w.toNat) rfl];have hn:=NA (2*q.length+1) 0 m.bits (r.get m.w.toNat) r;by_cases hh:Nx (r.get m.w.toNat) m.bits=0
  .rw[fb h2.head aC (hn.2 hh)];have hm:Qk r m=false:=by simp[Qk,hh]
   have ih:=zI (P:=P) (r:=r) q (a+1+1) (r.get m.w.toNat) h2.tail;simp only[List.any_cons,hm,ach];exact ih
  .rw[fb h2.head aC (hn.1 hh)];have hm:Qk r m=true:=by simp[Qk,hh]
   have h3:=h2.tail _ _ (lm q);rw[show a+1+(1+(2*q.length+1))=a+1+1+(2*q.length+1) by omega,kN h3 rfl]
   simp[hm]
theorem NT{P:List dA}{r:pT}{p:cR}{a:Nat}{cZ:Int}(h:At P a (dU p)):(gA P r a cZ).1=if(p.call==cZ&& !p.bj.any (Qk r))then 1 else 0:=by
 have hn:=Ny 0 (2*p.bj.length+1) p.call cZ r;by_cases hc:cZ=p.call
 .rw[fb h.head aC (hn.1 hc)];have:=zI (r:=r) p.bj (a+1) cZ h.tail;show(gA P r (a+1) cZ).1=_;rw[this];subst hc;cases p.bj.any (Qk r)<;>simp
 .rw[fb h.head aC (hn.2 hc)];have h3:=h.tail _ _ (lm p.bj);rw[show a+(1+(2*p.bj.length+1))=a+1+(2*p.bj.length+1) by omega,kN h3 rfl]
  have:(p.call==cZ)=false:=by rw[beq_eq_false_iff_ne];exact λe=>hc e.symm
  simp[this]
def m5(l:List cR)(r:pT)(cZ:Int):Bool:=l.any λp=>p.call==cZ&& !p.bj.any (Qk r)
def gq(l:List cR):Prop:=l.Pairwise λa b=>a.call<b.call
theorem gq.lo{l:List cR}(h:gq l){k:Nat}{q:cR}(hk:l[k]? =some q):∀p,p∈l.take k->p.call<q.call:=by
 intro p hp;obtain⟨i,hi⟩:=Xt hp;rw[aa8]at hi;split at hi
 .rename_i WG;obtain⟨h1,rfl⟩:=I4.1 hi;obtain⟨h2,rfl⟩:=I4.1 hk;exact abR.1 h i k h1 h2 WG
 .cases hi
theorem gq.hi{l:List cR}(h:gq l){k:Nat}{q:cR}(hk:l[k]? =some q):∀p,p∈l.drop k->q.call<=p.call:=by
 intro p hp;obtain⟨i,hi⟩:=Xt hp;rw[abp]at hi;obtain⟨h1,rfl⟩:=I4.1 hi;obtain⟨h2,rfl⟩:=I4.1 hk;cases i with
 |zero=>exact acu _
 |succ i=>exact Int.le_of_lt (abR.1 h k (k+(i+1)) h2 h1 om)
theorem tZ{l:List cR}{r:pT}{cZ:Int}(h:∀p,p∈l->p.call≠cZ):m5 l r cZ=false:=by rw[m5,List.any_eq_false];intro p hp;simp[h p hp]
theorem Dx(l:List cR)(k:Nat)(r:pT)(cZ:Int):m5 l r cZ=(m5 (l.take k) r cZ||m5 (l.drop k) r cZ):=by rw[m5,m5,m5,<-List.any_append,ace]
theorem xx{P:List dA}{r:pT}:∀(n:Nat)(l:List cR)(a:Nat)(cZ:Int),l.length<=n->gq l->At P a (c6 n l)->(gA P r a cZ).1=if m5 l r cZ then 1 else 0
 |0,l,a,cZ,hl,_,h=>by have:l=[]:=aag om;subst this;rw[kN (At.head (x:=⟨6,0,0,0⟩) (c:=[]) h) rfl];rfl
 |n+1,l,a,cZ,hl,hs,h=>by
  rcases aad l.length 2 with h2|h2
  .match l,h2 with
   | [],_=>rw[kN (At.head (x:=⟨6,0,0,0⟩) (c:=[]) h) rfl];rfl
   | [p],_=>
    rw[NT (p:=p) h];simp[m5]
  .rw[m4 h2]at h;have hk:l.length/2<l.length:=om;have hm:l[l.length/2]? =some l[l.length/2]:=uX hk;have rQ:ym l=(l[l.length/2]).call:=by rw[ym,hm]
   have gY:=hs.lo hm;have xR:=hs.hi hm;rw[<-rQ]at gY xR;have hn:=Nz 0 1 (ym l) cZ r;by_cases hc:cZ>=ym l
   .rw[fb h.head aC (hn.1 hc)];show(gA P r (a+1) cZ).1=_;rw[fb h.tail.head aC (d:=1+(c6 n (l.take (l.length/2))).length) (acc2:=cZ) (by simp[sH])]
    have ih:=xx (P:=P) (r:=r) n (l.drop (l.length/2)) (a+1+1+(c6 n (l.take (l.length/2))).length) cZ (by rw[abz];omega) (hs.sublist (List.drop_sublist _ _)) h.tail.tail.right
    rw[<-abo (a+1)];show(gA P r (a+1+1+(c6 n (l.take (l.length/2))).length) cZ).1=_;rw[ih,Dx l (l.length/2),tZ (l:=l.take (l.length/2)) (λp hp=>by have:=gY p hp;omega),ach]
   .rw[fb h.head aC (hn.2 hc)];have ih:=xx (P:=P) (r:=r) n (l.take (l.length/2)) (a+1+1) cZ (by rw[aan];omega) (hs.sublist (List.take_sublist _ _)) h.tail.tail.left
    show(gA P r (a+1+1) cZ).1=_;rw[ih,Dx l (l.length/2),tZ (l:=l.drop (l.length/2)) (λp hp=>by have:=xR p hp;omega),Bool.or_false]
def xy(c:List dA)(a:Nat)(s:Int):Prop:=∀(j:Nat)i,c[j]? =some i->ix i ((a+j:Nat):Int) s=0
theorem xy.cons{x:dA}{c:List dA}{a:Nat}{s:Int}(hx:ix x (a:Int) s=0)(h:xy c (a+1) s):xy (x::c) a s:=λj i hi=>by
 cases j with
 |zero=>simp at hi;subst hi;exact hx
 |succ j=>
  have:=h j i (by simpa using hi)
  rwa [show a+1+j=a+(j+1) by omega]at this
theorem xy.append{c d:List dA}{a:Nat}{s:Int}(h1:xy c a s)(h2:xy d (a+c.length) s):xy (c++d) a s:=λj i hi=>by
 rcases aad j c.length with h|h
 .rw[Yf h]at hi;exact h1 j i hi
 .rw[WH h]at hi;have:=h2 (j-c.length) i hi;rwa [show a+c.length+(j-c.length)=a+j by omega]at this
def RU(m:li):Prop:=1<=m.w/\m.w<6/\1<=m.bits/\m.bits<2147483648
def zJ(p:cR):Prop:=0<=p.call/\p.call<2147483648/\p.bj.length<=3/\∀m,m∈p.bj->RU m
theorem Dy:∀(ms:List li)(a s:Nat),ms.length<=3->(∀m,m∈ms->RU m)->a+(l5 ms).length<=s->xy (l5 ms) a s
 | [],a,s,_,_,h=>.cons (by rw[xp];simp) (.cons (by rw[xp];simp) λj i hi=>by simp at hi)
 |m::r,a,s,h1,h2,h=>by
  obtain⟨g1,g2,g3,g4⟩:=h2 m aC;rw[io,aah]at h;rw[aah]at h1;refine .cons ?_ (.cons ?_ (Dy r (a+1+1) s om (λx hx=>h2 x (by simp[hx])) (by rw[io];omega)))
  .rw[F6,if_neg om];simp
  .rw[tS _ _ _ _ _ _ om,if_neg om]
theorem NU{p:cR}(hp:zJ p){a s:Nat}(h:a+(dU p).length<=s):xy (dU p) a s:=by
 obtain⟨g1,g2,g3,g4⟩:=hp;have hl:(dU p).length=2*p.bj.length+3:=by simp[dU,io]
 rw[hl]at h;refine .cons ?_ (Dy p.bj (a+1) s g3 g4 (by rw[io];omega))
 rw[tS _ _ _ _ _ _ om,if_neg om]
theorem t6:∀(n:Nat)(l:List cR),1<=(c6 n l).length/\∃i,(c6 n l)[(c6 n l).length-1]? =some i/\i.op=6
 |0,l=>⟨by simp[c6],_,rfl,rfl⟩
 |n+1,l=>by
  rcases aad l.length 2 with h2|h2
  .match l,h2 with
   | [],_=>exact⟨by simp[c6],_,rfl,rfl⟩
   | [p],_=>
    refine⟨by simp[c6,dU],⟨6,0,0,0⟩,?_,rfl⟩
    have:=lm p.bj;rw[JQ,dU,aah,io,show 2*p.bj.length+2+1-1=2*p.bj.length+1+1 by omega,abA]
    exact this
  .rw[m4 h2];obtain⟨h1,i,h3,h4⟩:=t6 n (l.drop (l.length/2));refine⟨aC,i,?_,h4⟩;simp only[aah,aba];rw[show(c6 n (l.take (l.length/2))).length+(c6 n (l.drop (l.length/2))).length+1+1-1=(c6 n (l.take (l.length/2))).length+((c6 n (l.drop (l.length/2))).length-1)+1+1 by omega,
    abA,abA,WH om]
   rw[<-h3];congr 1;omega
theorem po:∀(n:Nat)(l:List cR),(∀p,p∈l->p.bj.length<=3)->l.length<=n->(l=[]->(c6 n l).length=1)/\(l≠[]->(c6 n l).length+2<=11*l.length)
 |0,l,_,hl=>by have:l=[]:=aag om;subst this;simp[c6]
 |n+1,l,h,hl=>by
  rcases aad l.length 2 with h2|h2
  .match l,h2 with
   | [],_=>simp[c6]
   | [p],_=>
    have:=h p aC;simp[c6,dU,io];omega
  .refine⟨λe=>by subst e;simp at h2,λ_=>?_⟩
   have i1:=(po n (l.take (l.length/2)) (λp hp=>h p (abq hp)) (by rw[aan];omega)).2 (λe=>by have:=congrArg List.length e;rw[aan,abv]at this;omega)
   have i2:=(po n (l.drop (l.length/2)) (λp hp=>h p (ab3 hp)) (by rw[abz];omega)).2 (λe=>by have:=congrArg List.length e;rw[abz,abv]at this;omega)
   rw[m4 h2];simp only[aah,aba];rw[aan]at i1;rw[abz]at i2;omega
theorem xz:∀(n:Nat)(l:List cR)(a s:Nat),(∀p,p∈l->zJ p)->l.length<=n->a+(c6 n l).length<=s->xy (c6 n l) a s
 |0,l,a,s,_,_,_=>.cons (by rw[xp];simp) λj i hi=>by simp at hi
 |n+1,l,a,s,hg,hl,h=>by
  rcases aad l.length 2 with h2|h2
  .match l,h2 with
   | [],_=>exact .cons (by rw[xp];simp) λj i hi=>by simp at hi
   | [p],_=>exact NU (hg p aC) h
  .rw[m4 h2]at h|-;have hk:l.length/2<l.length:=om;have hm:l[l.length/2]? =some l[l.length/2]:=uX hk;have rQ:ym l=(l[l.length/2]).call:=by rw[ym,hm]
   have Vg:=hg _ (aal hk);have hp:=(t6 n (l.drop (l.length/2))).1;simp only[aah,aba]at h;refine .cons ?_ (.cons ?_ (.append (xz n _ _ s (λp hp=>hg p (abq hp)) (by rw[aan];omega) om) (xz n _ _ s (λp hp=>hg p (ab3 hp)) (by rw[abz];omega) om)))
   .rw[tS _ _ _ _ _ _ om,rQ,if_neg (by have:=Vg.1;have:=Vg.2.1;omega)]
   .rw[Nw _ _ _ _ _ om,if_neg om];simp
def dm(l:List cR):List dA:=⟨1,0,0,0⟩::c6 l.length l
theorem Gi{l:List cR}(hg:∀p,p∈l->zJ p)(hl:l.length<=30):jV (dm l)=(0,0):=by
 have h1:=t6 l.length l;have h2:=po l.length l (λp hp=>(hg p hp).2.2.1) (Ts _)
 have hlen:(dm l).length=(c6 l.length l).length+1:=by simp[dm]
 have h3:(c6 l.length l).length<=330:=by
  by_cases e:l=[]
  .have:=h2.1 e;omega
  .have:=h2.2 e;omega
 have gO:xy (dm l) 0 ((dm l).length:Nat):=by refine .cons ?_ (xz l.length l 1 (dm l).length hg (Ts _) om);rw[F6];simp
 obtain⟨h4,i,h5,h6⟩:=h1;have hc:=Bj (dm l).length (dm l) 0 gO;have lX:(dm l)[(dm l).length-1]? =some i:=by
  rw[hlen,show(c6 l.length l).length+1-1=(c6 l.length l).length-1+1 by omega]
  exact h5
 rw[jV,if_neg om,hc,if_neg aC,lX];simp only;rw[if_pos h6]
theorem NV{l:List cR}(r:pT)(hg:∀p,p∈l->zJ p)(hl:l.length<=30)(hs:gq l):(tT (dm l) r).1=if m5 l r r.r0 then 1 else 0:=by
 rw[tT,Gi hg hl,if_pos rfl];have hA:At (dm l) 0 (dm l):=λj i hi=>by simpa using hi
 rw[fb hA.head (by decide) (d:=1) (acc2:=r.r0) rfl]
 have:=xx (P:=dm l) (r:=r) l.length l 1 r.r0 (Ts _) hs hA.tail;exact this
theorem JR{l l':List cR}(h:l'.Perm l)(r:pT)(cZ:Int):m5 l' r cZ=m5 l r cZ:=by
 rw[acZ,m5,m5,abm,abm];constructor
 .rintro⟨p,hp,h2⟩;exact⟨p,h.mem_iff.1 hp,h2⟩
 .rintro⟨p,hp,h2⟩;exact⟨p,h.mem_iff.2 hp,h2⟩
def m6(l:List cR):Prop:=l.Pairwise λa b=>a.call≠b.call
theorem JS{l:List cR}(h:m6 l)(r:pT):qK l r=m5 l r r.r0:=by
 induction l with
 |nil=>rfl
 |cons p q ih=>
  obtain⟨h1,h2⟩:=acd.1 h;have ih:=ih h2;rw[m5,List.any_cons];by_cases hc:p.call=r.r0
  .have hb:(p.call==r.r0)=true:=by simp[hc]
   have hq:m5 q r r.r0=false:=tZ λx hx e=>h1 x hx (hc.trans e.symm)
   rw[m5]at hq;rw[hq,qK,List.find?_cons,hb];simp
  .have hb:(p.call==r.r0)=false:=by simpa using hc
   have e:qK (p::q) r=qK q r:=by rw[qK,qK,List.find?_cons,hb]
   rw[e,ih,hb,m5];simp
theorem yn{l l':List cR}(h:l'.Perm l)(hd:m6 l):m6 l':=(h.pairwise_iff (λh=>Ne.symm h)).2 hd
theorem uK{l:List cR}(h:(cG l).1=0):l.length<=30/\(∀p,p∈l->zJ p)/\m6 l:=by
 unfold cG at h;split at h
 .simp at h
 .rename_i h0;have fI:∀j,j<l.length->iQ l j=0:=by
   intro j
   induction j using Nat.strongRecOn with
   |_ j ih=>
    intro hj;by_cases hw:iQ l j=0
    .exact hw
    .rw[qJ l.length 0 j om om (λi _ hi=>ih i hi om) hw]at h
     exact absurd h hw
  have fact:∀(j:Nat)p,l[j]? =some p->zJ p/\∀q,q∈l.take j->q.call≠p.call:=by
   intro j p hj;have hw:=fI j (I4.1 hj).1;rw[iQ,hj]at hw;simp only[lj]at hw;split at hw
   .simp at hw
   .rename_i c1;split at hw
    .simp at hw
    .rename_i c2;split at hw
     .simp at hw
     .rename_i c3;split at hw
      .simp at hw
      .rename_i c4;refine⟨⟨om,om,om,λm hm=>?_⟩,λq hq e=>?_⟩
       .have c4:p.bj.any tX=false:=by simpa using c4
        rw[List.any_eq_false]at c4;have hb:tX m=false:=by simpa using c4 m hm
        simp only[tX,Bool.or_eq_false_iff,decide_eq_false_iff_not]at hb;refine⟨om,om,om,om⟩
       .refine c2 (abm.2 ⟨q,hq,by simp[e]⟩)
  refine⟨om,λp hp=>?_,?_⟩
  .obtain⟨j,hj⟩:=Xt hp;exact(fact j p hj).1
  .rw[m6,abR];intro i j hi hj rh;refine(fact j l[j] (uX hj)).2 l[i] ?_;exact RD (i:=i) (by rw[aa8,if_pos rh,uX hi])
theorem JT{l:List cR}(h:l.Pairwise λa b=>¬b.call<a.call)(hd:m6 l):gq l:=by have:=List.Pairwise.and h hd;exact this.imp λ⟨a,b⟩=>om
end Go.Proofs.YtodckkkbiidffaaGreatDoor
namespace Go.Proofs.YtodckkkbiidffaaGreatDoor
open Proofs.Tryz
open Go.AM Go.ChangeShapes Go.WideShapes Go.ChangeAt Go.RowKit
def c27:LF:= ⟨45,[.tmp 2],(.seq (.ai [qu 2 (.aK qe)]) (.seq (.seq (.ai [qm 7 0,qu 8 (.len 1 7)]) (.block 0 (.seq (.ai [qu 10 (.aJ .eql 8 (qi 0)),qm 9 10]) (.cond 9 (.seq (.ai [qu 11 (.build [qd 0,qd 0,qd 0,qd 0] [(0,1,qi 6),(3,1,qi 0)]),qu 12 (.nC 4 [qd 0,qd 0,qd 0,qd 0] 1 [(0,11)]),qm 2 12]) .ret) (.seq (.ai [qu 14 (.aJ .eql 8 (qi 1)),qm 13 14]) (.cond 13 (.seq (.ai [qm 15 0,qu 16 (.cw 2 15 (qi 0)),qL 17 2 16,qu 18 (qc 52 [17]),qm 2 18]) .ret) .skip)))))) (.seq (.ai [qm 19 0,qu 20 (.len 1 19),qu 21 (.aJ .quo 20 (qi 2)),qm 3 21]) (.cS (.seq (.bR [qm 22 0,qm 23 3,qu 24 (.nR 2 22 none (some 23) none),qu 25 (qc 27 [24]),qm 26 0,qm 27 3,qu 28 (.nR 2 26 (some 27) none none),qu 29 (qc 27 [28]),qm 4 25,qm 5 29] [(.cons 0 none (.cons 1 none (.cons 2 none (.cons 4 none (.cons 5 none (.cons 6 none (.cons 3 (some [6]) (.cons 7 (some []) (.cons 8 none (.cons 9 none .nil))))))))))]) (.seq (.ai [qm 30 0,qm 31 3,qu 32 (.cw 2 30 31),qf 33 0 32,ql 34 33,qu 35 (.build [qd 0,qd 0,qd 0,qd 0] [(0,1,qi 3),(1,1,qi 0),(2,1,qi 1),(3,1,34)]),qm 36 4,qu 37 (.len 1 36),qu 38 (.build [qd 0,qd 0,qd 0,qd 0] [(0,1,qi 5),(3,1,37)]),qu 39 (.nC 4 [qd 0,qd 0,qd 0,qd 0] 2 [(0,35),(1,38)]),qm 6 39]) (.seq (.ai [qm 40 6,qm 41 4,qu 42 (.oZ 4 32 40 41),qm 43 5,qu 44 (.oZ 4 32 42 43),qm 2 44]) .ret)))))))⟩
def c52:LF:= ⟨50,[.tmp 2],(.seq (.ai [qu 1 (.box 0),qu 2 (.aK qe)]) (.seq (.ai [qf 8 1 1,ql 9 8,qu 10 (.len 1 9),qu 11 (.aJ .mul (qi 2) 10),qu 12 (.aJ .add 11 (qi 1)),qm 3 12]) (.seq (.ai [qm 13 3,qf 14 0 1,ql 15 14,qu 16 (.build [qd 0,qd 0,qd 0,qd 0] [(0,1,qi 2),(1,1,qi 0),(2,1,13),(3,1,15)]),qu 17 (.nC 4 [qd 0,qd 0,qd 0,qd 0] 1 [(0,16)]),qm 4 17]) (.seq (.seq (.ai [qf 18 1 1,ql 19 18,qu 20 (.len 1 19),qu 21 (.aK (qi 0))]) (.block 0 (.loop (.seq (.ai [qu 22 (.aJ .lss 21 20)]) (.seq (.cond 22 .skip (.exit 0)) (.seq (.block 1 (.seq (.ai [qm 23 21,qu 24 (.cw 2 19 21),qL 25 2 24,qu 6 (.alloc [qd 0,qd 0]),qm 5 23,qw (.store 2 6 25)]) (.seq (.ai [qf 26 1 1,ql 27 26,qu 28 (.len 1 27),qm 29 5,qu 30 (.aJ .sub 28 29),qu 31 (.aJ .sub 30 (qi 1)),qu 32 (.aJ .mul (qi 2) 31),qu 33 (.aJ .add 32 (qi 1)),qm 7 33]) (.ai [qm 34 4,qf 35 0 6,ql 36 35,qu 37 (.build [qd 0,qd 0,qd 0,qd 0] [(0,1,qi 1),(3,1,36)]),qm 38 7,qf 39 1 6,ql 40 39,qu 41 (.build [qd 0,qd 0,qd 0,qd 0] [(0,1,qi 4),(1,1,38),(2,1,qi 0),(3,1,40)]),qu 42 (.nC 4 [qd 0,qd 0,qd 0,qd 0] 2 [(0,37),(1,41)]),qu 43 (.oZ 4 32 34 42),qm 4 43])))) (.ai [qu 44 (.aJ .add 21 (qi 1)),qm 21 44]))))))) (.seq (.ai [qm 45 4,qu 46 (.build [qd 0,qd 0,qd 0,qd 0] [(0,1,qi 6),(3,1,qi 1)]),qu 47 (.build [qd 0,qd 0,qd 0,qd 0] [(0,1,qi 6),(3,1,qi 0)]),qu 48 (.nC 4 [qd 0,qd 0,qd 0,qd 0] 2 [(0,46),(1,47)]),qu 49 (.oZ 4 32 45 48),qm 2 49]) .ret)))))⟩
theorem pU(a b:List (List Dt)):af (a++b)=af a++af b:=by simp[af]
theorem l52:bu prog f52=some c52:=by kernel_rfl
theorem l27:bu prog Tryz.f27=some c27.er:=by kernel_rfl
theorem Dz:∀(ms:List li)(k:Nat)(m:li),ms[k]? =some m->(l5 ms)[2*k]? =some ⟨1,0,0,m.w⟩/\(l5 ms)[2*k+1]? =some ⟨4,((2*(ms.length-k-1)+1:Nat):Int),0,m.bits⟩
 | [],k,m,h=>by simp at h
 |x::r,0,m,h=>by
  simp at h;subst h;refine⟨rfl,?_⟩;show some _=some _;rw[aah,show r.length+1-0-1=r.length by omega]
 |x::r,k+1,m,h=>by
  have:=Dz r k m (by simpa using h)
  rw[show 2*(k+1)=2*k+1+1 by omega,aah,show r.length+1-(k+1)-1=r.length-k-1 by omega]
  simpa[l5]using this
theorem zK:∀ms:List li,(l5 ms)[2*ms.length]? =some ⟨6,0,0,1⟩
 | []=>rfl
 |m::r=>by
  have:=zK r;rw[aah,show 2*(r.length+1)=2*r.length+1+1 by omega]
  simpa[l5]using this
theorem JU{p:cR}{k:Nat}{m:li}(h:p.bj[k]? =some m):(dU p).take (2*(k+1)+1)=(dU p).take (2*k+1)++ [⟨1,0,0,m.w⟩,⟨4,((2*(p.bj.length-k-1)+1:Nat):Int),0,m.bits⟩]:=by
 obtain⟨h1,h2⟩:=Dz p.bj k m h;have e1:(dU p)[2*k+1]? =some ⟨1,0,0,m.w⟩:=by simpa[dU]using h1
 have e2:(dU p)[2*k+1+1]? =some ⟨4,((2*(p.bj.length-k-1)+1:Nat):Int),0,m.bits⟩:=by simpa[dU]using h2
 rw[show 2*(k+1)+1=2*k+1+1+1 by omega,abI,e2,abI,e1]
 simp
theorem NW(p:cR):dU p=(dU p).take (2*p.bj.length+1)++ [⟨6,0,0,1⟩,⟨6,0,0,0⟩]:=by
 have h1:=zK p.bj;have h2:=lm p.bj;have e1:(dU p)[2*p.bj.length+1]? =some ⟨6,0,0,1⟩:=by simpa[dU]using h1
 have e2:(dU p)[2*p.bj.length+1+1]? =some ⟨6,0,0,0⟩:=by simpa[dU]using h2
 have hl:(dU p).length=2*p.bj.length+1+1+1:=by simp[dU,io]
 have h3:(dU p).take (2*p.bj.length+1+1+1)=dU p:=abN om;rw[abI,e2,abI,e1,aca]at h3;exact h3.symm
theorem Gj(p:cR)(hm:p.bj.length<=1000):body prog c52 [p.cv] [] (λr m=>cQ m r (sr (dU p))):=by
 have hn:IntKind.i64.wrap (IntKind.i64.wrap (2*(((p.bj.map li.enc).length:Nat):Int))+1)=((2*p.bj.length+1:Nat):Int):=by rw[ML,ic (n:=2*(p.bj.length:Int)) om om,ic om om];omega
 refine bb (λk=>k<=p.bj.length) [1,19] (λk=>[(4,.rv (.one (.row 1 4 0 none))),(20,an .i64 (p.bj.length:Nat)),(21,an .i64 (k:Nat))]) (λk=>[.var (p.enc.map .aa),.row 4 (af (((dU p).take (2*k+1)).map dA.enc))])
  (λk=>p.bj.length-k) 0 (aaj _) ?_ (λk hk=>?_)
 .refine View.o 2 [0,1] [] ?_ ?_
  .repeat(first|exact .nil|refine .ap ?_|refine .eq rfl ?_|refine .put (.aU (by rw[ML];rfl)) ?_)
  .refine .pe rfl rfl rfl (.pt rfl rfl (.bI ?_) (.nil _));show [[CC.aa (.val (.int .i64 2)),.aa (.val (.int .i64 0)),.aa (.val (.int .i64 (IntKind.i64.wrap (IntKind.i64.wrap (2*(((p.bj.map li.enc).length:Nat):Int))+1)))),.aa (.val (.int .i64 p.call))]]=_;rw[hn];rfl
 have hk:k<=p.bj.length:=hk;refine aL (λh=>?_) (λh=>?_)
 .have aD:k<p.bj.length:=by have h:(k:Int)<(p.bj.length:Int):=h;omega
  have hi:=uX aD;have hT:=JU hi;have hg:dx (p.bj.map li.enc) (k:Nat)=some [.val (.int .i64 p.bj[k].w),.val (.int .i64 p.bj[k].bits)]:=by rw[bA,RA,hi];rfl
  generalize p.bj[k]=mk at hT hg;refine ag hg ?_;have hw:IntKind.i64.wrap (IntKind.i64.wrap (2*IntKind.i64.wrap (IntKind.i64.wrap ((((p.bj.map li.enc).length:Nat):Int)-(k:Int))-1))+1)=((2*(p.bj.length-k-1)+1:Nat):Int):=by rw[ML,ic (n:=(p.bj.length:Int)-k) om om,ic (n:=(p.bj.length:Int)-k-1) om om,ic (n:=2*((p.bj.length:Int)-k-1)) om om,ic om om];omega
  refine⟨?_,?_⟩
  .show((af (((dU p).take (2*k+1)).map dA.enc)).length+2)*32<=_;simp[af];omega
  refine⟨k+1,aD,(show p.bj.length-(k+1)<p.bj.length-k by omega),View.o 5 [0,4] [] ?_ ?_⟩
  .repeat(first|exact .nil|refine .ap ?_|refine .put (.aU (aN om).symm) ?_|refine .eq rfl ?_)
  .refine .pe rfl rfl rfl (.pt rfl rfl (.bI ?_) (.nil _));show af (((dU p).take (2*k+1)).map dA.enc)++ [[CC.aa (.val (.int .i64 1)),.aa (.val (.int .i64 0)),.aa (.val (.int .i64 0)),.aa (.val (.int .i64 mk.w))],[.aa (.val (.int .i64 4)),.aa (.val (.int .i64 (IntKind.i64.wrap (IntKind.i64.wrap (2*IntKind.i64.wrap (IntKind.i64.wrap ((((p.bj.map li.enc).length:Nat):Int)-(k:Int))-1))+1)))),.aa (.val (.int .i64 0)),.aa (.val (.int .i64 mk.bits))]]=_;rw[hw,hT,abw,pU];rfl
 .have AF:k=p.bj.length:=by have h:¬(k:Int)<(p.bj.length:Int):=h;omega
  subst AF;refine⟨?_,?_⟩
  .show((af (((dU p).take (2*p.bj.length+1)).map dA.enc)).length+2)*32<=_;simp[af];omega
  have ei:some (Bk.row 4 (af (((dU p).take (2*p.bj.length+1)).map dA.enc)++ [[CC.aa (.val (.int .i64 6)),.aa (.val (.int .i64 0)),.aa (.val (.int .i64 0)),.aa (.val (.int .i64 1))],[.aa (.val (.int .i64 6)),.aa (.val (.int .i64 0)),.aa (.val (.int .i64 0)),.aa (.val (.int .i64 0))]]))=some (Bk.row 4 (af ((dU p).map dA.enc))):=by
   conv=>rhs;rw[NW p,abw,pU]
   rfl
  exact .rv (.one (eT.eU ei 0 none))
theorem NX(p:cR)(hm:p.bj.length<=1000){m:Mem}{K:CV->Mem->Prop}(h:K (sr (dU p)) m):aq prog 52 [p.cv] m K:=
 bg (aY func52 l52 (Gj p hm)) (by simp[cR.cv,CV.du,CC.du,RV.du]) λr m1 hf=>⟨_,hf,h⟩
theorem qM{n:Nat}{l:List cR}(hg:∀p,p∈l->p.bj.length<=3)(hl:l.length<=30)(hn:l.length<=n):(c6 n l).length<=330:=by
 have h2:=po n l hg hn;by_cases e:l=[]
 .have:=h2.1 e;omega
 .have:=h2.2 e;omega
theorem HL:∀(n:Nat)(l:List cR),l.length<=n->l.length<=30->(∀p,p∈l->p.bj.length<=3)->∀{m:Mem}{K:CV->Mem->Prop},K (sr (c6 n l)) m->aq prog 27 [eJ l] m K:=by
 intro n
 induction n with
 |zero=>
  intro l hl _ _ m K h;have:l=[]:=aag om;subst this;refine bg (K0:=λr m=>cQ m r (sr (c6 0 []))) (b8 func27 l27 ?_) (by simp[eJ,CV.du,CC.du]) λr m1 hf=>⟨_,hf,h⟩
  exact .rv (.one (eT.eU rfl 0 none))
 |succ n ih=>
  intro l hl afc hg m K h;refine bg (K0:=λr m=>cQ m r (sr (c6 (n+1) l))) (b8 func27 l27 ?_) (by simp[eJ,CV.du,CC.du]) λr m1 hf=>⟨_,hf,h⟩
  refine bp (λh0=>?_) (λh0=>?_)
  .have h0:l=[]:=by have h0:(((l.map cR.enc).length:Nat):Int)=0:=h0;rw[ML]at h0;exact aag om
   subst h0;exact .rv (.one (eT.eU rfl 0 none))
  have h0:l.length≠0:=by have h0:(((l.map cR.enc).length:Nat):Int)≠0:=h0;rw[ML]at h0;omega
  refine bp (λh1=>?_) (λh1=>?_)
  .have h1:l.length=1:=by have h1:(((l.map cR.enc).length:Nat):Int)=1:=h1;rw[ML]at h1;omega
   match l,h1 with
   | [p],_=>
    refine NX p (by have:=hg p (by simp);omega) ?_
    exact cQ.self rfl
  have h2:2<=l.length:=by have h1:(((l.map cR.enc).length:Nat):Int)≠1:=h1;rw[ML]at h1;omega
  have hq:IntKind.i64.wrap ((((l.map cR.enc).length:Nat):Int).tdiv 2)=((l.length/2:Nat):Int):=by rw[ML,show(2:Int)=((2:Nat):Int)from rfl,<-Int.ofNat_tdiv,ic om om]
  refine gj [0] [(3,an .i64 ((l.length/2:Nat):Int))] [] (View.o 0 [] [] ?_ (.nil _)) ?_
  .repeat(first|exact .nil|refine .ap ?_|refine .eq rfl ?_|refine .put (.aU (congrArg (an .i64) hq).symm) ?_)
  have hk:l.length/2<l.length:=om;have b1:(Nat.ble 0 (l.length/2)&&Nat.ble (l.length/2) (l.map cR.enc).length)=true:=by rw[aab,abn,abn,ML];omega
  have b2:(Nat.ble (l.length/2) (l.map cR.enc).length&&Nat.ble (l.map cR.enc).length (l.map cR.enc).length)=true:=by rw[aab,abn,abn,ML];omega
  have e1:((l.map cR.enc).take (l.length/2)).drop 0=(l.take (l.length/2)).map cR.enc:=by rw[acI,aci]
  have e2:((l.map cR.enc).take (l.map cR.enc).length).drop (l.length/2)=(l.drop (l.length/2)).map cR.enc:=by rw[abe,ac9]
  refine cA b1 ?_;refine cA b2 ?_;show aq prog 27 [.rv (.one (.aa (.sl 2 (((l.map cR.enc).take (l.length/2)).drop 0))))] _ _;rw[e1];refine ih (l.take (l.length/2)) (by rw[aan];omega) (by rw[aan];omega) (λp hp=>hg p (abq hp)) ?_
  refine⟨⟨cA b2 rfl,trivial⟩,?_⟩;show aq prog 27 [.rv (.one (.aa (.sl 2 (((l.map cR.enc).take (l.map cR.enc).length).drop (l.length/2)))))] _ _;rw[e2];refine ih (l.drop (l.length/2)) (by rw[abz];omega) (by rw[abz];omega) (λp hp=>hg p (ab3 hp)) ?_
  refine⟨trivial,?_⟩;have hgt:dx (l.map cR.enc) ((l.length/2:Nat):Int)=some (l[l.length/2].enc):=by rw[bA,RA,uX hk];rfl
  have rQ:ym l=(l[l.length/2]).call:=by rw[ym,uX hk]
  refine ag hgt ?_;have t1:=qM (n:=n) (l:=l.take (l.length/2)) (λp hp=>hg p (abq hp)) (by rw[aan];omega) (by rw[aan];omega)
  have t2:=qM (n:=n) (l:=l.drop (l.length/2)) (λp hp=>hg p (ab3 hp)) (by rw[abz];omega) (by rw[abz];omega)
  have LA:=m4 (n:=n) h2;generalize c6 n (l.take (l.length/2))=lo at t1 LA;generalize c6 n (l.drop (l.length/2))=hi at t2 LA;refine⟨?_,?_⟩
  .show(2+((lo.map dA.enc).map λds=>ds.map CC.aa).length)*32<=_
   simp;omega
  refine⟨?_,?_⟩
  .show(([[CC.aa (.val (.int .i64 3)),.aa (.val (.int .i64 0)),.aa (.val (.int .i64 1)),.aa (.val (.int .i64 (l[l.length/2]).call))],[.aa (.val (.int .i64 5)),.aa (.val (.int .i64 0)),.aa (.val (.int .i64 0)),.aa (.val (.int .i64 (((lo.map dA.enc).length:Nat):Int)))]]++((lo.map dA.enc).map λds=>ds.map CC.aa)).length+((hi.map dA.enc).map λds=>ds.map CC.aa).length)*32<=_
   simp;omega
  have ei:some (Bk.row 4 (([[CC.aa (.val (.int .i64 3)),.aa (.val (.int .i64 0)),.aa (.val (.int .i64 1)),.aa (.val (.int .i64 (l[l.length/2]).call))],[.aa (.val (.int .i64 5)),.aa (.val (.int .i64 0)),.aa (.val (.int .i64 0)),.aa (.val (.int .i64 (((lo.map dA.enc).length:Nat):Int)))]]++((lo.map dA.enc).map λds=>ds.map CC.aa))++((hi.map dA.enc).map λds=>ds.map CC.aa)))=some (Bk.row 4 (((c6 (n+1) l).map dA.enc).map λds=>ds.map CC.aa)):=by rw[LA,ML,rQ];simp[dA.enc]
  exact .rv (.one (eT.eU ei 0 none))
def Tryz.DA:Go.Shelf.Ren:=⟨λ|6=>24|15=>50|14=>49|28=>93|29=>94|20=>85|21=>86|22=>87|23=>88|24=>89|25=>90|26=>91|27=>92|46=>122|47=>123|48=>124|49=>125|50=>126|57=>144|n=>n,λ|22=>38|24=>75|25=>96|3=>3|39=>127|0=>0|53=>187|55=>189|4=>4|46=>181|45=>180|50=>50|5=>5|9=>9|66=>233|70=>237|76=>250|77=>102|n=>n,λ|n=>n⟩
theorem Tryz.Ql:Go.Proofs.SlLaysF0.n6 prog Tryz.DA:={
 mixed:=by kernel_rfl,
 f6:=⟨ "slices.SortFunc[[]ringfence/api.Policy,ringfence/api.Policy]",by decide,func24.trans (congrArg some (by kernel_rfl))⟩,
 f14:=⟨ "slices.pdqsortCmpFunc[ringfence/api.Policy]",by decide,func49.trans (congrArg some (by kernel_rfl))⟩,
 f15:=func50.trans (congrArg some (by kernel_rfl)),
 f20:=⟨ "slices.insertionSortCmpFunc[ringfence/api.Policy]",by decide,func85.trans (congrArg some (by kernel_rfl))⟩,
 f21:=⟨ "slices.heapSortCmpFunc[ringfence/api.Policy]",by decide,func86.trans (congrArg some (by kernel_rfl))⟩,
 f22:=⟨ "slices.breakPatternsCmpFunc[ringfence/api.Policy]",by decide,func87.trans (congrArg some (by kernel_rfl))⟩,
 f23:=⟨ "slices.choosePivotCmpFunc[ringfence/api.Policy]",by decide,func88.trans (congrArg some (by kernel_rfl))⟩,
 f24:=⟨ "slices.reverseRangeCmpFunc[ringfence/api.Policy]",by decide,func89.trans (congrArg some (by kernel_rfl))⟩,
 f25:=⟨ "slices.partialInsertionSortCmpFunc[ringfence/api.Policy]",by decide,func90.trans (congrArg some (by kernel_rfl))⟩,
 f26:=⟨ "slices.partitionEqualCmpFunc[ringfence/api.Policy]",by decide,func91.trans (congrArg some (by kernel_rfl))⟩,
 f27:=⟨ "slices.partitionCmpFunc[ringfence/api.Policy]",by decide,func92.trans (congrArg some (by kernel_rfl))⟩,
 f28:=func93.trans (congrArg some (by kernel_rfl)),
 f29:=func94.trans (congrArg some (by kernel_rfl)),
 f46:=⟨ "slices.siftDownCmpFunc[ringfence/api.Policy]",by decide,func122.trans (congrArg some (by kernel_rfl))⟩,
 f47:=func123.trans (congrArg some (by kernel_rfl)),
 f48:=func124.trans (congrArg some (by kernel_rfl)),
 f49:=⟨ "slices.medianAdjacentCmpFunc[ringfence/api.Policy]",by decide,func125.trans (congrArg some (by kernel_rfl))⟩,
 f50:=⟨ "slices.medianCmpFunc[ringfence/api.Policy]",by decide,func126.trans (congrArg some (by kernel_rfl))⟩,
 f57:=⟨ "slices.order2CmpFunc[ringfence/api.Policy]",by decide,func144.trans (congrArg some (by kernel_rfl))⟩,
 t0:=underlying0,
 a0:=isAgg0,
 z0:=sizeOf0,
 v0:=zeroValue0,
 t3:=underlying3,
 a3:=isAgg3,
 z3:=sizeOf3,
 v3:=zeroValue3,
 t4:=underlying4,
 a4:=isAgg4,
 z4:=sizeOf4,
 v4:=zeroValue4,
 t5:=underlying5,
 a5:=isAgg5,
 z5:=sizeOf5,
 v5:=zeroValue5,
 t9:=underlying9,
 a9:=isAgg9,
 z9:=sizeOf9,
 v9:=zeroValue9,
 t22:=underlying38,
 a22:=isAgg38,
 z22:=sizeOf38,
 v22:=zeroValue38,
 t25:=underlying96,
 a25:=isAgg96,
 z25:=sizeOf96,
 v25:=zeroValue96,
 t39:=underlying127,
 a39:=isAgg127,
 z39:=sizeOf127,
 v39:=zeroValue127,
 t45:=underlying180,
 a45:=isAgg180,
 z45:=sizeOf180,
 v45:=zeroValue180,
 t46:=underlying181,
 a46:=isAgg181,
 z46:=sizeOf181,
 v46:=zeroValue181,
 t50:=underlying50,
 a50:=isAgg50,
 z50:=sizeOf50,
 v50:=zeroValue50,
 t53:=underlying187,
 a53:=isAgg187,
 z53:=sizeOf187,
 v53:=zeroValue187,
 t55:=underlying189,
 a55:=isAgg189,
 z55:=sizeOf189,
 v55:=zeroValue189,
 t66:=underlying233,
 a66:=isAgg233,
 z66:=sizeOf233,
 v66:=zeroValue233,
 t70:=underlying237,
 a70:=isAgg237,
 z70:=sizeOf237,
 v70:=zeroValue237,
 t76:=underlying250,
 a76:=isAgg250,
 z76:=sizeOf250,
 v76:=zeroValue250,
 t77:=underlying102,
 a77:=isAgg102,
 z77:=sizeOf102,
 v77:=zeroValue102}
def Tryz.Gk:Go.Shelf.Ren:=⟨λ|5=>26|7=>51|n=>n,λ|22=>3|3=>3|4=>4|n=>n,λ|n=>n⟩
theorem Tryz.TT:Go.Proofs.SlLaysC2.n5 prog Tryz.Gk:={
 mixed:=by kernel_rfl,
 f5:=⟨ "cmp.Compare[int]",by decide,func26.trans (congrArg some (by kernel_rfl))⟩,
 f7:=⟨ "cmp.isNaN[int]",by decide,func51.trans (congrArg some (by kernel_rfl))⟩,
 t3:=underlying3,
 a3:=isAgg3,
 z3:=sizeOf3,
 v3:=zeroValue3,
 t4:=underlying4,
 a4:=isAgg4,
 z4:=sizeOf4,
 v4:=zeroValue4,
 t22:=underlying3,
 a22:=isAgg3,
 z22:=sizeOf3,
 v22:=zeroValue3}
open Go.Shelf Go.Lib Go.Sort in
def Ym(x:cR×(Option Addr×Nat×Nat)):List Value:=[.int .i64 x.1.call,.slice x.2.1 x.2.2.1 x.2.2.2]
instance Yn:Inhabited cR:=⟨⟨0,[]⟩⟩
open Go.Shelf Go.Lib Go.Sort in
theorem NY(a b:Int)(s1 s2:Option Addr)(n1 n2 k1 k2:Nat)(W:World):Calls prog 25 #[.agg #[.int .i64 a,.slice s1 n1 k1],.agg #[.int .i64 b,.slice s2 n2 k2]] W λe w'=>e= .returned (.int .i64 (Lib.compareInt a b))/\∃q os',w'=Sort.grow (W.drewN q) os':=by
 have hcon:=λW'=>AnyG.cmp_Compare_int Tryz.TT a b W'
 change ∀W',Calls prog 26 _ _ _ at hcon;generalize Lib.compareInt a b=r at hcon|-
 go_enter func25,ntmps25
 go_wp2_with (go_at_call 26;refine(hcon _).mono ?_;rintro e w' ⟨rfl,rfl⟩)
 go_ret
 exact⟨rfl,0,_,by rw[Sort.alloc_eq_grow,Sort.alloc_eq_grow,Sort.grow_grow];rfl⟩
open Go.Shelf Go.Lib Go.Sort in
theorem Qm(x y:cR×(Option Addr×Nat×Nat)):ltOf (λx y:cR×(Option Addr×Nat×Nat)=>Lib.compareInt x.1.call y.1.call) x y=decide (x.1.call<y.1.call):=by
 unfold ltOf Lib.compareInt;by_cases h1:x.1.call<y.1.call
 .simp[h1]
 .by_cases h2:y.1.call<x.1.call<;>simp[h1,h2]
open Go.Shelf Go.Lib Go.Sort in
theorem aa7:SWO (ltOf λx y:cR×(Option Addr×Nat×Nat)=>Lib.compareInt x.1.call y.1.call) where
 irrefl x:=by rw[Qm];simp
 trans x y z h1 h2:=by rw[Qm]at*;simp at*;omega
 ntrans x y z h1 h2:=by rw[Qm]at*;simp at*;omega
open Go.Shelf Go.Lib Go.Sort in
theorem NZ(l:List cR)(hne:l≠[])(hl:l.length<=4194304){m:Mem}{id:Nat}(hb:cD m id=some (.row 2 (af (l.map cR.enc)))){K:CV->Mem->Prop}(h:∀l':List cR,l'.Perm l->l'.Pairwise (λa b=>¬b.call<a.call)->K (.bz []) (aW m id (.row 2 (af (l'.map cR.enc))))):aq prog 24 [.rv (.one (.row id 2 0 none)),.rv (.one (.fn 25 []))] m K:=by
 refine⟨⟨Tryz.f24,func24,rfl,by decide⟩,λU w vs hM hvl hd=>?_⟩
 obtain⟨v0,h0,d0⟩:=hd 0 _ rfl;obtain⟨v1,h1,d1⟩:=hd 1 _ rfl;have hvs:vs=[v0,v1]:=by
  match vs,hvl with
  | [a,b],_=>simp at h0 h1;rw[h0,h1]
 rw[aT]at hb;obtain⟨hid,_,_,hlc,hcm,a,hv0,ha⟩:=(show bh U w none (.row id 2 0 none) v0 from d0);obtain⟨_,hv1⟩:=(show bh U w none (.fn 25 []) v1 from d1);obtain⟨hln,_,_,hsz,hcu⟩:=hM.bk id _ hb;have hlen:(U.aH (.al id)).len=l.length:=by rw[<-hln];simp[af]
 have hpos:0<l.length:=ac1.2 hne;have hcap:0<(U.aH (.al id)).cap:=om;obtain⟨cur,hcur,hcsz,hcells⟩:=hcu hcap;have ha:=ha hcap;have hel:∀i(hi:i<l.length),∃x:Option Addr×Nat×Nat,cur[(U.aH (.al id)).ar+i*2+0]? =some (.int .i64 l[i].call)/\cur[(U.aH (.al id)).ar+i*2+1]? =some (.slice x.1 x.2.1 x.2.2)/\
   c7 U.S w (.sl 2 (l[i].bj.map li.enc)) (.slice x.1 x.2.1 x.2.2):=by
  intro i hi;have hri:(af (l.map cR.enc))[i]? =some (l[i].enc.map .aa):=by simp[af,hi]
  obtain⟨u,hu,hdu⟩:=hcells i _ 0 _ hri rfl;obtain⟨u1,hu1,hdu1⟩:=hcells i _ 1 _ hri rfl;have e0:u= .int .i64 l[i].call:=by
   have hdu:c7 U.S w (.val (.int .i64 l[i].call)) u:=hdu;cases hdu with
   |val _ _=>rfl
  have hdu1:c7 U.S w (.sl 2 (l[i].bj.map li.enc)) u1:=hdu1;obtain⟨b,n,c,e1⟩:∃b n c,u1=Value.slice b n c:=by
   generalize l[i].bj.map li.enc=E at hdu1;cases hdu1 with
   |nil _ b c _=>exact⟨_,_,_,rfl⟩
   |sl _ _ b off c u _ _ _ _ _ _=>exact⟨_,_,_,rfl⟩
  subst e0 e1;exact⟨(b,n,c),hu,hu1,hdu1⟩
 obtain⟨X,hX⟩:∃X:Nat->Option Addr×Nat×Nat,∀i(hi:i<l.length),cur[(U.aH (.al id)).ar+i*2+0]? =some (.int .i64 l[i].call)/\cur[(U.aH (.al id)).ar+i*2+1]? =some (.slice (X i).1 (X i).2.1 (X i).2.2)/\
   c7 U.S w (.sl 2 (l[i].bj.map li.enc)) (.slice (X i).1 (X i).2.1 (X i).2.2):=
  ⟨λi=>if hi:i<l.length then Classical.choose (hel i hi)else(none,0,0),λi hi=>by have:=Classical.choose_spec (hel i hi);simp only[dif_pos hi];exact this⟩
 obtain⟨d,hdd⟩:∃d:Array (cR×(Option Addr×Nat×Nat)),d=(l.zipIdx.map λp=>(p.1,X p.2)).toArray:=⟨_,rfl⟩
 have hds:d.size=l.length:=by simp[hdd]
 have hdg:∀i(hi:i<l.length),d[i]! =(l[i],X i):=by intro i hi;rw[getElem!_pos d i om];simp[hdd]
 have hdl:d.toList.map Prod.fst=l:=by rw[hdd,List.toList_toArray,abM];exact List.zipIdx_map_fst 0 l
 have hH:HoldsK Ym 2 w (U.aH (.al id)).b (U.aH (.al id)).ar d:=by
  intro j hj;rw[size_flatK,hds]at hj;have hi:j/2<l.length:=om;obtain⟨g0,g1,_⟩:=hX (j/2) hi;have hc:l.length*2<=(U.aH (.al id)).cap*2:=om;rw[hcur.cell,get_flatK _ _ _ _ (by rw[hds];exact hj),hdg _ hi]
  refine⟨?_,hcur.pW om⟩;rcases Nat.mod_two_eq_zero_or_one j with e|e
  .rw[e,show(U.aH (.al id)).ar+j=(U.aH (.al id)).ar+j/2*2+0 by omega,g0];rfl
  .rw[e,show(U.aH (.al id)).ar+j=(U.aH (.al id)).ar+j/2*2+1 by omega,g1];rfl
 have eg:∀args w,(callFunc 25 args).run prog w= .ok (.enter 25 args) w:=enters_of func25 (by kernel_rfl) rfl
 have hblk:(U.aH (.al id)).b<w.heap.size:=hcur.lt;have hcon:=AnyQ.slices_SortFunc Tryz.Ql 2 isAgg75 sizeOf75 Ym (λ_=>rfl) (λx v hv=>by simp[Ym]at hv;rcases hv with rfl|rfl<;>rfl) (λx y=>Lib.compareInt x.1.call y.1.call) aa7 25 #[] (U.aH (.al id)).b (U.aH (.al id)).ar (U.aH (.al id)).cap d w eg
  (λ_ _ _ _ x y=>NY x.1.call y.1.call x.2.1 y.2.1 x.2.2.1 y.2.2.1 x.2.2.2 y.2.2.2 _) hH hblk om
 change Calls prog 24 _ _ _ at hcon;have hargs:vs.toArray= #[.slice (some ⟨(U.aH (.al id)).b,(U.aH (.al id)).ar,none⟩) d.size (U.aH (.al id)).cap,.func (.func 25) #[] #[]]:=by rw[hvs,hv0,hv1,ha,hds,<-hlen];simp
 rw[hargs];refine hcon.mono ?_;rintro e w' ⟨rfl,d',n,os,hp,hs,rfl⟩;obtain⟨hp1,_,hp2⟩:=hp;have hp2:d'.toList.Perm d.toList:=by
  have e1:d'.extract 0 d.size=d':=by rw[<-hp1];simp
  have e2:d.extract 0 d.size=d:=aC;rw[e1,e2]at hp2;exact hp2
 have hperm:(d'.toList.map Prod.fst).Perm l:=by have:=hp2.map Prod.fst;rwa [hdl]at this
 have hll:(d'.toList.map Prod.fst).length=l.length:=hperm.length_eq;have hsort:(d'.toList.map Prod.fst).Pairwise (λa b=>¬b.call<a.call):=by
  rw[abR];intro i j hi hj hij;have hj2:j<d'.size:=by simpa using hj
  have:=hs i j (aaj _) hij om;rw[Qm,getElem!_pos d' i om,getElem!_pos d' j hj2]at this;simpa using this
 have hmem:∀i,i<d'.size->∃k,∃hk:k<l.length,d'[i]! =(l[k],X k):=by
  intro i hi;have:d'[i]! ∈d.toList:=by rw[<-hp2.mem_iff,getElem!_pos d' i hi];exact acW.2 (Array.getElem_mem hi)
  obtain⟨k,hk⟩:=Xt this;obtain⟨hk1,hk2⟩:=I4.1 hk;have hk1:k<d.size:=by simpa using hk1
  refine⟨k,om,?_⟩;rw[<-hdg k om,getElem!_pos d k hk1,<-hk2];simp
 have hb2:=hb;obtain⟨hM',hX'⟩:=IC (mD:=af ((d'.toList.map Prod.fst).map cR.enc)) (F:=flatK Ym 2 d') hM hb (by simpa[af]using hpos) (by simp[af];omega) (λcs hcs=>by
   simp only[af,aak]at hcs;obtain⟨x,⟨p,_,rfl⟩,rfl⟩:=hcs;rfl) (by rw[size_flatK];simp[af];omega) (λcs hcs c hc=>by
   simp only[af,aak]at hcs;obtain⟨x,_,rfl⟩:=hcs;obtain⟨d,_,rfl⟩:=aak.1 hc;exact⟨d,rfl⟩) (λi cs j c hi hj=>by
   simp only[af,RA]at hi;cases ho:d'.toList[i]? with
   |none=>rw[ho]at hi;simp at hi
   |some y=>
    rw[ho]at hi;simp only[aaz,aam]at hi;subst hi;have hid':i<d'.size:=by have:=(I4.1 ho).1;simpa using this
    have hy:d'[i]! =y:=by rw[getElem!_pos d' i hid'];have:=(I4.1 ho).2;simpa using this
    obtain⟨k,hk,hyk⟩:=hmem i hid';rw[hy]at hyk;subst hyk;have hj2:j<2:=by have:=(I4.1 hj).1;simpa[cR.enc]using this
    rw[get_flatK _ _ _ _ om,show(i*2+j)/2=i by omega,show(i*2+j)%2=j by omega,hy]
    match j,hj2,hj with
    |0,_,hj=>cases hj;exact c7.val _ rfl
    |1,_,hj=>cases hj;exact(hX k hk).2.2) n os
 rw[<-a8]at hM' hX';exact⟨_,.bz [],_,U,rfl,h _ hperm hsort,hM',⟨[],rfl,rfl,aC⟩,hX'⟩
def c17:LF:= ⟨22,[.tmp 2,.cell true 2 3],(.seq (.ai [qu 2 (.aK qe),qu 3 (.alloc [qd 0,qd 0])]) (.seq (.seq (.ai [qm 6 0,qu 7 (qc 22 [6]),qu 4 (.alloc [qd 0,qd 0]),qw (.store 2 4 7)]) (.seq (.ai [qf 8 0 4,ql 9 8,qu 10 (.aJ .neq 9 (qi 0))]) (.cond 10 (.seq (.bR [qL 11 2 4,qu 2 (.aK qe),qw (.store 2 3 11)] [(.cons 0 none (.cons 1 none (.cons 2 (some []) .nil)))]) .ret) .skip))) (.seq (.ai [qm 12 0,qu 13 (qc 23 [12]),qm 5 13]) (.seq (.ai [qm 14 5,qu 15 (qc 24 [14,(.c (.rv (.one (.fn 25 []))))])]) (.seq (.ai [qu 16 (.build [qd 0,qd 0,qd 0,qd 0] [(0,1,qi 1)]),qu 17 (.nC 4 [qd 0,qd 0,qd 0,qd 0] 1 [(0,16)]),qm 18 5,qu 19 (qc 27 [18]),qu 20 (.oZ 4 32 17 19),qu 21 (.build [qd 0,qd 0] []),qm 2 20,qw (.store 2 3 21)]) .ret)))))⟩
def c23:LF:= ⟨8,[.tmp 2],(.seq (.ai [qu 2 (.aK qe)]) (.seq (.seq (.ai [qm 3 0,qu 4 (.xW false 3)]) (.cond 4 (.seq (.ai [qu 2 (.aK qe)]) .ret) .skip)) (.seq (.ai [qu 5 (.nC 2 [qd 0,.aO] 0 []),qm 6 0,qu 7 (.oZ 2 32 5 6),qm 2 7]) .ret)))⟩
def c24:LF:= ⟨14,[],(.seq (.ai [qm 5 0,qu 6 (.len 1 5),qm 4 6]) (.ai [qm 7 0,qm 8 4,qm 9 4,qu 10 (.conv .u64 9),qu 11 (qc 50 [10]),qm 12 1,qu 13 (qc 49 [7,qi 0,8,11,12])]))⟩
def c49:LF:= ⟨148,[],(.seq (.ai [qu 10 (.aK (qb true))]) (.seq (.ai [qu 11 (.aK (qb true))]) (.block 0 (.loop (.block 1 (.seq (.ai [qm 21 2,qm 22 1,qu 23 (.aJ .sub 21 22),qm 12 23]) (.seq (.seq (.ai [qm 24 12,qu 25 (.aJ .leq 24 (qi 12))]) (.cond 25 (.seq (.ai [qm 26 0,qm 27 1,qm 28 2,qm 29 4,qu 30 (qc 85 [26,27,28,29])]) .ret) .skip)) (.seq (.seq (.ai [qm 31 3,qu 32 (.aJ .eql 31 (qi 0))]) (.cond 32 (.seq (.ai [qm 33 0,qm 34 1,qm 35 2,qm 36 4,qu 37 (qc 86 [33,34,35,36])]) .ret) .skip)) (.seq (.seq (.ai [qm 38 10,qu 39 (.un .not 38)]) (.cond 39 (.seq (.ai [qm 40 0,qm 41 1,qm 42 2,qm 43 4,qu 44 (qc 87 [40,41,42,43])]) (.ai [qm 45 3,qu 46 (.aJ .sub 45 (qi 1)),qm 3 46])) .skip)) (.seq (.ai [qm 48 0,qm 49 1,qm 50 2,qm 51 4,qu 52 (qc 88 [48,49,50,51]),qm 47 52,qu 53 (.ext 47 0),qu 54 (.ext 47 1),qm 13 53,qm 14 54]) (.seq (.seq (.ai [qm 55 14,qu 56 (.aJ .eql 55 (qi 2))]) (.cond 56 (.seq (.ai [qm 57 0,qm 58 1,qm 59 2,qm 60 4,qu 61 (qc 89 [57,58,59,60])]) (.seq (.ai [qm 62 2,qu 63 (.aJ .sub 62 (qi 1)),qm 64 13,qm 65 1,qu 66 (.aJ .sub 64 65),qu 67 (.aJ .sub 63 66),qm 13 67]) (.ai [qu 14 (.aK (qi 1))]))) .skip)) (.seq (.seq (.ai [qm 68 10,qm 69 68,qg 70 (.aK 11) 69 true,qu 71 (.pick 69 70 (qb false)),qm 72 71,qg 73 (.aK 14) 72 true,qg 74 (.aJ .eql 73 (qi 1)) 72 true,qu 75 (.pick 72 74 (qb false))]) (.cond 75 (.seq (.ai [qm 76 0,qm 77 1,qm 78 2,qm 79 4,qu 80 (qc 90 [76,77,78,79])]) (.cond 80 .ret .skip)) .skip)) (.seq (.seq (.bR [qm 81 1,qu 82 (.aJ .gtr 81 (qi 0)),qm 83 82,qg 84 (.aK 4) 83 true,qg 85 (.aK 0) 83 true,qg 86 (.aK 1) 83 true,qg 87 (.aJ .sub 86 (qi 1)) 83 true,qg 88 (.cw 2 85 87) 83 true,qg 89 (.load true 2 88) 83 true,qg 90 (.aK 0) 83 true,qg 91 (.aK 13) 83 true,qg 92 (.cw 2 90 91) 83 true,qg 93 (.load true 2 92) 83 true,qg 94 (.call 84 [89,93]) 83 true,qg 95 (.aJ .lss 94 (qi 0)) 83 true,qg 96 (.un .not 95) 83 true,qu 97 (.pick 83 96 (qb false))] [(.cons 0 none (.cons 1 none (.cons 2 none (.cons 3 none (.cons 4 none (.cons 5 none (.cons 6 none (.cons 7 none (.cons 8 none (.cons 9 none (.cons 10 none (.cons 11 none (.cons 12 none (.cons 13 (some []) (.cons 14 none (.cons 15 none (.cons 16 none .nil)))))))))))))))))]) (.cond 97 (.seq (.ai [qm 98 0,qm 99 1,qm 100 2,qm 101 13,qm 102 4,qu 103 (qc 91 [98,99,100,101,102]),qm 15 103]) (.seq (.ai [qm 104 15,qm 1 104]) (.exit 1))) .skip)) (.seq (.ai [qm 106 0,qm 107 1,qm 108 2,qm 109 13,qm 110 4,qu 111 (qc 92 [106,107,108,109,110]),qm 105 111,qu 112 (.ext 105 0),qu 113 (.ext 105 1),qm 16 112,qm 17 113]) (.seq (.ai [qm 114 17,qm 11 114]) (.seq (.ai [qm 115 16,qm 116 1,qu 117 (.aJ .sub 115 116),qm 118 2,qm 119 16,qu 120 (.aJ .sub 118 119),qm 18 117,qm 19 120]) (.seq (.ai [qm 121 12,qu 122 (.aJ .quo 121 (qi 8)),qm 20 122]) (.seq (.ai [qm 123 18,qm 124 19,qu 125 (.aJ .lss 123 124)]) (.cond 125 (.seq (.ai [qm 126 18,qm 127 20,qu 128 (.aJ .geq 126 127),qm 10 128]) (.seq (.ai [qm 129 0,qm 130 1,qm 131 16,qm 132 3,qm 133 4,qu 134 (qc 49 [129,130,131,132,133])]) (.ai [qm 135 16,qu 136 (.aJ .add 135 (qi 1)),qm 1 136]))) (.seq (.ai [qm 137 19,qm 138 20,qu 139 (.aJ .geq 137 138),qm 10 139]) (.seq (.ai [qm 140 0,qm 141 16,qu 142 (.aJ .add 141 (qi 1)),qm 143 2,qm 144 3,qm 145 4,qu 146 (qc 49 [140,142,143,144,145])]) (.ai [qm 147 16,qm 2 147]))))))))))))))))))))))⟩
def c50:LF:= ⟨8,[.tmp 2],(.seq (.ai [qu 2 (.aK (qi 0))]) (.seq (.cond (qb false) (.seq (.ai [qm 3 0,qu 4 (.conv .u32 3),qu 5 (qc 93 [4]),qm 2 5]) .ret) .skip) (.seq (.ai [qm 6 0,qu 7 (qc 94 [6]),qm 2 7]) .ret)))⟩
def c85:LF:= ⟨53,[],(.seq (.ai [qm 10 1,qu 11 (.aJ .add 10 (qi 1)),qm 8 11]) (.block 0 (.loop (.seq (.seq (.ai [qm 12 8,qm 13 2,qu 14 (.aJ .lss 12 13)]) (.cond 14 .skip (.exit 0))) (.seq (.block 1 (.seq (.ai [qm 17 8,qm 9 17]) (.block 2 (.loop (.seq (.seq (.bR [qm 18 9,qm 19 1,qu 20 (.aJ .gtr 18 19),qm 21 20,qg 22 (.aK 3) 21 true,qg 23 (.aK 0) 21 true,qg 24 (.aK 9) 21 true,qg 25 (.cw 2 23 24) 21 true,qg 26 (.load true 2 25) 21 true,qg 27 (.aK 0) 21 true,qg 28 (.aK 9) 21 true,qg 29 (.aJ .sub 28 (qi 1)) 21 true,qg 30 (.cw 2 27 29) 21 true,qg 31 (.load true 2 30) 21 true,qg 32 (.call 22 [26,31]) 21 true,qg 33 (.aJ .lss 32 (qi 0)) 21 true,qu 34 (.pick 21 33 (qb false))] [(.cons 0 none (.cons 1 none (.cons 2 none (.cons 3 none (.cons 4 none (.cons 5 none (.cons 6 none (.cons 7 none (.cons 8 none (.cons 9 none (.cons 10 none (.cons 11 none (.cons 12 none (.cons 13 none (.cons 14 (some []) (.cons 15 none (.cons 16 none .nil)))))))))))))))))]) (.cond 34 .skip (.exit 2))) (.seq (.block 3 (.bR [qm 37 0,qm 38 9,qm 39 0,qm 40 9,qu 41 (.aJ .sub 40 (qi 1)),qm 42 0,qm 43 9,qu 44 (.aJ .sub 43 (qi 1)),qu 45 (.cw 2 42 44),qL 46 2 45,qm 47 0,qm 48 9,qu 49 (.cw 2 47 48),qL 50 2 49,qu 51 (.cw 2 37 38),qw (.store 2 51 46),qu 52 (.cw 2 39 41),qw (.store 2 52 50)] [(.cons 0 none (.cons 1 none (.cons 2 none (.cons 3 none (.cons 4 none (.cons 5 none (.cons 6 none (.cons 7 none (.cons 8 none (.cons 9 none (.cons 10 none (.cons 11 none (.cons 12 none (.cons 13 none (.cons 14 none (.cons 15 (some []) (.cons 16 none (.cons 17 (some []) .nil))))))))))))))))))])) (.ai [qm 35 9,qu 36 (.aJ .sub 35 (qi 1)),qm 9 36]))))))) (.ai [qm 15 8,qu 16 (.aJ .add 15 (qi 1)),qm 8 16]))))))⟩
def c94:LF:= ⟨25,[.tmp 2],(.seq (.ai [qu 2 (.aK (qi 0))]) (.seq (.seq (.ai [qm 3 0,qu 4 (.aJ .geq 3 (.c (.rv (.one (.aa (.val (.int .u64 (4294967296))))))))]) (.cond 4 (.seq (.ai [qm 5 0,qu 6 (.aJ .shr 5 (.c (.rv (.one (.aa (.val (.int .u64 (32)))))))),qm 0 6]) (.ai [qu 2 (.aK (qi 32))])) .skip)) (.seq (.seq (.ai [qm 7 0,qu 8 (.aJ .geq 7 (.c (.rv (.one (.aa (.val (.int .u64 (65536))))))))]) (.cond 8 (.seq (.ai [qm 9 0,qu 10 (.aJ .shr 9 (.c (.rv (.one (.aa (.val (.int .u64 (16)))))))),qm 0 10]) (.ai [qm 11 2,qu 12 (.aJ .add 11 (qi 16)),qm 2 12])) .skip)) (.seq (.seq (.ai [qm 13 0,qu 14 (.aJ .geq 13 (.c (.rv (.one (.aa (.val (.int .u64 (256))))))))]) (.cond 14 (.seq (.ai [qm 15 0,qu 16 (.aJ .shr 15 (.c (.rv (.one (.aa (.val (.int .u64 (8)))))))),qm 0 16]) (.ai [qm 17 2,qu 18 (.aJ .add 17 (qi 8)),qm 2 18])) .skip)) (.seq (.ai [qm 19 2,qm 20 0,qu 21 (.conv .u8 20),qu 22 (.BO (.c (.rv (.one (.aa (.val (.string ⟨#[0,1,2,2,3,3,3,3,4,4,4,4,4,4,4,4,5,5,5,5,5,5,5,5,5,5,5,5,5,5,5,5,6,6,6,6,6,6,6,6,6,6,6,6,6,6,6,6,6,6,6,6,6,6,6,6,6,6,6,6,6,6,6,6,7,7,7,7,7,7,7,7,7,7,7,7,7,7,7,7,7,7,7,7,7,7,7,7,7,7,7,7,7,7,7,7,7,7,7,7,7,7,7,7,7,7,7,7,7,7,7,7,7,7,7,7,7,7,7,7,7,7,7,7,7,7,7,7,8,8,8,8,8,8,8,8,8,8,8,8,8,8,8,8,8,8,8,8,8,8,8,8,8,8,8,8,8,8,8,8,8,8,8,8,8,8,8,8,8,8,8,8,8,8,8,8,8,8,8,8,8,8,8,8,8,8,8,8,8,8,8,8,8,8,8,8,8,8,8,8,8,8,8,8,8,8,8,8,8,8,8,8,8,8,8,8,8,8,8,8,8,8,8,8,8,8,8,8,8,8,8,8,8,8,8,8,8,8,8,8,8,8,8,8,8,8,8,8,8,8,8,8,8,8,8,8]⟩)))))) 21),qu 23 (.conv .i64 22),qu 24 (.aJ .add 19 23),qm 2 24]) .ret)))))⟩
theorem l23:bu prog Tryz.f23=some c23:=by kernel_rfl
theorem l24:bu prog Tryz.f24=some c24:=by kernel_rfl
theorem l49:bu prog Tryz.f49=some c49:=by kernel_rfl
theorem l50:bu prog Tryz.f50=some c50:=by kernel_rfl
theorem l85:bu prog f85=some c85:=by kernel_rfl
theorem l94:bu prog f94=some c94:=by kernel_rfl
theorem l17:bu prog f17=some c17:=by kernel_rfl
theorem Qn{m:Mem}{K:CV->Mem->Prop}(h:K (an .i64 0) m):aq prog 94 [an .u64 0] m K:=
 bv (r0:=an .i64 0) func94 l94 rfl (aae rfl) (show body prog c94 [an .u64 0] [] (λr m=>r=an .i64 0)from rfl) rfl rfl h
theorem TU{m:Mem}{K:CV->Mem->Prop}(h:K (an .i64 0) m):aq prog 50 [an .u64 0] m K:=
 bv (r0:=an .i64 0) func50 l50 rfl (aae rfl) (show body prog c50 [an .u64 0] [] (λr m=>r=an .i64 0)from Qn rfl) rfl rfl h
theorem Xu{m:Mem}{K:CV->Mem->Prop}(h:K (.bz []) m):aq prog 85 [eJ [],an .i64 0,an .i64 0,.rv (.one (.fn 25 []))] m K:=by
 refine bv (r0:= .bz []) func85 l85 rfl (aae rfl) ?_ rfl rfl h;refine bb (λ_:Nat=>True) [0,1,2,3,8] (λ_=>[]) (λ_=>[]) (λ_=>0) 0 trivial ?_ (λ_ _=>?_)
 .refine View.o 0 [] [] ?_ (.nil _);repeat(first|exact .nil|refine .ap ?_|refine .eq rfl ?_)
 .rfl
theorem Xv{m:Mem}{K:CV->Mem->Prop}(h:K (.bz []) m):aq prog 49 [eJ [],an .i64 0,an .i64 0,an .i64 0,.rv (.one (.fn 25 []))] m K:=by
 refine bv (r0:= .bz []) func49 l49 rfl (aae rfl) ?_ rfl rfl h;refine bb (λ_:Nat=>True) [0,1,2,3,4,10,11] (λ_=>[]) (λ_=>[]) (λ_=>0) 0 trivial ?_ (λ_ _=>?_)
 .refine View.o 0 [] [] ?_ (.nil _);repeat(first|exact .nil|refine .ap ?_|refine .eq rfl ?_)
 .refine Xu ?_;rfl
theorem Qo{m:Mem}{K:CV->Mem->Prop}(h:K (.bz []) m):aq prog 24 [eJ [],.rv (.one (.fn 25 []))] m K:=by refine bv (r0:= .bz []) func24 l24 rfl (aae rfl) ?_ rfl rfl h;refine TU ?_;refine Xv ?_;rfl
theorem DB(l:List cR)(hl:l.length<=4194304):body prog c23 [eJ l] [] (λr m=>cQ m r (eJ l)):=by
 have sL:((([]:List (List CC)).length+((l.map cR.enc).map λds=>ds.map CC.aa).length)*32)<=140737488355328:=by simp;omega
 refine aM (λh=>?_) (λh=>?_)
 .have hd:l=[]:=aag (by simpa using aai h)
  subst hd;exact⟨.rv (.one (.aO 2)),sL,.rv (.one (eT.eU rfl 0 none))⟩
 .exact⟨sL,.rv (.one (eT.eU rfl 0 none))⟩
theorem JW(l:List cR)(hl:l.length<=4194304){m:Mem}{K:CV->Mem->Prop}(h:K (eJ l) m):aq prog 23 [eJ l] m K:=
 bg (aY func23 l23 (DB l hl)) (by simp[eJ,CV.du,CC.du]) λr m1 hf=>⟨_,hf,h⟩
theorem Bo(l:List cR)(dt:l≠[])(hl:l.length<=4194304):body prog c23 [eJ l] [] (λr m=>∃r' m',View 0 ⟨[r],m⟩ ⟨[r'],m'⟩/\r'= .rv (.one (.row 0 2 0 none))/\m'=[.row 2 (af (l.map cR.enc))]):=by
 have sL:((([]:List (List CC)).length+((l.map cR.enc).map λds=>ds.map CC.aa).length)*32)<=140737488355328:=by simp;omega
 refine pL ?_ ?_
 .have:(l.map cR.enc).length≠0:=by simp[dt]
  cases h:Nat.beq (l.map cR.enc).length 0 with
  |false=>rfl
  |true=>exact absurd (aai h) this
 .refine⟨sL,_,_,View.o 2 [1] [] (.eq rfl .nil) (.pt rfl rfl (.bI (by simp[af,bV])) (.nil _)),rfl,rfl⟩
theorem Gl(l:List cR)(dt:l≠[])(hl:l.length<=4194304){m:Mem}{K:CV->Mem->Prop}(h:K (.rv (.one (.row m.length 2 0 none))) (m++ [.row 2 (af (l.map cR.enc))])):aq prog 23 [eJ l] m K:=by
 refine bq [] m.length rfl rfl rfl rfl (args0:=[eJ l]) rfl (λi b' hi=>by simp at hi) (K0:=λr m=>r= .rv (.one (.row 0 2 0 none))/\m=[.row 2 (af (l.map cR.enc))])
  (bG (aY func23 l23 (Bo l dt hl)) λr m1 h=>h) (λr m1 hr=>?_)
 obtain⟨rfl,rfl⟩:=hr;refine⟨aaj _,?_⟩;show K (.rv (.one (.row (m.length+(0-0)) 2 0 none))) (gh m [Bk.aU _ _]);rw[bX,Bk.jk];exact h
theorem N1{m:Mem}{a b:RV}{f:Int×Int}(h:e7 m a b):cQ m (.bz [a,.agg [.aa (.val (.int .i64 f.1)),.aa (.val (.int .i64 f.2))]]) (.bz [b,.agg [.aa (.val (.int .i64 f.1)),.aa (.val (.int .i64 f.2))]]):=by
 refine .bz rfl λi r r' h1 h2=>?_
 match i,h1,h2 with
 |0,h1,h2=>cases h1;cases h2;exact h
 |1,h1,h2=>cases h1;cases h2;exact e7.self rfl
def Qp(l:List dA)(f:Int×Int):CV:= .bz [.one (.aa (xl l)),.agg [.aa (.val (.int .i64 f.1)),.aa (.val (.int .i64 f.2))]]
theorem JX(l:List cR):body prog c17 [eJ l] [] (λr m=>((cG l).1≠0->cQ m r (Qp [] (cG l)))/\((cG l).1=0->∃l',l'.Perm l/\gq l'/\cQ m r (Qp (dm l') (0,0)))):=by
 refine NS l ?_;refine bs (λh=>?_) (λh=>?_)
 .refine⟨trivial,?_⟩;have h:(cG l).1≠0:=h;exact⟨λ_=>N1 (.one (.aO 4)),λh0=>absurd h0 h⟩
 have h:(cG l).1=0:=h;obtain⟨Yo,hg,hd⟩:=uK h;have oZ:∀l':List cR,l'.Perm l->(1+(((c6 l'.length l').map dA.enc).map λds=>ds.map CC.aa).length)*32<=140737488355328:=by
  intro l' hp;have:=qM (n:=l'.length) (l:=l') (λp Kb=>(hg p (hp.mem_iff.1 Kb)).2.2.1) (by rw[hp.length_eq];exact Yo) (Ts _)
  simp;omega
 by_cases dt:l=[]
 .subst dt;refine JW [] (by decide) ?_
  refine Qo ?_;refine HL 0 [] (by decide) (by decide) aC ?_
  refine⟨by decide,λh0=>absurd h h0,λ_=>⟨[],.refl _,.nil,N1 (f:=(0,0)) (.one (eT.eU (ds:=(dm []).map dA.enc) rfl 0 none))⟩⟩
 .refine Gl l dt om ?_;refine NZ l dt om rfl λl' hp hs=>?_
  have hr:=JT hs (yn hp hd);have B6:l'.length<=30:=by rw[hp.length_eq];exact Yo
  refine pa (pM:=[eJ l']) (m':=[.var [.aa (.val (.int .i64 0)),.aa (.val (.int .i64 0))],.var [.aa (.val (.int .i64 (cG l).1)),.aa (.val (.int .i64 (cG l).2))],.aS,.row 4 [[.aa (.val (.int .i64 1)),.aa (.val (.int .i64 0)),.aa (.val (.int .i64 0)),.aa (.val (.int .i64 0))]]])
   (View.o 4 [0,1,2,3] [2] (.put (qQ.fy 2 (l'.map cR.enc) rfl rfl) .nil) (.pe rfl rfl rfl (.pe rfl rfl rfl (.aS (.pm rfl rfl rfl))))) ?_
  refine HL l'.length l' (Ts _) B6 (λp Kb=>(hg p (hp.mem_iff.1 Kb)).2.2.1) ?_
  refine⟨oZ l' hp,λh0=>absurd h h0,λ_=>⟨l',hp,hr,N1 (f:=(0,0)) (.one (eT.eU (ds:=(dm l').map dA.enc) ?_ 0 none))⟩⟩
  rfl
theorem Qq(l:List cR){m:Mem}{K:CV->Mem->Prop}(h1:(cG l).1≠0->K (Qp [] (cG l)) m)(h2:(cG l).1=0->∀l':List cR,l'.Perm l->gq l'->K (Qp (dm l') (0,0)) m):aq prog 17 [eJ l] m K:=by
 refine bg (aY func17 l17 (JX l)) (by simp[eJ,CV.du,CC.du]) λr m1 hf=>?_
 by_cases h:(cG l).1=0
 .obtain⟨l',hp,hr,hz⟩:=hf.2 h;exact⟨_,hz,h2 h l' hp hr⟩
 .exact⟨_,hf.1 h,h1 h⟩
def c18:LF:= ⟨10,[.cell true 3 0],(.seq (.ai [qu 0 (.alloc [.aO,.aO,.aO])]) (.seq (.ai [qu 1 (qc 28 []),qu 2 (.build [qd 0,qd 0] []),qu 3 (.nC 2 [qd 0,qd 0] 1 [(0,2)]),qu 4 (.build [qd 0,qd 0] [(1,1,qi 4095)]),qu 5 (.build [(.aa (.val (.bool false))),qd 0,qd 0] [(0,1,qb true),(1,2,4)]),qu 6 (.nC 3 [(.aa (.val (.bool false))),qd 0,qd 0] 1 [(0,5)]),qu 7 (.build [(.aa (.val (.bool false))),(.aa (.val (.bool false))),qd 0,.aO] [(0,1,qb true),(3,1,6)]),qu 8 (.nC 4 [(.aa (.val (.bool false))),(.aa (.val (.bool false))),qd 0,.aO] 1 [(0,7)]),qu 9 (.build [.aO,.aO,.aO] [(0,1,1),(1,1,3),(2,1,8)]),qw (.store 3 0 9)]) .ret))⟩
theorem l18:bu prog f18=some c18:=by kernel_rfl
def gu:Obj:=⟨2,[],[],⟨#[]⟩,-1,[],-1,1,0⟩
def ef:Kr:=⟨[gu],[⟨0,0⟩],[⟨true,false,0,[⟨true,0,4095⟩]⟩]⟩
theorem TV{m:Mem}{Z:Nat->Prop}{p:Option Nat}:j7 m Z p [.aa (.val (.int .i64 2)),.aO,.aO,.aa (.val (.string ⟨#[]⟩)),.aa (.val (.int .i64 (-1))),.aO,.aa (.val (.int .i64 (-1))),.aa (.val (.int .i64 1)),.aa (.val (.int .i64 0))] gu.enc:=
 .cons (.aa _) (.cons (.aO 1) (.cons (.aO 2) (.cons (.aa _) (.cons (.aa _) (.cons (.aO 4) (.cons (.aa _) (.cons (.aa _) (.cons (.aa _) .nil))))))))
theorem N2:body prog c28 [] [] (λr m=>∃r' m',View 0 ⟨[r],m⟩ ⟨[r'],m'⟩/\r'=cz [gu]/\m'=[]):=
 ⟨_,[],View.o 1 [] [0] (.put (.rv (.one (.fy (gL.fy (Z:=λk=>bw [0] k=true) (.cons TV .nil) rfl rfl)))) .nil) (.nil _),rfl,rfl⟩
theorem TW{m:Mem}{K:CV->Mem->Prop}(h:K (cz [gu]) m):aq prog 28 [] m K:=by
 refine bg (K0:=λr m=>r=cz [gu]/\m=[]) (bG (aY func28 l28 N2) λr m1 h=>h) aC λr m1 hr=>?_
 obtain⟨rfl,rfl⟩:=hr;exact⟨_,cQ.self rfl,h⟩
theorem JY:body prog c18 [] [] (λr m=>∃r' m',View 0 ⟨[r],m⟩ ⟨[r'],m'⟩/\r'=d9 ef.l ef.ops ef.ps/\m'=[]):=by
 refine TW ?_;refine⟨_,[],View.o 4 [] [1,2,3] (.put (pN.agg (.cons (.aU (.aa _)) (.cons (.fy (gL.fy (Z:=λk=>bw [1,2,3] k=true) (.cons (.cons (.aa _) (.cons (.aa _) .nil)) .nil) rfl rfl))
  (.cons (.fy (gL.fy (Z:=λk=>bw [1,2,3] k=true) (.cons (.cons (.aa _) (.cons (.aa _) (.cons (.aa _) (.cons (gL.fy (.cons (.cons (.aa _) (.cons (.aa _) (.cons (.aa _) .nil))) .nil) rfl rfl) .nil)))) .nil) rfl rfl)) .nil)))) .nil) (.nil _),rfl,rfl⟩
theorem Qr{m:Mem}{K:CV->Mem->Prop}(h:K (d9 ef.l ef.ops ef.ps) m):aq prog 18 [] m K:=by
 refine bg (K0:=λr m=>r=d9 ef.l ef.ops ef.ps/\m=[]) (bG (aY func18 l18 JY) λr m1 h=>h) aC λr m1 hr=>?_
 obtain⟨rfl,rfl⟩:=hr;exact⟨_,cQ.self rfl,h⟩
theorem xA:dF ef.l ef.ops ef.ps:=
 ⟨λo ho=>by simp[ef]at ho;subst ho;exact⟨⟨⟨[],rfl⟩,⟨[],rfl⟩,λq hq=>by simp[gu]at hq⟩,by simp[gu],by simp[gu],by simp[gu],λq hq=>by simp[gu]at hq⟩,by simp[ef],by simp[ef],by simp[ef],λp hp=>by simp[ef]at hp;subst hp;simp,by simp[ef]⟩
end Go.Proofs.YtodckkkbiidffaaGreatDoor
namespace Go.Proofs.YtodckkkbiidffaaGreatDoor
open Go.AM Go.ChangeShapes Go.WideShapes Go.ChangeAt Go.RowKit
namespace Kn
theorem Qs:KI ef:=by
 have hm:∀o,o∈ef.l->o=gu:=λo ho=>by simpa[ef]using ho
 have hp:∀x,x∈ef.ps->x=⟨true,false,0,[⟨true,0,4095⟩]⟩:=λx hx=>by simpa[ef]using hx
 refine⟨by simp[ef],by simp[ef],by simp[ef],xA.sm,xA.sl,xA.ne,λx hx hl=>?_,λx hx s hs hh=>?_,λo ho q hq=>?_,λo ho h5=>?_,λo ho=>?_,λo ho hk=>?_,λi o ho hk=>?_,λo ho=>?_,λo ho=>?_,?_⟩
 .rw[hp x hx]at hl;cases hl
 .rw[hp x hx]at hs;have:s=⟨true,0,4095⟩:=by simpa using hs
  subst this;exact⟨⟨by decide,by decide⟩,0,⟨0,0⟩,rfl,rfl,0,gu,rfl,rfl,by simp[gu]⟩
 .rw[hm o ho]at hq;cases hq
 .rw[hm o ho]at h5;simp[gu]at h5
 .rw[hm o ho];exact⟨rfl,List.Pairwise.nil,λ_=>rfl,λe he=>by cases he⟩
 .rw[hm o ho]at hk;simp[gu]at hk
 .rw[hm o (RD ho)]at hk;simp[gu]at hk
 .have:o=⟨0,0⟩:=by simpa[ef]using ho
  subst this;exact⟨acu _,by show(0:Int)<=64;omega⟩
 .rw[hm o ho];simp[gu]
 .have one:∀(i:Nat)d,(ef.l.map u0)[i]? =some d->i=0/\d=u0 gu:=λi d hd=>by
   match i,hd with
   |0,hd=>cases hd;exact⟨rfl,rfl⟩
   |n+1,hd=>simp[ef]at hd
  refine⟨λi d hd hz=>?_,⟨u0 gu,rfl,rfl,rfl,rfl⟩,λi d e hd he=>?_,λi i' d d' e e' hd x7 he=>?_,λi d hd _=>?_,λi d hd hz=>?_,λi d hd=>?_,λi d hd=>?_⟩
  .rw[(one i d hd).2]at hz;simp[u0,gu]at hz
  .rw[(one i d hd).2]at he;cases he
  .rw[(one i d hd).2]at he;cases he
  .rw[(one i d hd).1];exact .al
  .rw[(one i d hd).2]at hz;simp[u0,gu]at hz
  .rw[(one i d hd).2];exact .inr rfl
  .rw[(one i d hd).2,(one i d hd).1];exact .inl rfl
def oT(cs:List Cl):CV:= .rv (.one (.aa (.sl 9 (cs.map Cl.enc))))
theorem TY{cs:List Cl}{i:Nat}(h:i<cs.length):dx (cs.map Cl.enc) (i:Nat)=some (cs[i].enc):=by rw[bA,RA,uX h];rfl
structure xD(cs:List Cl):Prop where
 l:cs.length<=1048576
 d:∀c,c∈cs->c.data.length<=4194304
end Kn
namespace Kn
def clN:Cl:=⟨0,0,0,0,0,0,0,[],[]⟩
end Kn
namespace Kn
def kE(k:Kr):List Dt:=kC k.l k.ops k.ps
structure Xw(cs:List Cl):Prop where
 l:cs.length<=1048576
 d:∀c,c∈cs->c.data.length<=4194304
end Kn
namespace Kn
theorem HM{prog:List dA}{k:Kr}{c:Cl}(h:(lI prog k c).2.fC≠0):∃e,lI prog k c=(k,An.no e):=by
 unfold lI at h|-;split
 .exact⟨_,rfl⟩
 rename_i h1;rw[if_neg h1]at h;split
 .exact⟨_,rfl⟩
 rename_i h2;rw[if_neg h2]at h;split
 .exact⟨_,rfl⟩
 rename_i h3;rw[if_neg h3]at h;unfold OJ at h|-;split
 .exact⟨_,rfl⟩
 rename_i h4;rw[if_neg h4]at h;exact absurd h h4
end Kn
namespace Kn
def nE(k v:Int):ME:=⟨.int .i64 k,.one (.aa (.val (.int .i64 v)))⟩
theorem Bp{prog:List dA}{k:Kr}{c:Cl}(h:(lI prog k c).2.fC=0):∃p:Nat,c.aA=p/\∃hp:p<k.ps.length,k.ps[p].aQ=true/\1<=c.ah/\c.ah<=22/\(fF k p c).2.fC=0/\lI prog k c=(gK (fF k p c).1,(fF k p c).2):=by
 unfold lI at h|-;split at h
 .cases h
 rename_i h1;split at h
 .cases h
 rename_i h2;split at h
 .cases h
 rename_i h3;obtain⟨p,hc,hp,hl⟩:=oG (by simpa using h1)
 unfold OJ at h|-;split at h
 .rename_i h4;exact absurd h h4
 rename_i h4;rw[hc,aac]at h h3 h4;rw[hc]at h1;refine⟨p,hc,hp,hl,om,om,h,?_⟩;rw[hc,if_neg h1,if_neg h2,aac,if_neg h3,if_neg h4]
end Kn
end Go.Proofs.YtodckkkbiidffaaGreatDoor
